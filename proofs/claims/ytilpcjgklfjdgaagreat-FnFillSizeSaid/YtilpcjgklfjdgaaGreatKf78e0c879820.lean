/- A part of the proof: what the functions that the law calls answer, as pure values. -/
import Derived.Test.YtilpcjgklfjdgaaGreatKad3b8d3eb113
import Derived.Test.YtilpcjgklfjdgaaGreatK3a0aab826f7f
import Derived.Test.YtilpcjgklfjdgaaGreatK4a594d8f96c4
set_option linter.unusedSimpArgs false
set_option linter.unusedVariables false
section
set_option linter.unusedVariables false
set_option linter.unusedSimpArgs false
namespace Go.Abs
theorem uses_n (nm : Form) (hnm : nm.kind = 1) : ∀ (n : Nat) (f : Form), f.w ≤ n → Tr (fun m => zdB m f nm) (Form.part nm f) := by
  intro n
  induction n with
  | zero => intro f h; have := f.w_kids; omega
  | succ n ih =>
    intro f hn
    have hw := f.w_kids
    rw [Form.part_eq]
    have kids : Tr (fun m => zcV m f nm) (Form.parts nm f.kids) := by
      refine Tr.step (fun m => by rw [zcV]) ?_
      have key := zae f.kids (fun k zs => Tr (fun m => zch m f nm (k : Int)) (Form.parts nm zs)) ?_ ?_ 0 (Nat.zero_le _)
      · exact key
      · exact Tr.step (fun m => by rw [zch, zT, cond_false, Form.parts]) Tr.val
      · intro k x zs hk hx hd ihk
        have hm := Form.ws_mem (List.mem_of_getElem? hx)
        refine Tr.step (fun m => by rw [zch, ltN hk, cond_true, zC hx, Option.bind_some, za7]) (Tr.bind (ih x (by omega)) ?_)
        rw [Form.parts]
        cases Form.part nm x with
        | true => exact Tr.tt rfl Tr.val
        | false => exact Tr.ff rfl ihk
    refine Tr.step (fun m => by rw [zdB]) ?_
    by_cases h1 : f.kind = 1
    · refine Tr.tt (decide_eq_true h1) (Tr.bind (zcM f nm) ?_)
      cases same f nm with
      | true => exact Tr.tt rfl Tr.val
      | false => exact Tr.ff rfl kids
    · have hs : same f nm = false := same_ne (fun e => h1 (e ▸ hnm))
      rw [hs, Bool.false_or]
      exact Tr.ff (decide_eq_false h1) kids
theorem hit_kind {h : Hit} (hk : h.isOk = true) : h.name.kind = 1 := by
  have hn := (zgP hk).1
  unfold isNm at hn
  rw [Bool.and_eq_true, decide_eq_true_eq] at hn
  exact hn.1
theorem deepB_pos {x : Form} {h : Hit} (hk : h.isOk = true) : zdt x h = (decide (0 < h.depth) && Form.part h.name x) := by
  have := (zgP hk).2.1.1
  unfold zdt
  by_cases h0 : h.depth = 0
  · rw [decide_eq_true h0, decide_eq_false (by omega)]; simp
  · rw [decide_eq_false h0, decide_eq_true (by omega)]; simp
section
variable {hs : List Hit}
theorem count_tr (x : Form) (hok : ∀ h ∈ hs, h.isOk = true) : Tr (fun m => zfh m x hs) (match cntR x (-1) hs with
    | none => -1
    | some N => N) := by
  refine Tr.eq (fun m => by unfold zfh; rfl) ?_
  have key := zae hs (fun j zs => ∀ n : Int, cntR x n zs = cntR x (-1) hs → Tr (fun m => zbE m x hs (j : Int) n) (match cntR x (-1) hs with
    | none => -1
    | some N => N)) ?_ ?_ 0 (Nat.zero_le _) (-1) (by rw [List.drop_zero])
  · exact key
  · intro n h2
    rw [cntR] at h2
    rw [← h2]
    exact Tr.step (fun m => by rw [zbE, zT, cond_false]) Tr.val
  · intro j h zs hj hx hd ih n h2
    have hm := List.mem_of_getElem? hx
    rw [cntR] at h2
    have j2 : Tr (fun m => zbY m x hs (j : Int) n (!zdt x h)) (match cntR x (-1) hs with
      | none => -1
      | some N => N) := by
      cases hb : zdt x h with
      | false =>
        rw [hb, cond_false] at h2
        exact Tr.step (fun m => by rw [zbY, Bool.not_false, cond_true, za7]) (ih n h2)
      | true =>
        rw [hb, cond_true] at h2
        have j3 : (decide (0 ≤ n) && decide (n ≠ (h.many.length : Int))) = false → Tr (fun m => zcB m x hs (j : Int)) (match cntR x (-1) hs with
          | none => -1
          | some N => N) := fun hc => by
          rw [hc, cond_false] at h2
          exact Tr.step (fun m => by rw [zcB, zC hx, Option.bind_some, za7]) (ih _ h2)
        refine Tr.step (fun m => by rw [zbY, Bool.not_true, cond_false]) ?_
        by_cases hn : 0 ≤ n
        · refine Tr.tt (decide_eq_true hn) (Tr.eq (fun m => by rw [zC hx, Option.bind_some]) ?_)
          by_cases hne : n = (h.many.length : Int)
          · have hcc : decide (n ≠ (h.many.length : Int)) = false := decide_eq_false (fun hh => hh hne)
            exact Tr.ff hcc (j3 (by rw [hcc, Bool.and_false]))
          · rw [decide_eq_true hn, decide_eq_true (by exact hne), Bool.and_self, cond_true] at h2
            rw [← h2]
            exact Tr.tt (decide_eq_true (by exact hne)) Tr.val
        · exact Tr.ff (decide_eq_false hn) (j3 (by rw [decide_eq_false hn, Bool.false_and]))
    refine Tr.step (fun m => by rw [zbE, ltN hj, cond_true, zC hx, Option.bind_some]) ?_
    by_cases h0 : h.depth = 0
    · have : zdt x h = false := by unfold zdt; rw [decide_eq_true h0]; simp
      rw [this] at j2
      exact Tr.tt (decide_eq_true h0) j2
    · have : zdt x h = Form.part h.name x := by unfold zdt; rw [decide_eq_false h0]; simp
      rw [this] at j2
      exact Tr.ff (decide_eq_false h0) (Tr.eq (fun m => by rw [Option.bind_some]) (Tr.bind (uses_n h.name (hit_kind (hok h hm)) _ x (Nat.le_refl _)) j2))
theorem nth_tr (x : Form) (n : Nat) (hok : ∀ h ∈ hs, h.isOk = true) (hsl : hs.length ≤ 20) (hlen : ∀ h ∈ hs, zdt x h = true → n < h.many.length) : Tr (fun m => zfO m x hs (n : Int)) (nthR x n hs) := by
  refine Tr.eq (fun m => by unfold zfO; rfl) ?_
  have key := zae hs (fun j zs => ∀ g : List Hit, g.length = j → g ++ nthR x n zs = nthR x n hs → Tr (fun m => zb7 m x hs (n : Int) g (j : Int)) (nthR x n hs)) ?_ ?_ 0 (Nat.zero_le _) [] rfl (by rw [List.drop_zero, List.nil_append])
  · exact key
  · intro g hg he
    have : nthR x n [] = [] := rfl
    rw [this, List.append_nil] at he
    rw [← he]
    exact Tr.step (fun m => by rw [zb7, zT, cond_false]) Tr.val
  · intro j h zs hj hx hd ih g hg he
    have hm := List.mem_of_getElem? hx
    have he' : (g ++ [bif zdt x h then h.many.getD n hit0 else h]) ++ nthR x n zs = nthR x n hs := by rw [← he, List.append_assoc]; rfl
    have j2 : Tr (fun m => zcN m x hs (n : Int) g (j : Int) h (zdt x h)) (nthR x n hs) := by
      cases hb : zdt x h with
      | true =>
        rw [hb, cond_true] at he'
        have hn := hlen h hm hb
        have hmn : h.many[n]? = some (h.many.getD n hit0) := by rw [List.getD_eq_getElem?_getD, List.getElem?_eq_getElem hn]; rfl
        refine Tr.step (fun m => by rw [zcN, cond_true, zC hmn, Option.bind_some]) (Tr.chk (decide_eq_true (by simp; omega)) ?_)
        exact Tr.eq (fun m => by rw [za7]) (ih _ (by simp [hg]) he')
      | false =>
        rw [hb, cond_false] at he'
        refine Tr.step (fun m => by rw [zcN, cond_false]) (Tr.chk (decide_eq_true (by simp; omega)) ?_)
        exact Tr.eq (fun m => by rw [za7]) (ih _ (by simp [hg]) he')
    refine Tr.step (fun m => by rw [zb7, ltN hj, cond_true, zC hx, Option.bind_some]) ?_
    rw [deepB_pos (hok h hm)] at j2
    cases h0 : decide (0 < h.depth) with
    | true =>
      rw [h0, Bool.true_and] at j2
      exact Tr.tt rfl (Tr.bind (uses_n h.name (hit_kind (hok h hm)) _ x (Nat.le_refl _)) j2)
    | false =>
      rw [h0, Bool.false_and] at j2
      exact Tr.ff rfl j2
end
section
variable {f : Form} {hs : List Hit}
def resS (f : Form) (acc : List Form) : Option (List Form) → Form × Bool
  | some ys => bif decide (Form.cnts (acc ++ ys) ≤ 400) then (Form.mk f.kind f.name f.n f.scopes (acc ++ ys), true) else (f, false)
  | none => (f, false)
theorem resS_some {acc ys : List Form} : resS f acc (some ys) = bif decide (Form.cnts (acc ++ ys) ≤ 400) then (Form.mk f.kind f.name f.n f.scopes (acc ++ ys), true) else (f, false) := rfl
theorem resS_none {acc : List Form} {o : Option (List Form)} : resS f acc (fapp none o) = (f, false) := by cases o <;> rfl
theorem resS_app {acc a : List Form} {o : Option (List Form)} : resS f acc (fapp (some a) o) = resS f (acc ++ a) o := by
  cases o with
  | none => rfl
  | some b => unfold resS fapp; simp only [List.append_assoc]
theorem resS_big {acc : List Form} {o : Option (List Form)} (h : 400 < Form.cnts acc) : resS f acc o = (f, false) := by
  cases o with
  | none => rfl
  | some ys =>
    have h2 : ¬ Form.cnts (acc ++ ys) ≤ 400 := by rw [zg2]; omega
    rw [resS_some, decide_eq_false h2]; rfl
theorem sfill_l5_tr {l : List (Form × Int)} {vv : Nat} (k : Nat) (x : Form) (hx : f.kids[k]? = some x) (hk : k < 2 ^ 40) (row : Bool) (D : Nat → List Hit) (N : Nat) (hN : N ≤ 400) (hw : x.w ≤ 2 ^ 30)
    (hD : ∀ i, i < N → bif row then Tr (fun m => zfO m x hs (i : Int)) (D i) else D i = hs)
    (hb : ∀ i, i < N → Tr (fun m => zc9 m x (D i)) (match x.fl (D i) with
      | some y => (y, true)
      | none => (x, false))) (hF : ∀ i, i < N → zgB l vv (D i) x) {o : Option (List Form)}
    (hK : ∀ acc, Form.cnts acc ≤ 400 → Tr (fun m => zbz m f hs ((k + 1 : Nat) : Int) (Form.cnts acc : Int) acc) (resS f acc o)) :
    ∀ (j n : Nat), n + j = N → ∀ acc, Form.cnts acc ≤ 400 → Tr (fun m => zcj m f hs (k : Int) row (N : Int) (Form.cnts acc : Int) (n : Int) acc) (resS f acc (fapp (rowF (fun i => x.fl (D i)) n j) o)) := by
  intro j
  induction j with
  | zero =>
    intro n hn acc ha
    have : n = N := by omega
    subst this
    rw [rowF, resS_app, List.append_nil]
    exact Tr.step (fun m => by rw [zcj, zT, cond_false, zav (by omega), za7]) (hK acc ha)
  | succ j ih =>
    intro n hn acc ha
    have hnN : n < N := by omega
    have hcl := cnts_len acc
    have j6 : Tr (fun m => zcW m f hs (k : Int) row (N : Int) (Form.cnts acc : Int) (n : Int) acc (D n)) (resS f acc (fapp (rowF (fun i => x.fl (D i)) n (j + 1)) o)) := by
      have hbn := hb n hnN
      refine Tr.step (fun m => by rw [zcW, zC hx, Option.bind_some]) (Tr.bind hbn ?_)
      cases hxf : x.fl (D n) with
      | none =>
        have e : rowF (fun i => x.fl (D i)) n (j + 1) = none := by rw [rowF]; simp only [hxf]
        rw [e, resS_none]
        dsimp only
        refine Tr.bind (l1Count_n _ x (Nat.le_refl _) (by omega)) ?_
        exact Tr.eq (fun m => by rw [Bool.not_false, cond_true]) (Tr.step (fun m => by rw [zck, cond_true]) Tr.val)
      | some y =>
        have hFy := fl_ok (hF n hnN) hxf
        have hyw := hFy.w
        have hyc := hFy.cnt
        have e : resS f acc (fapp (rowF (fun i => x.fl (D i)) n (j + 1)) o) = resS f (acc ++ [y]) (fapp (rowF (fun i => x.fl (D i)) (n + 1) j) o) := by
          rw [rowF]
          simp only [hxf]
          cases rowF (fun i => x.fl (D i)) (n + 1) j with
          | none => simp only [resS_none]
          | some ys => simp only [resS_app, List.append_assoc, List.singleton_append]
        rw [e]
        dsimp only
        have hcs : Form.cnts (acc ++ [y]) = Form.cnts acc + y.cnt := by rw [zg2, Form.cnts, Form.cnts, Nat.add_zero]
        have e1 : (Form.cnts acc : Int) + (y.cnt : Int) = ((Form.cnts (acc ++ [y]) : Nat) : Int) := by rw [hcs]; simp
        refine Tr.bind (l1Count_n _ y (Nat.le_refl _) (by omega)) (Tr.eq (fun m => by rw [Bool.not_true, cond_false, zav (by omega), e1]) ?_)
        by_cases hc : Form.cnts (acc ++ [y]) ≤ 400
        · refine Tr.step (fun m => by rw [zck, decide_eq_false (show ¬ (400 : Int) < ((Form.cnts (acc ++ [y]) : Nat) : Int) by omega), cond_false]) ?_
          refine Tr.chk (decide_eq_true (by simp; omega)) ?_
          exact Tr.eq (fun m => by rw [zav (by omega), zav (by omega), e1, za7]) (ih (n + 1) (by omega) (acc ++ [y]) hc)
        · rw [resS_big (by omega)]
          exact Tr.step (fun m => by rw [zck, decide_eq_true (show (400 : Int) < ((Form.cnts (acc ++ [y]) : Nat) : Int) by omega), cond_true]) Tr.val
    have hDn := hD n hnN
    refine Tr.step (fun m => by rw [zcj, ltN hnN, cond_true]) ?_
    cases row with
    | true => exact Tr.tt rfl (Tr.eq (fun m => by rw [zC hx, Option.bind_some]) (Tr.bind hDn j6))
    | false =>
      rw [cond_false] at hDn
      rw [hDn] at j6
      exact Tr.ff rfl j6
theorem sfill_l2_tr {l : List (Form × Int)} {v : Nat} (hF : zgB l v hs f) (hw : f.w ≤ 2 ^ 30) (ih : ∀ x ∈ f.kids, ∀ v' hs', zgB l v' hs' x → Tr (fun m => zc9 m x hs') (match x.fl hs' with
      | some y => (y, true)
      | none => (x, false))) : ∀ (rest : List Form) (k : Nat) (acc : List Form), f.kids.drop k = rest → k ≤ f.kids.length → Form.cnts acc ≤ 400 →
    Tr (fun m => zbz m f hs (k : Int) (Form.cnts acc : Int) acc) (resS f acc (Form.fls rest hs))
  | [], k, acc, hd, hk, ha => by
    have : k = f.kids.length := by have := congrArg List.length hd; rw [List.length_drop] at this; simp at this; omega
    subst this
    rw [Form.fls, resS_some, List.append_nil, decide_eq_true ha, cond_true]
    exact Tr.step (fun m => by rw [zbz, zT, cond_false, List.nil_append]) Tr.val
  | x :: xs, k, acc, hd, hk, ha => by
    obtain ⟨hx, hd2, hlt⟩ := drop_cons' hd
    have hm := List.mem_of_getElem? hx
    have hfw := f.w_kids
    have hxw := Form.ws_mem hm
    have hkl := Form.ws_len f.kids
    refine Tr.step (fun m => by rw [zbz, ltN hlt, cond_true, zC hx, Option.bind_some]) (Tr.bind (zeA x) ?_)
    rw [Form.fls_eq]
    have hgo := fun acc => sfill_l2_tr hF hw ih xs (k + 1) acc hd2 hlt
    cases hdx : zJ x with
    | true =>
      rw [cond_true]
      exact Tr.tt rfl (Tr.eq (fun m => by rw [za7]) (hgo acc ha))
    | false =>
      rw [cond_false]
      refine Tr.ff rfl ?_
      have one : zb4 xs = false → Tr (fun m => zcm m f hs (k : Int) (Form.cnts acc : Int) acc false) (resS f acc (fapp (match x.fl hs with
          | none => none
          | some y => some [y]) (Form.fls xs hs))) := by
        intro hn
        have hFx := hF.kid hx hdx (by rw [hd2]; exact hn)
        refine Tr.step (fun m => by rw [zcm, cond_false]) (Tr.step (fun m => by rw [zcl, decide_eq_false (by omega), cond_false]) ?_)
        have := sfill_l5_tr (f := f) (hs := hs) k x hx (by omega) false (fun _ => hs) 1 (by omega) (by omega) (fun i _ => rfl) (fun i _ => ih x hm v hs hFx) (fun i _ => hFx) (o := Form.fls xs hs) (fun acc' ha' => hgo acc' ha') 1 0 rfl acc ha
        have e : rowF (fun _ : Nat => x.fl hs) 0 1 = (match x.fl hs with
          | none => none
          | some y => some [y]) := by
          rw [rowF, rowF]
          cases x.fl hs <;> rfl
        rw [e] at this
        exact this
      rcases next_get hd with ⟨hz, hl⟩ | ⟨y, ys, hz, hy, hl⟩
      · subst hz
        rw [show zb4 ([] : List Form) = false from rfl, cond_false]
        exact Tr.ff (decide_eq_false (by omega)) (one rfl)
      · refine Tr.tt (decide_eq_true (by omega)) (Tr.eq (fun m => by rw [za7, zC hy, Option.bind_some]) (Tr.bind (zeA y) ?_))
        have hnx : zb4 xs = zJ y := by rw [hz]; rfl
        cases hdy : zJ y with
        | false =>
          rw [hnx, hdy, cond_false]
          exact one (by rw [hnx, hdy])
        | true =>
          rw [hnx, hdy, cond_true]
          obtain ⟨r1, r2⟩ := hF.row hx hdx (by rw [hd2, hnx, hdy])
          obtain ⟨hall, hsl⟩ := zgn hF.hv
          refine Tr.step (fun m => by rw [zcm, cond_true, zC hx, Option.bind_some]) (Tr.bind (count_tr x hall) ?_)
          cases hc : cntR x (-1) hs with
          | none =>
            rw [resS_none]
            exact Tr.step (fun m => by rw [zcl]; rfl) Tr.val
          | some N =>
            obtain ⟨c0, c1, c2⟩ := cntR_lt hF.hv r1 hc
            have hFi : ∀ i, i < N.toNat → zgB l (v + 1) (nthR x i hs) x := fun i hi => r2 i (fun h hh hdp => by rw [c2 h hh hdp]; exact hi)
            refine Tr.step (fun m => by rw [zcl, decide_eq_false (show ¬ N < 0 by omega), cond_false]) ?_
            have := sfill_l5_tr (f := f) (hs := hs) k x hx (by omega) true (fun i => nthR x i hs) N.toNat (by omega) (by omega) (fun i hi => nth_tr x i hall hsl (fun h hh hdp => by rw [c2 h hh hdp]; exact hi)) (fun i hi => ih x hm (v + 1) _ (hFi i hi)) hFi (o := Form.fls xs hs) (fun acc' ha' => hgo acc' ha') N.toNat 0 (by omega) acc ha
            rw [Int.toNat_of_nonneg c0] at this
            exact this
end
theorem specFill_n (l : List (Form × Int)) : ∀ (n : Nat) (f : Form), f.w ≤ n → f.w ≤ 2 ^ 30 → ∀ v hs, zgB l v hs f → Tr (fun m => zc9 m f hs) (match f.fl hs with
      | some y => (y, true)
      | none => (f, false)) := by
  intro n
  induction n with
  | zero => intro f h; have := f.w_kids; omega
  | succ n ih =>
    intro f hn hw v hs hF
    have hfw := f.w_kids
    rw [Form.fl_eq]
    obtain ⟨d, hok⟩ := hF.ok
    have rest : Tr (fun m => zcn m f hs (-1)) (match (match Form.fls f.kids hs with
        | none => none
        | some ys => bif decide (Form.cnts ys ≤ 400) then some (Form.mk f.kind f.name f.n f.scopes ys) else none) with
      | some y => (y, true)
      | none => (f, false)) := by
      refine Tr.step (fun m => by rw [zcn, decide_eq_false (by omega), cond_false]) ?_
      refine Tr.chk (decide_eq_true (by simp; omega)) ?_
      have := sfill_l2_tr hF hw (fun x hx v' hs' hF' => ih x (by have := Form.ws_mem hx; omega) (by have := Form.ws_mem hx; omega) v' hs' hF') f.kids 0 [] (by rw [List.drop_zero]) (Nat.zero_le _) (by rw [Form.cnts]; omega)
      cases hf : Form.fls f.kids hs with
      | none => rw [hf] at this; exact this
      | some ys =>
        rw [hf, resS_some, List.nil_append] at this
        simp only
        cases hc : decide (Form.cnts ys ≤ 400) with
        | true => rw [hc, cond_true] at this; rw [cond_true]; exact this
        | false => rw [hc, cond_false] at this; rw [cond_false]; exact this
    refine Tr.step (fun m => by rw [zc9]) ?_
    by_cases h1 : f.kind = 1
    · rw [decide_eq_true h1, cond_true]
      refine Tr.tt rfl (Tr.bind (l4Find_tr hs f) ?_)
      unfold findO
      rcases hF.leaf with hl | ⟨i, h, hl, hi, h0, hv⟩
      · rw [hl, decide_eq_false (by omega), cond_false]
        have hk : f.kids = [] := (zeZ hok).1 (by omega)
        have e : Form.mk f.kind f.name f.n f.scopes [] = f := by
          obtain ⟨a, b, c, dd, ee⟩ := f
          replace hk : ee = [] := hk
          subst hk; rfl
        have e3 : decide (Form.cnts [] ≤ 400) = true := decide_eq_true (by rw [Form.cnts]; omega)
        have e2 : (match Form.fls f.kids hs with
          | none => none
          | some ys => bif decide (Form.cnts ys ≤ 400) then some (Form.mk f.kind f.name f.n f.scopes ys) else none) = some f := by
          rw [hk, Form.fls]
          simp only
          rw [e3, cond_true, e]
        rw [e2] at rest
        exact rest
      · rw [hl, decide_eq_true (by omega), cond_true, Int.toNat_natCast, List.getD_eq_getElem?_getD, hi, Option.getD_some]
        have := valid_w hv
        refine Tr.step (fun m => by rw [zcn, decide_eq_true (by omega), cond_true, zC hi, Option.bind_some]) (Tr.bind (zfo _ h.one (Nat.le_refl _) (by omega)) ?_)
        refine Tr.eq (fun m => by rw [Option.bind_some, h0]) ?_
        exact Tr.val
    · rw [decide_eq_false h1, cond_false]
      exact Tr.ff rfl rest
end Go.Abs
end
section
set_option linter.unusedVariables false
set_option linter.unusedSimpArgs false
namespace Go.Abs
noncomputable def fillV (o : Option Form) : Form × Bool := match o with
  | some y => bif y.valid then (y, true) else (zcz, false)
  | none => (zcz, false)
noncomputable def fillT (t : Form) (hs : List Hit) : Form × Bool := bif hvOk hs && zgU t (nd hs) then fillV (t.fl hs) else (zcz, false)
theorem zha {t : Form} {l : List (Form × Int)} (h : zgU t l = true) : t.valid = true ∧ zJ t = false ∧ t.dotsOk false = true ∧ t.rws l 0 = true := by
  unfold zgU at h
  simp only [Bool.and_eq_true, Bool.not_eq_true'] at h
  exact ⟨h.1, h.2.1, h.2.2.1, h.2.2.2⟩
theorem fillS_of {t : Form} {hs : List Hit} (hv : hvOk hs = true) (ht : zgU t (nd hs) = true) : zgB (nd hs) 0 hs t := by
  obtain ⟨h1, h2, h3, h4⟩ := zha ht
  unfold Form.valid at h1
  rw [Bool.and_eq_true] at h1
  exact ⟨hv, h4, ⟨40, h1.1⟩, fun g _ _ => by simp⟩
theorem implFillTemplate_tr (t : Form) (hs : List Hit) (hf : t.fit) (hb : t.w ≤ 2 ^ 36) (hl : Hit.fits hs) (hlb : Hit.ws hs ≤ 2 ^ 36) (hfo : ∀ y, t.fl hs = some y → y.fit) : Tr (fun m => zdr m t hs) (fillT t hs) := by
  refine Tr.eq (fun m => by unfold zdr; rfl) (Tr.bind (implTemplateValid_tr t hs hf hb hl hlb) ?_)
  unfold fillT
  cases hg : (hvOk hs && zgU t (nd hs)) with
  | false => exact Tr.tt rfl Tr.val
  | true =>
  rw [Bool.and_eq_true] at hg
  have hS := fillS_of hg.1 hg.2
  have hw := valid_w (zha hg.2).1
  refine Tr.ff rfl (Tr.bind (implFill_n (nd hs) _ t (Nat.le_refl _) (by omega) 0 hs hS) ?_)
  rw [cond_true]
  unfold fillV
  cases hfl : t.fl hs with
  | none => exact Tr.tt rfl Tr.val
  | some y =>
    have hyw := (fl_ok hS hfl).w
    dsimp only
    refine Tr.eq (fun m => by rw [Bool.not_true, cond_false]) (Tr.bind (v := bif y.valid then (y, true) else (zcz, false)) ?_ ?_)
    · refine Tr.eq (fun m => by unfold zgJ; rfl) (Tr.bind (zfH y (hfo y hfl)) ?_)
      cases y.valid with
      | false => exact Tr.tt rfl Tr.val
      | true => exact Tr.ff rfl (Tr.bind (copyForm_tr y (by omega)) Tr.val)
    · cases y.valid <;> exact Tr.val
theorem specFillTemplate_tr (t : Form) (hs : List Hit) (hf : t.fit) (hb : t.w ≤ 2 ^ 36) (hl : Hit.fits hs) (hlb : Hit.ws hs ≤ 2 ^ 36) (hfo : ∀ y, t.fl hs = some y → y.fit) : Tr (fun m => zdp m t hs) (fillT t hs) := by
  refine Tr.eq (fun m => by unfold zdp; rfl) (Tr.bind (ownForm_tr t hb) (Tr.bind (specTemplateValid_tr t hs hf hb hl hlb) ?_))
  unfold fillT
  cases hg : (hvOk hs && zgU t (nd hs)) with
  | false => exact Tr.tt rfl Tr.val
  | true =>
  rw [Bool.and_eq_true] at hg
  have hS := fillS_of hg.1 hg.2
  have hw := valid_w (zha hg.2).1
  refine Tr.ff rfl (Tr.bind (specFill_n (nd hs) _ t (Nat.le_refl _) (by omega) 0 hs hS) ?_)
  rw [cond_true]
  unfold fillV
  cases hfl : t.fl hs with
  | none => exact Tr.tt rfl Tr.val
  | some y =>
    have hyw := (fl_ok hS hfl).w
    dsimp only
    refine Tr.eq (fun m => by rw [Bool.not_true, cond_false]) (Tr.bind (zbM y (hfo y hfl) (by omega)) ?_)
    cases y.valid with
    | false => exact Tr.eq (fun m => by rw [Bool.not_false, cond_true]; rfl) Tr.val
    | true => exact Tr.eq (fun m => by rw [Bool.not_true, cond_false]; rfl) Tr.val
theorem rowF_all {P : Form → Prop} {D : Nat → Option Form} (hD : ∀ i y, D i = some y → P y) : ∀ {k n : Nat} {r : List Form}, rowF D n k = some r → ∀ y ∈ r, P y := fun h y hy => by
  obtain ⟨i, _, _, hi⟩ := rowF_mem h y hy
  exact hD i y hi
theorem nthR_fit {x : Form} {n : Nat} : ∀ {hs : List Hit}, Hit.fits hs → Hit.fits (nthR x n hs)
  | [], h => h
  | h :: hs, hf => by
    rw [Hit.fits] at hf
    show Hit.fits ((bif zdt x h then h.many.getD n hit0 else h) :: nthR x n hs)
    rw [Hit.fits]
    refine ⟨?_, nthR_fit hf.2⟩
    cases zdt x h with
    | false => exact hf.1
    | true =>
      rw [cond_true]
      by_cases hn : n < h.many.length
      · have hm := many_mem hn
        have := hf.1
        obtain ⟨a, b, c, d⟩ := h
        rw [Hit.fit] at this
        exact Hit.fits_mem this.2.2.2 hm
      · rw [List.getD_eq_getElem?_getD, List.getElem?_eq_none (by omega)]; exact hit0_fit
theorem hit_one_fit {h : Hit} (hf : h.fit) : h.one.fit := by
  obtain ⟨a, b, c, d⟩ := h
  rw [Hit.fit] at hf
  exact hf.2.1
theorem fl_fit_n : ∀ (n : Nat) (f : Form), f.w ≤ n → f.fit → ∀ hs, Hit.fits hs → ∀ y, f.fl hs = some y → y.fit := by
  intro n
  induction n with
  | zero => intro f h; have := f.w_kids; omega
  | succ n ih =>
    intro f hn hf hs hl y hy
    have hw := f.w_kids
    rw [Form.fl_eq] at hy
    by_cases h1 : f.kind = 1
    · rw [decide_eq_true h1, cond_true] at hy
      cases hy
      unfold findO
      cases hd : decide (0 ≤ hAt hs f) with
      | false => exact hf
      | true =>
        rw [cond_true]
        rcases fnd_at (D := fun y : Hit => same y.name f) (l := hs) (k := 0) with ⟨h2, _⟩ | ⟨i, h, h2, h3, _, _⟩
        · have := of_decide_eq_true hd
          unfold hAt at this; omega
        · unfold hAt
          rw [h2, Nat.zero_add, Int.toNat_natCast, List.getD_eq_getElem?_getD, h3, Option.getD_some]
          exact hit_one_fit (Hit.fits_mem hl (List.mem_of_getElem? h3))
    · rw [decide_eq_false h1, cond_false] at hy
      cases hfs : Form.fls f.kids hs with
      | none => simp [hfs] at hy
      | some ys =>
        rw [hfs] at hy
        simp only at hy
        cases hc : decide (Form.cnts ys ≤ 400) with
        | false => rw [hc] at hy; cases hy
        | true =>
          rw [hc, cond_true] at hy
          cases hy
          have key : ∀ (zs : List Form), (∀ x ∈ zs, x ∈ f.kids) → ∀ r, Form.fls zs hs = some r → ∀ y ∈ r, y.fit := by
            intro zs
            induction zs with
            | nil => intro _ r hr y hy; rw [Form.fls] at hr; cases hr; cases hy
            | cons x xs ihz =>
              intro hm r hr y hy
              have hxm := hm x (by simp)
              have hxw := Form.ws_mem hxm
              have hxf := Form.fits_mem hf.parts.2.2.2 hxm
              rw [Form.fls_eq] at hr
              cases hdx : zJ x with
              | true => rw [hdx, cond_true] at hr; exact ihz (fun z hz => hm z (by simp [hz])) r hr y hy
              | false =>
                rw [hdx, cond_false] at hr
                obtain ⟨a, b, ha, hb, rfl⟩ := fapp_some hr
                rcases List.mem_append.1 hy with hy | hy
                · cases hnx : zb4 xs with
                  | false =>
                    rw [hnx, cond_false] at ha
                    cases hxfl : x.fl hs with
                    | none => rw [hxfl] at ha; cases ha
                    | some z =>
                      rw [hxfl] at ha; cases ha
                      rw [List.mem_singleton] at hy; subst hy
                      exact ih x (by omega) hxf hs hl _ hxfl
                  | true =>
                    rw [hnx, cond_true] at ha
                    cases hcn : cntR x (-1) hs with
                    | none => rw [hcn] at ha; cases ha
                    | some N =>
                      rw [hcn] at ha
                      exact rowF_all (fun i y hiy => ih x (by omega) hxf _ (nthR_fit hl) y hiy) ha y hy
                · exact ihz (fun z hz => hm z (by simp [hz])) b hb y hy
          have hcl := cnts_len ys
          have hc := of_decide_eq_true hc
          have hp := hf.parts
          rw [Form.fit]
          exact ⟨hp.1, hp.2.1, by omega, Form.fits_of_mem (key f.kids (fun x hx => hx) ys hfs)⟩
theorem fl_fit {f y : Form} {hs : List Hit} (hf : f.fit) (hl : Hit.fits hs) (h : f.fl hs = some y) : y.fit := fl_fit_n _ f (Nat.le_refl _) hf hs hl y h
theorem fillT_cases (t : Form) (hs : List Hit) : fillT t hs = (zcz, false) ∨ ∃ y, hvOk hs = true ∧ zgU t (nd hs) = true ∧ t.fl hs = some y ∧ y.valid = true ∧ fillT t hs = (y, true) := by
  unfold fillT
  cases hg : (hvOk hs && zgU t (nd hs)) with
  | false => exact .inl rfl
  | true =>
    rw [Bool.and_eq_true] at hg
    unfold fillV
    cases hfl : t.fl hs with
    | none => exact .inl rfl
    | some y =>
      rw [cond_true]
      simp only
      cases hv : y.valid with
      | false => exact .inl rfl
      | true => exact .inr ⟨y, hg.1, hg.2, rfl, hv, rfl⟩
theorem kD_prev : ∀ {zs : List Form} {pd sn : Bool} {i : Nat} {x : Form}, Form.kD false pd sn zs = true → zs[i]? = some x → zJ x = true → (i = 0 ∧ pd = false) ∨ ∃ j y, i = j + 1 ∧ zs[j]? = some y ∧ zJ y = false
  | z :: zs, pd, sn, 0, x, h, hx, hd => by
    simp at hx; subst hx
    rw [Form.kD, hd, cond_true, Bool.and_eq_true, Bool.and_eq_true, Bool.not_eq_true'] at h
    exact .inl ⟨rfl, h.1.1⟩
  | z :: zs, pd, sn, i + 1, x, h, hx, hd => by
    rw [Form.kD, Bool.and_eq_true] at h
    rcases kD_prev (zs := zs) (i := i) h.2 (by simpa using hx) hd with ⟨rfl, h2⟩ | ⟨j, y, rfl, hy, hyd⟩
    · exact .inr ⟨0, z, rfl, rfl, h2⟩
    · exact .inr ⟨j + 1, y, rfl, by simpa using hy, hyd⟩
theorem zgB.plain {l : List (Form × Int)} {v : Nat} {hs : List Hit} {f : Form} (hF : zgB l v hs f) (hd : f.dotsOk false = true) (hno : ∀ h ∈ hs, Form.part h.name f = false) : ∀ x ∈ f.kids, zJ x = false := by
  intro x hx
  rw [Bool.eq_false_iff]
  intro hdx
  obtain ⟨i, hi⟩ := List.getElem?_of_mem hx
  rw [Form.dotsOk_eq] at hd
  rcases kD_prev hd hi hdx with ⟨_, h⟩ | ⟨j, y, rfl, hy, hyd⟩
  · cases h
  · have hnx : zb4 (f.kids.drop (j + 1)) = true := by
      rw [drop_get hi]; exact hdx
    obtain ⟨⟨h, hm, hdp⟩, _⟩ := hF.row hy hyd hnx
    unfold zdt at hdp
    rw [Bool.and_eq_true] at hdp
    have := part_kid (List.mem_of_getElem? hy) hdp.1
    rw [hno h hm] at this; cases this
end Go.Abs
end
section
set_option linter.unusedVariables false
set_option linter.unusedSimpArgs false
namespace Go.Abs
theorem RulesF.sub {rules rs : List Rule} (h : RulesF rules) (hs : ∀ r ∈ rs, r ∈ rules) : RulesF rs := ⟨fun r hr => h.fit r (hs r hr), fun r hr => h.pw r (hs r hr), fun r hr => h.tw r (hs r hr)⟩
section
variable (code : List Int) (hc : ∀ x ∈ code, 0 ≤ x ∧ x < 256)
include hc
end
end Go.Abs
end
section
set_option linter.unusedVariables false
set_option linter.unusedSimpArgs false
namespace Go.Abs
theorem hv_names {hs : List Hit} (hv : hvOk hs = true) : distF [] (hs.map Hit.name) = true := by
  unfold hvOk at hv
  rw [Bool.and_eq_true] at hv
  exact hvF_dist hv.1
theorem hit_name {h : Hit} (hk : h.isOk = true) : h.name.kind = 1 ∧ h.name.valid = true ∧ zJ h.name = false ∧ h.name.kids = [] := by
  have h1 := (zgP hk).1
  unfold isNm at h1
  rw [Bool.and_eq_true, decide_eq_true_eq] at h1
  rw [Hit.isOk_eq] at hk
  simp only [Bool.and_eq_true, Bool.not_eq_true', decide_eq_false_iff_not] at hk
  have hv := h1.2
  unfold Form.valid at hv
  rw [Bool.and_eq_true] at hv
  refine ⟨h1.1, h1.2, ?_, (isOk_name hv.1 h1.1).2⟩
  unfold zJ
  rw [decide_eq_false hk.2.1, Bool.and_false]
theorem DrawFill_tq (code : List Int) (hc : ∀ x ∈ code, 0 ≤ x ∧ x < 256) : TQ (fun m => zca m code) (fun r => Dr 1000 r.1 ∧ DrH 2000000 r.2) :=
  TQ.eq (fun m => by unfold zca; rfl) (TQ.bind (l5Hits_tq code hc) (fun v hv => TQ.val hv))
mutual
noncomputable def Form.tms (g : Form) : Form → Nat
  | .mk k nm n sc kids => (bif same (Form.mk k nm n sc kids) g then 1 else 0) + Form.tmss g kids
noncomputable def Form.tmss (g : Form) : List Form → Nat
  | [] => 0
  | x :: xs => Form.tms g x + Form.tmss g xs
end
theorem Form.tms_eq (g f : Form) : Form.tms g f = (bif same f g then 1 else 0) + Form.tmss g f.kids := by obtain ⟨a, b, c, d, e⟩ := f; rw [Form.tms]; rfl
theorem tms_n (g : Form) : ∀ (n : Nat) (f : Form), f.w ≤ n → f.w ≤ 2 ^ 40 → Tr (fun m => zdO m f g) (Form.tms g f : Int) ∧ Form.tms g f ≤ f.w := by
  intro n
  induction n with
  | zero => intro f h; have := f.w_kids; omega
  | succ n ih =>
    intro f hn hb
    have hw := f.w_kids
    have hle : Form.tmss g f.kids ≤ Form.ws f.kids := by
      have : ∀ l : List Form, (∀ x ∈ l, x ∈ f.kids) → Form.tmss g l ≤ Form.ws l := by
        intro l
        induction l with
        | nil => intro _; rw [Form.tmss]; omega
        | cons x l ihl =>
          intro hx
          have h1 := ihl (fun y hy => hx y (by simp [hy]))
          have h2 := Form.ws_mem (hx x (by simp))
          have h3 := (ih x (by omega) (by omega)).2
          rw [Form.tmss, Form.ws]; omega
      exact this _ (fun x hx => hx)
    have hone : (bif same f g then 1 else 0 : Nat) ≤ 1 := by cases same f g <;> decide
    have key := zae f.kids (fun k zs => ∀ a : Nat, a + Form.tmss g zs = Form.tms g f → Tr (fun m => zb1 m f g (a : Int) (k : Int)) (Form.tms g f : Int)) ?_ ?_ 0 (Nat.zero_le _)
    · refine ⟨?_, by rw [Form.tms_eq]; omega⟩
      refine Tr.step (fun m => by rw [zdO]) (Tr.bind (zce f g) ?_)
      have e := Form.tms_eq g f
      cases hs : same f g with
      | true =>
        rw [hs, cond_true] at e
        exact Tr.tt rfl (Tr.step (fun m => by rw [zcH]; rfl) (key 1 (by rw [List.drop_zero, e])))
      | false =>
        rw [hs, cond_false] at e
        exact Tr.ff rfl (Tr.step (fun m => by rw [zcH]; rfl) (key 0 (by rw [List.drop_zero, e])))
    · intro a ha
      rw [Form.tmss, Nat.add_zero] at ha
      subst ha
      exact Tr.step (fun m => by rw [zb1, zT, cond_false]) Tr.val
    · intro k x zs hk hx hd ihk a ha
      have hm := List.mem_of_getElem? hx
      have h2 := Form.ws_mem hm
      have h3 := ih x (by omega) (by omega)
      have e := Form.tms_eq g f
      rw [Form.tmss] at ha
      refine Tr.step (fun m => by rw [zb1, ltN hk, cond_true, zC hx, Option.bind_some]) (Tr.bind h3.1 ?_)
      refine Tr.eq (fun m => by rw [zav (by omega), za7, show (a : Int) + (Form.tms g x : Int) = ((a + Form.tms g x : Nat) : Int) by simp]) (ihk (a + Form.tms g x) (by omega))
def addS (D : Hit → Nat) : List Hit → Int
  | [] => 0
  | h :: hs => (D h : Int) * ((h.one.cnt : Int) - 1) + addS D hs
theorem addS_add (D E F : Hit → Nat) (h : ∀ x, F x = D x + E x) : ∀ hs : List Hit, addS F hs = addS D hs + addS E hs
  | [] => by simp [addS]
  | x :: xs => by
    rw [addS, addS, addS, addS_add D E F h xs, h x]
    push_cast
    rw [Int.add_mul]; omega
theorem addS_zero {D : Hit → Nat} : ∀ {hs : List Hit}, (∀ h ∈ hs, D h = 0) → addS D hs = 0
  | [], _ => rfl
  | x :: xs, h => by rw [addS, h x (by simp), addS_zero (fun y hy => h y (by simp [hy]))]; simp
theorem addS_at {D : Hit → Nat} : ∀ {hs : List Hit} {k : Nat} {x : Hit}, hs[k]? = some x → D x = 1 → (∀ (j : Nat) (y : Hit), hs[j]? = some y → j ≠ k → D y = 0) → addS D hs = (x.one.cnt : Int) - 1
  | [], k, x, h, _, _ => by simp at h
  | z :: zs, 0, x, h, h1, h2 => by
    simp at h; subst h
    rw [addS, h1, addS_zero (fun y hy => ?_)]
    · simp
    · obtain ⟨j, hj⟩ := List.getElem?_of_mem hy
      exact h2 (j + 1) y (by simpa using hj) (by omega)
  | z :: zs, k + 1, x, h, h1, h2 => by
    rw [addS, h2 0 z rfl (by omega), addS_at (k := k) (x := x) (by simpa using h) h1 (fun j y hj hne => h2 (j + 1) y (by simpa using hj) (by omega))]
    simp
theorem fl_size {hs : List Hit} (hv : hvOk hs = true) : ∀ (n : Nat) (f : Form), f.w ≤ n → f.hasD = false → (∃ d, f.isOk d = true) → ∀ y, f.fl hs = some y → (y.cnt : Int) = f.cnt + addS (fun h => Form.tms h.name f) hs := by
  intro n
  induction n with
  | zero => intro f h; have := f.w_kids; omega
  | succ n ih =>
    intro f hn hD hok y hy
    have hw := f.w_kids
    obtain ⟨d, hd⟩ := hok
    have hnk := fun h hm => hit_name ((zgn hv).1 h hm)
    by_cases h1 : f.kind = 1
    · have hk := (isOk_name hd h1).2
      rw [Form.fl_eq, decide_eq_true h1, cond_true] at hy
      cases hy
      have et : ∀ h : Hit, Form.tms h.name f = bif same f h.name then 1 else 0 := fun h => by rw [Form.tms_eq, hk, Form.tmss, Nat.add_zero]
      have ef : f.cnt = 1 := by rw [Form.cnt_eq, hk, Form.cnts]
      unfold findO hAt
      rcases fnd_at (D := fun x : Hit => same x.name f) (l := hs) (k := 0) with ⟨e, hno⟩ | ⟨i, x, e, hx, hs1, _⟩
      · rw [e, decide_eq_false (by omega), cond_false, addS_zero (fun h hm => ?_)]
        · omega
        · rw [et, same_comm, hno h hm]; rfl
      · rw [e, decide_eq_true (by omega), cond_true, Nat.zero_add, Int.toNat_natCast, List.getD_eq_getElem?_getD, hx, Option.getD_some]
        have hxe : x.name = f := zfr.1 hs1
        rw [addS_at hx (by rw [et, ← hxe, zgp]; rfl) (fun j z hz hne => ?_)]
        · rw [ef]; omega
        · rw [et, ← hxe]
          have hdn := hv_names hv
          have gx : (hs.map Hit.name)[i]? = some x.name := by rw [List.getElem?_map, hx]; rfl
          have gz : (hs.map Hit.name)[j]? = some z.name := by rw [List.getElem?_map, hz]; rfl
          have : same x.name z.name = false := by
            rcases Nat.lt_or_ge i j with hij | hij
            · exact (distF_ne hdn).2 i j _ _ hij gx gz
            · rw [same_comm]; exact (distF_ne hdn).2 j i _ _ (by omega) gz gx
          rw [this]; rfl
    · have hks := (zeZ hd).2
      obtain ⟨_, hDk⟩ := hasD_parts hD
      rw [Form.fl_eq, decide_eq_false h1, cond_false] at hy
      have et : ∀ h ∈ hs, Form.tms h.name f = Form.tmss h.name f.kids := fun h hm => by
        rw [Form.tms_eq, same_ne (fun e => h1 (by rw [e]; exact (hnk h hm).1))]; simp
      have hlist : ∀ l : List Form, (∀ x ∈ l, x ∈ f.kids) → ∀ ys, Form.fls l hs = some ys → (Form.cnts ys : Int) = Form.cnts l + addS (fun h => Form.tmss h.name l) hs := by
        intro l
        induction l with
        | nil =>
          intro _ ys hys
          rw [Form.fls] at hys; cases hys
          rw [addS_zero (fun h _ => by rw [Form.tmss])]; simp [Form.cnts]
        | cons x l ihl =>
          intro hx ys hys
          have hxm := hx x (by simp)
          have hxd := (hasD_parts (hDk x hxm)).1
          have hnx : zb4 l = false := by
            cases l with
            | nil => rfl
            | cons z l => exact (hasD_parts (hDk z (hx z (by simp)))).1
          rw [Form.fls_eq, hxd, cond_false, hnx, cond_false] at hys
          cases hfx : x.fl hs with
          | none => rw [hfx] at hys; cases hfl : Form.fls l hs <;> rw [hfl] at hys <;> cases hys
          | some yx =>
            rw [hfx] at hys
            cases hfl : Form.fls l hs with
            | none => rw [hfl] at hys; cases hys
            | some yl =>
              rw [hfl] at hys
              have : ys = yx :: yl := by cases hys; rfl
              subst this
              have h2 := Form.ws_mem hxm
              have e1 := ih x (by omega) (hDk x hxm) ⟨_, hks x hxm⟩ yx hfx
              have e2 := ihl (fun z hz => hx z (by simp [hz])) yl hfl
              rw [Form.cnts, Form.cnts, addS_add (fun h => Form.tms h.name x) (fun h => Form.tmss h.name l) _ (fun h => by rw [Form.tmss])]
              push_cast
              omega
      cases hfs : Form.fls f.kids hs with
      | none => rw [hfs] at hy; cases hy
      | some ys =>
        rw [hfs] at hy
        have h4 : (bif decide (Form.cnts ys ≤ 400) then some (Form.mk f.kind f.name f.n f.scopes ys) else none) = some y := hy
        cases hc : decide (Form.cnts ys ≤ 400) with
        | false => rw [hc] at h4; cases h4
        | true =>
          rw [hc, cond_true, Option.some.injEq] at h4
          subst h4
          have e := hlist f.kids (fun x hx => hx) ys hfs
          have ea : addS (fun h => Form.tms h.name f) hs = addS (fun h => Form.tmss h.name f.kids) hs := by
            have : ∀ l : List Hit, (∀ h ∈ l, h ∈ hs) → addS (fun h => Form.tms h.name f) l = addS (fun h => Form.tmss h.name f.kids) l := by
              intro l
              induction l with
              | nil => intro _; rfl
              | cons z l ihl => intro hz; rw [addS, addS, et z (hz z (by simp)), ihl (fun w hw => hz w (by simp [hw]))]
            exact this hs (fun h hm => hm)
          rw [ea, Form.cnt_eq, Form.cnt_eq]
          show ((1 + Form.cnts ys : Nat) : Int) = ((1 + Form.cnts f.kids : Nat) : Int) + _
          push_cast
          omega
theorem FnFillSize_law (code : List Int) (hc : ∀ x ∈ code, 0 ≤ x ∧ x < 256) : TQ (fun m => zfb m code) (fun r => r = true) := by
  refine codeB (fun _ => ?_) (fun m => by unfold zfb; rfl)
  refine TQ.bind (DrawFill_tq code hc) (fun v hv => ?_)
  obtain ⟨t, hs⟩ := v
  obtain ⟨h1, h2⟩ := hv
  replace h1 : Dr 1000 t := h1
  replace h2 : DrH 2000000 hs := h2
  have hw := h1.w
  have hl := h2.w
  have hll := Hit.ws_len hs
  have hfo : ∀ y, t.fl hs = some y → y.fit := fun y hy => fl_fit h1.fit h2.fit hy
  refine TQ.ev (implFillTemplate_tr t hs h1.fit (by omega) h2.fit (by omega) hfo) (TQ.ev (specFillTemplate_tr t hs h1.fit (by omega) h2.fit (by omega) hfo) (TQ.ev (zce _ _) ?_))
  rw [zgp]
  have ex : TQ (fun m => zax m (t, hs) (fillT t hs) (fillT t hs) true) (fun r => r = true) := TQ.same (by
    refine Tr.step (fun m => by rw [zax, cond_true]) (Tr.bind (zce _ _) ?_)
    rw [zgp]
    exact Tr.tt rfl (Tr.step (fun m => by rw [zcg]) (by rw [decide_eq_true rfl]; exact Tr.val)))
  refine TQ.cond (fun h => by cases h) (fun _ => TQ.cond (fun h => absurd (of_decide_eq_true h) (fun h => h rfl)) (fun _ => ?_))
  rcases fillT_cases t hs with hm | ⟨y, b1, b2, b3, b4, hm⟩
  · rw [hm] at ex ⊢
    exact TQ.cond (fun _ => ex) (fun h => by cases h)
  · rw [hm] at ex ⊢
    refine TQ.cond (fun h => by cases h) (fun _ => dots_bind (G := fun b m => zax m (t, hs) (y, true) (y, true) b) (show t.w ≤ 2 ^ 36 by omega) ?_)
    cases hD : t.hasD with
    | true => exact ex
    | false =>
    refine TQ.same (Tr.step (fun m => by rw [zax, cond_false]) (Tr.bind (zhS t (by omega)) ?_))
    obtain ⟨p1, p2, p3, p4⟩ := zha b2
    have pv := p1
    unfold Form.valid at p1
    rw [Bool.and_eq_true, decide_eq_true_eq] at p1
    have hsz := fl_size b1 _ t (Nat.le_refl _) hD ⟨40, p1.1⟩ y b3
    have hyw := valid_w b4
    have hlen := (zgn b1).2
    have pos : ∀ l : List Hit, (∀ h ∈ l, h ∈ hs) → 0 ≤ addS (fun h => Form.tms h.name t) l ∧ addS (fun h => Form.tms h.name t) l ≤ (l.length : Int) * 2000000000 := by
      intro l
      induction l with
      | nil => intro _; simp [addS]
      | cons x l ih =>
        intro hx
        obtain ⟨i1, i2⟩ := ih (fun h hm => hx h (by simp [hm]))
        have hm := hx x (by simp)
        have hxw := Hit.ws_mem hm
        have hxp := Hit.w_parts x
        have ht := (tms_n x.name _ t (Nat.le_refl _) (by omega)).2
        have C1 := (FormSize_n _ x.one (Nat.le_refl _) (by omega)).2
        have C2 : 1 ≤ x.one.cnt := by rw [Form.cnt_eq]; omega
        obtain ⟨c, hcc⟩ := Nat.exists_eq_add_of_le C2
        have hmul : Form.tms x.name t * c ≤ 1000 * 2000000 := Nat.mul_le_mul (by omega) (by omega)
        have e : (Form.tms x.name t : Int) * ((x.one.cnt : Int) - 1) = ((Form.tms x.name t * c : Nat) : Int) := by
          rw [hcc]; push_cast
          rw [show (1 : Int) + (c : Int) - 1 = (c : Int) by omega]
        rw [addS, e, List.length_cons]
        push_cast at *
        omega
    have key := zae hs (fun k zs => ∀ a : Int, (t.cnt : Int) ≤ a → a ≤ t.cnt + (k : Int) * 2000000000 → a + addS (fun h => Form.tms h.name t) zs = (y.cnt : Int) → Tr (fun m => zbh m (t, hs) (y, true) a (k : Int)) true) ?_ ?_ 0 (Nat.zero_le _) (t.cnt : Int) (by omega) (by simp) (by rw [List.drop_zero]; exact hsz.symm)
    · exact key
    · intro a _ _ ha
      rw [addS, Int.add_zero] at ha
      subst ha
      refine Tr.step (fun m => by rw [zbh, zT, cond_false]) (Tr.bind (zhS y (by omega)) ?_)
      rw [decide_eq_true rfl]; exact Tr.val
    · intro k x zs hk hx hd ih a a0 a1 ha
      have hm := List.mem_of_getElem? hx
      have hxw := Hit.ws_mem hm
      have hxp := Hit.w_parts x
      have ht := tms_n x.name _ t (Nat.le_refl _) (by omega)
      have C1 := (FormSize_n _ x.one (Nat.le_refl _) (by omega)).2
      have C2 : 1 ≤ x.one.cnt := by rw [Form.cnt_eq]; omega
      obtain ⟨c, hcc⟩ := Nat.exists_eq_add_of_le C2
      have hmul : Form.tms x.name t * c ≤ 1000 * 2000000 := Nat.mul_le_mul (by have := ht.2; omega) (by omega)
      have e0 : (x.one.cnt : Int) - 1 = (c : Int) := by rw [hcc]; push_cast; omega
      have e : (Form.tms x.name t : Int) * (c : Int) = ((Form.tms x.name t * c : Nat) : Int) := by push_cast; rfl
      have hkl : (k : Int) < 20 := by omega
      have htc := p1.2
      rw [addS, e0, e] at ha
      refine Tr.step (fun m => by rw [zbh, ltN hk, cond_true, zC hx, Option.bind_some]) (Tr.bind ht.1 ?_)
      refine Tr.eq (fun m => by rw [Option.bind_some]) (Tr.bind (zhS x.one (by omega)) ?_)
      refine Tr.eq (fun m => by rw [zav (n := (x.one.cnt : Int) - 1) (by omega), e0, e, zav (n := ((Form.tms x.name t * c : Nat) : Int)) (by omega), zav (by omega), za7]) (ih (a + ((Form.tms x.name t * c : Nat) : Int)) (by omega) (by push_cast at *; omega) (by omega))
end Go.Abs
end
