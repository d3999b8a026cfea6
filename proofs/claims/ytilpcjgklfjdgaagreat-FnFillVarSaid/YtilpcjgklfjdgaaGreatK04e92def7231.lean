/- A part of the proof: what the functions that the law calls answer, as pure values. -/
import Derived.Test.YtilpcjgklfjdgaaGreatK39bd6b35c3c4
import Derived.Test.YtilpcjgklfjdgaaGreatK14ee8634cff8
import Derived.Test.YtilpcjgklfjdgaaGreatKee9727030f10
set_option linter.unusedSimpArgs false
set_option linter.unusedVariables false
section
set_option linter.unusedVariables false
set_option linter.unusedSimpArgs false
namespace Go.Abs
theorem uses_n (nm : Form) (hnm : nm.kind = 1) : ∀ (n : Nat) (f : Form), f.w ≤ n → Tr (fun m => zdv m f nm) (Form.part nm f) := by
  intro n
  induction n with
  | zero => intro f h; have := f.w_kids; omega
  | succ n ih =>
    intro f hn
    have hw := f.w_kids
    rw [Form.part_eq]
    have kids : Tr (fun m => zcO m f nm) (Form.parts nm f.kids) := by
      refine Tr.step (fun m => by rw [zcO]) ?_
      have key := zag f.kids (fun k zs => Tr (fun m => zb8 m f nm (k : Int)) (Form.parts nm zs)) ?_ ?_ 0 (Nat.zero_le _)
      · exact key
      · exact Tr.step (fun m => by rw [zb8, zU, cond_false, Form.parts]) Tr.val
      · intro k x zs hk hx hd ihk
        have hm := Form.ws_mem (List.mem_of_getElem? hx)
        refine Tr.step (fun m => by rw [zb8, ltN hk, cond_true, zC hx, Option.bind_some, zbc]) (Tr.bind (ih x (by omega)) ?_)
        rw [Form.parts]
        cases Form.part nm x with
        | true => exact Tr.tt rfl Tr.val
        | false => exact Tr.ff rfl ihk
    refine Tr.step (fun m => by rw [zdv]) ?_
    by_cases h1 : f.kind = 1
    · refine Tr.tt (decide_eq_true h1) (Tr.bind (zcE f nm) ?_)
      cases same f nm with
      | true => exact Tr.tt rfl Tr.val
      | false => exact Tr.ff rfl kids
    · have hs : same f nm = false := same_ne (fun e => h1 (e ▸ hnm))
      rw [hs, Bool.false_or]
      exact Tr.ff (decide_eq_false h1) kids
theorem hit_kind {h : Hit} (hk : h.isOk = true) : h.name.kind = 1 := by
  have hn := (zf8 hk).1
  unfold isNm at hn
  rw [Bool.and_eq_true, decide_eq_true_eq] at hn
  exact hn.1
theorem deepB_pos {x : Form} {h : Hit} (hk : h.isOk = true) : zdl x h = (decide (0 < h.depth) && Form.part h.name x) := by
  have := (zf8 hk).2.1.1
  unfold zdl
  by_cases h0 : h.depth = 0
  · rw [decide_eq_true h0, decide_eq_false (by omega)]; simp
  · rw [decide_eq_false h0, decide_eq_true (by omega)]; simp
section
variable {hs : List Hit}
theorem count_tr (x : Form) (hok : ∀ h ∈ hs, h.isOk = true) : Tr (fun m => ze2 m x hs) (match cntR x (-1) hs with
    | none => -1
    | some N => N) := by
  refine Tr.eq (fun m => by unfold ze2; rfl) ?_
  have key := zag hs (fun j zs => ∀ n : Int, cntR x n zs = cntR x (-1) hs → Tr (fun m => zbA m x hs (j : Int) n) (match cntR x (-1) hs with
    | none => -1
    | some N => N)) ?_ ?_ 0 (Nat.zero_le _) (-1) (by rw [List.drop_zero])
  · exact key
  · intro n h2
    rw [cntR] at h2
    rw [← h2]
    exact Tr.step (fun m => by rw [zbA, zU, cond_false]) Tr.val
  · intro j h zs hj hx hd ih n h2
    have hm := List.mem_of_getElem? hx
    rw [cntR] at h2
    have j2 : Tr (fun m => zbS m x hs (j : Int) n (!zdl x h)) (match cntR x (-1) hs with
      | none => -1
      | some N => N) := by
      cases hb : zdl x h with
      | false =>
        rw [hb, cond_false] at h2
        exact Tr.step (fun m => by rw [zbS, Bool.not_false, cond_true, zbc]) (ih n h2)
      | true =>
        rw [hb, cond_true] at h2
        have j3 : (decide (0 ≤ n) && decide (n ≠ (h.many.length : Int))) = false → Tr (fun m => zcs m x hs (j : Int)) (match cntR x (-1) hs with
          | none => -1
          | some N => N) := fun hc => by
          rw [hc, cond_false] at h2
          exact Tr.step (fun m => by rw [zcs, zC hx, Option.bind_some, zbc]) (ih _ h2)
        refine Tr.step (fun m => by rw [zbS, Bool.not_true, cond_false]) ?_
        by_cases hn : 0 ≤ n
        · refine Tr.tt (decide_eq_true hn) (Tr.eq (fun m => by rw [zC hx, Option.bind_some]) ?_)
          by_cases hne : n = (h.many.length : Int)
          · have hcc : decide (n ≠ (h.many.length : Int)) = false := decide_eq_false (fun hh => hh hne)
            exact Tr.ff hcc (j3 (by rw [hcc, Bool.and_false]))
          · rw [decide_eq_true hn, decide_eq_true (by exact hne), Bool.and_self, cond_true] at h2
            rw [← h2]
            exact Tr.tt (decide_eq_true (by exact hne)) Tr.val
        · exact Tr.ff (decide_eq_false hn) (j3 (by rw [decide_eq_false hn, Bool.false_and]))
    refine Tr.step (fun m => by rw [zbA, ltN hj, cond_true, zC hx, Option.bind_some]) ?_
    by_cases h0 : h.depth = 0
    · have : zdl x h = false := by unfold zdl; rw [decide_eq_true h0]; simp
      rw [this] at j2
      exact Tr.tt (decide_eq_true h0) j2
    · have : zdl x h = Form.part h.name x := by unfold zdl; rw [decide_eq_false h0]; simp
      rw [this] at j2
      exact Tr.ff (decide_eq_false h0) (Tr.eq (fun m => by rw [Option.bind_some]) (Tr.bind (uses_n h.name (hit_kind (hok h hm)) _ x (Nat.le_refl _)) j2))
theorem nth_tr (x : Form) (n : Nat) (hok : ∀ h ∈ hs, h.isOk = true) (hsl : hs.length ≤ 20) (hlen : ∀ h ∈ hs, zdl x h = true → n < h.many.length) : Tr (fun m => zfy m x hs (n : Int)) (nthR x n hs) := by
  refine Tr.eq (fun m => by unfold zfy; rfl) ?_
  have key := zag hs (fun j zs => ∀ g : List Hit, g.length = j → g ++ nthR x n zs = nthR x n hs → Tr (fun m => zbZ m x hs (n : Int) g (j : Int)) (nthR x n hs)) ?_ ?_ 0 (Nat.zero_le _) [] rfl (by rw [List.drop_zero, List.nil_append])
  · exact key
  · intro g hg he
    have : nthR x n [] = [] := rfl
    rw [this, List.append_nil] at he
    rw [← he]
    exact Tr.step (fun m => by rw [zbZ, zU, cond_false]) Tr.val
  · intro j h zs hj hx hd ih g hg he
    have hm := List.mem_of_getElem? hx
    have he' : (g ++ [bif zdl x h then h.many.getD n hit0 else h]) ++ nthR x n zs = nthR x n hs := by rw [← he, List.append_assoc]; rfl
    have j2 : Tr (fun m => zcF m x hs (n : Int) g (j : Int) h (zdl x h)) (nthR x n hs) := by
      cases hb : zdl x h with
      | true =>
        rw [hb, cond_true] at he'
        have hn := hlen h hm hb
        have hmn : h.many[n]? = some (h.many.getD n hit0) := by rw [List.getD_eq_getElem?_getD, List.getElem?_eq_getElem hn]; rfl
        refine Tr.step (fun m => by rw [zcF, cond_true, zC hmn, Option.bind_some]) (Tr.chk (decide_eq_true (by simp; omega)) ?_)
        exact Tr.eq (fun m => by rw [zbc]) (ih _ (by simp [hg]) he')
      | false =>
        rw [hb, cond_false] at he'
        refine Tr.step (fun m => by rw [zcF, cond_false]) (Tr.chk (decide_eq_true (by simp; omega)) ?_)
        exact Tr.eq (fun m => by rw [zbc]) (ih _ (by simp [hg]) he')
    refine Tr.step (fun m => by rw [zbZ, ltN hj, cond_true, zC hx, Option.bind_some]) ?_
    rw [deepB_pos (hok h hm)] at j2
    cases h0 : decide (0 < h.depth) with
    | true =>
      rw [h0, Bool.true_and] at j2
      exact Tr.tt rfl (Tr.bind (uses_n h.name (hit_kind (hok h hm)) _ x (Nat.le_refl _)) j2)
    | false =>
      rw [h0, Bool.false_and] at j2
      exact Tr.ff rfl j2
end
section
variable {f : Form} {hs : List Hit}
def resS (f : Form) (acc : List Form) : Option (List Form) → Form × Bool
  | some ys => bif decide (Form.cnts (acc ++ ys) ≤ 400) then (Form.mk f.kind f.name f.n f.scopes (acc ++ ys), true) else (f, false)
  | none => (f, false)
theorem resS_some {acc ys : List Form} : resS f acc (some ys) = bif decide (Form.cnts (acc ++ ys) ≤ 400) then (Form.mk f.kind f.name f.n f.scopes (acc ++ ys), true) else (f, false) := rfl
theorem resS_none {acc : List Form} {o : Option (List Form)} : resS f acc (fapp none o) = (f, false) := by cases o <;> rfl
theorem resS_app {acc a : List Form} {o : Option (List Form)} : resS f acc (fapp (some a) o) = resS f (acc ++ a) o := by
  cases o with
  | none => rfl
  | some b => unfold resS fapp; simp only [List.append_assoc]
theorem resS_big {acc : List Form} {o : Option (List Form)} (h : 400 < Form.cnts acc) : resS f acc o = (f, false) := by
  cases o with
  | none => rfl
  | some ys =>
    have h2 : ¬ Form.cnts (acc ++ ys) ≤ 400 := by rw [zgH]; omega
    rw [resS_some, decide_eq_false h2]; rfl
theorem sfill_l5_tr {l : List (Form × Int)} {vv : Nat} (k : Nat) (x : Form) (hx : f.kids[k]? = some x) (hk : k < 2 ^ 40) (row : Bool) (D : Nat → List Hit) (N : Nat) (hN : N ≤ 400) (hw : x.w ≤ 2 ^ 30)
    (hD : ∀ i, i < N → bif row then Tr (fun m => zfy m x hs (i : Int)) (D i) else D i = hs)
    (hb : ∀ i, i < N → Tr (fun m => zc1 m x (D i)) (match x.fl (D i) with
      | some y => (y, true)
      | none => (x, false))) (hF : ∀ i, i < N → zgj l vv (D i) x) {o : Option (List Form)}
    (hK : ∀ acc, Form.cnts acc ≤ 400 → Tr (fun m => zbv m f hs ((k + 1 : Nat) : Int) (Form.cnts acc : Int) acc) (resS f acc o)) :
    ∀ (j n : Nat), n + j = N → ∀ acc, Form.cnts acc ≤ 400 → Tr (fun m => zca m f hs (k : Int) row (N : Int) (Form.cnts acc : Int) (n : Int) acc) (resS f acc (fapp (rowF (fun i => x.fl (D i)) n j) o)) := by
  intro j
  induction j with
  | zero =>
    intro n hn acc ha
    have : n = N := by omega
    subst this
    rw [rowF, resS_app, List.append_nil]
    exact Tr.step (fun m => by rw [zca, zU, cond_false, zay (by omega), zbc]) (hK acc ha)
  | succ j ih =>
    intro n hn acc ha
    have hnN : n < N := by omega
    have hcl := cnts_len acc
    have j6 : Tr (fun m => zcP m f hs (k : Int) row (N : Int) (Form.cnts acc : Int) (n : Int) acc (D n)) (resS f acc (fapp (rowF (fun i => x.fl (D i)) n (j + 1)) o)) := by
      have hbn := hb n hnN
      refine Tr.step (fun m => by rw [zcP, zC hx, Option.bind_some]) (Tr.bind hbn ?_)
      cases hxf : x.fl (D n) with
      | none =>
        have e : rowF (fun i => x.fl (D i)) n (j + 1) = none := by rw [rowF]; simp only [hxf]
        rw [e, resS_none]
        dsimp only
        refine Tr.bind (l1Count_n _ x (Nat.le_refl _) (by omega)) ?_
        exact Tr.eq (fun m => by rw [Bool.not_false, cond_true]) (Tr.step (fun m => by rw [zcb, cond_true]) Tr.val)
      | some y =>
        have hFy := fl_ok (hF n hnN) hxf
        have hyw := hFy.w
        have hyc := hFy.cnt
        have e : resS f acc (fapp (rowF (fun i => x.fl (D i)) n (j + 1)) o) = resS f (acc ++ [y]) (fapp (rowF (fun i => x.fl (D i)) (n + 1) j) o) := by
          rw [rowF]
          simp only [hxf]
          cases rowF (fun i => x.fl (D i)) (n + 1) j with
          | none => simp only [resS_none]
          | some ys => simp only [resS_app, List.append_assoc, List.singleton_append]
        rw [e]
        dsimp only
        have hcs : Form.cnts (acc ++ [y]) = Form.cnts acc + y.cnt := by rw [zgH, Form.cnts, Form.cnts, Nat.add_zero]
        have e1 : (Form.cnts acc : Int) + (y.cnt : Int) = ((Form.cnts (acc ++ [y]) : Nat) : Int) := by rw [hcs]; simp
        refine Tr.bind (l1Count_n _ y (Nat.le_refl _) (by omega)) (Tr.eq (fun m => by rw [Bool.not_true, cond_false, zay (by omega), e1]) ?_)
        by_cases hc : Form.cnts (acc ++ [y]) ≤ 400
        · refine Tr.step (fun m => by rw [zcb, decide_eq_false (show ¬ (400 : Int) < ((Form.cnts (acc ++ [y]) : Nat) : Int) by omega), cond_false]) ?_
          refine Tr.chk (decide_eq_true (by simp; omega)) ?_
          exact Tr.eq (fun m => by rw [zay (by omega), zay (by omega), e1, zbc]) (ih (n + 1) (by omega) (acc ++ [y]) hc)
        · rw [resS_big (by omega)]
          exact Tr.step (fun m => by rw [zcb, decide_eq_true (show (400 : Int) < ((Form.cnts (acc ++ [y]) : Nat) : Int) by omega), cond_true]) Tr.val
    have hDn := hD n hnN
    refine Tr.step (fun m => by rw [zca, ltN hnN, cond_true]) ?_
    cases row with
    | true => exact Tr.tt rfl (Tr.eq (fun m => by rw [zC hx, Option.bind_some]) (Tr.bind hDn j6))
    | false =>
      rw [cond_false] at hDn
      rw [hDn] at j6
      exact Tr.ff rfl j6
theorem sfill_l2_tr {l : List (Form × Int)} {v : Nat} (hF : zgj l v hs f) (hw : f.w ≤ 2 ^ 30) (ih : ∀ x ∈ f.kids, ∀ v' hs', zgj l v' hs' x → Tr (fun m => zc1 m x hs') (match x.fl hs' with
      | some y => (y, true)
      | none => (x, false))) : ∀ (rest : List Form) (k : Nat) (acc : List Form), f.kids.drop k = rest → k ≤ f.kids.length → Form.cnts acc ≤ 400 →
    Tr (fun m => zbv m f hs (k : Int) (Form.cnts acc : Int) acc) (resS f acc (Form.fls rest hs))
  | [], k, acc, hd, hk, ha => by
    have : k = f.kids.length := by have := congrArg List.length hd; rw [List.length_drop] at this; simp at this; omega
    subst this
    rw [Form.fls, resS_some, List.append_nil, decide_eq_true ha, cond_true]
    exact Tr.step (fun m => by rw [zbv, zU, cond_false, List.nil_append]) Tr.val
  | x :: xs, k, acc, hd, hk, ha => by
    obtain ⟨hx, hd2, hlt⟩ := drop_cons' hd
    have hm := List.mem_of_getElem? hx
    have hfw := f.w_kids
    have hxw := Form.ws_mem hm
    have hkl := Form.ws_len f.kids
    refine Tr.step (fun m => by rw [zbv, ltN hlt, cond_true, zC hx, Option.bind_some]) (Tr.bind (zeo x) ?_)
    rw [Form.fls_eq]
    have hgo := fun acc => sfill_l2_tr hF hw ih xs (k + 1) acc hd2 hlt
    cases hdx : zJ x with
    | true =>
      rw [cond_true]
      exact Tr.tt rfl (Tr.eq (fun m => by rw [zbc]) (hgo acc ha))
    | false =>
      rw [cond_false]
      refine Tr.ff rfl ?_
      have one : zbW xs = false → Tr (fun m => zcd m f hs (k : Int) (Form.cnts acc : Int) acc false) (resS f acc (fapp (match x.fl hs with
          | none => none
          | some y => some [y]) (Form.fls xs hs))) := by
        intro hn
        have hFx := hF.kid hx hdx (by rw [hd2]; exact hn)
        refine Tr.step (fun m => by rw [zcd, cond_false]) (Tr.step (fun m => by rw [zcc, decide_eq_false (by omega), cond_false]) ?_)
        have := sfill_l5_tr (f := f) (hs := hs) k x hx (by omega) false (fun _ => hs) 1 (by omega) (by omega) (fun i _ => rfl) (fun i _ => ih x hm v hs hFx) (fun i _ => hFx) (o := Form.fls xs hs) (fun acc' ha' => hgo acc' ha') 1 0 rfl acc ha
        have e : rowF (fun _ : Nat => x.fl hs) 0 1 = (match x.fl hs with
          | none => none
          | some y => some [y]) := by
          rw [rowF, rowF]
          cases x.fl hs <;> rfl
        rw [e] at this
        exact this
      rcases next_get hd with ⟨hz, hl⟩ | ⟨y, ys, hz, hy, hl⟩
      · subst hz
        rw [show zbW ([] : List Form) = false from rfl, cond_false]
        exact Tr.ff (decide_eq_false (by omega)) (one rfl)
      · refine Tr.tt (decide_eq_true (by omega)) (Tr.eq (fun m => by rw [zbc, zC hy, Option.bind_some]) (Tr.bind (zeo y) ?_))
        have hnx : zbW xs = zJ y := by rw [hz]; rfl
        cases hdy : zJ y with
        | false =>
          rw [hnx, hdy, cond_false]
          exact one (by rw [hnx, hdy])
        | true =>
          rw [hnx, hdy, cond_true]
          obtain ⟨r1, r2⟩ := hF.row hx hdx (by rw [hd2, hnx, hdy])
          obtain ⟨hall, hsl⟩ := zgw hF.hv
          refine Tr.step (fun m => by rw [zcd, cond_true, zC hx, Option.bind_some]) (Tr.bind (count_tr x hall) ?_)
          cases hc : cntR x (-1) hs with
          | none =>
            rw [resS_none]
            exact Tr.step (fun m => by rw [zcc]; rfl) Tr.val
          | some N =>
            obtain ⟨c0, c1, c2⟩ := cntR_lt hF.hv r1 hc
            have hFi : ∀ i, i < N.toNat → zgj l (v + 1) (nthR x i hs) x := fun i hi => r2 i (fun h hh hdp => by rw [c2 h hh hdp]; exact hi)
            refine Tr.step (fun m => by rw [zcc, decide_eq_false (show ¬ N < 0 by omega), cond_false]) ?_
            have := sfill_l5_tr (f := f) (hs := hs) k x hx (by omega) true (fun i => nthR x i hs) N.toNat (by omega) (by omega) (fun i hi => nth_tr x i hall hsl (fun h hh hdp => by rw [c2 h hh hdp]; exact hi)) (fun i hi => ih x hm (v + 1) _ (hFi i hi)) hFi (o := Form.fls xs hs) (fun acc' ha' => hgo acc' ha') N.toNat 0 (by omega) acc ha
            rw [Int.toNat_of_nonneg c0] at this
            exact this
end
theorem specFill_n (l : List (Form × Int)) : ∀ (n : Nat) (f : Form), f.w ≤ n → f.w ≤ 2 ^ 30 → ∀ v hs, zgj l v hs f → Tr (fun m => zc1 m f hs) (match f.fl hs with
      | some y => (y, true)
      | none => (f, false)) := by
  intro n
  induction n with
  | zero => intro f h; have := f.w_kids; omega
  | succ n ih =>
    intro f hn hw v hs hF
    have hfw := f.w_kids
    rw [Form.fl_eq]
    obtain ⟨d, hok⟩ := hF.ok
    have rest : Tr (fun m => zce m f hs (-1)) (match (match Form.fls f.kids hs with
        | none => none
        | some ys => bif decide (Form.cnts ys ≤ 400) then some (Form.mk f.kind f.name f.n f.scopes ys) else none) with
      | some y => (y, true)
      | none => (f, false)) := by
      refine Tr.step (fun m => by rw [zce, decide_eq_false (by omega), cond_false]) ?_
      refine Tr.chk (decide_eq_true (by simp; omega)) ?_
      have := sfill_l2_tr hF hw (fun x hx v' hs' hF' => ih x (by have := Form.ws_mem hx; omega) (by have := Form.ws_mem hx; omega) v' hs' hF') f.kids 0 [] (by rw [List.drop_zero]) (Nat.zero_le _) (by rw [Form.cnts]; omega)
      cases hf : Form.fls f.kids hs with
      | none => rw [hf] at this; exact this
      | some ys =>
        rw [hf, resS_some, List.nil_append] at this
        simp only
        cases hc : decide (Form.cnts ys ≤ 400) with
        | true => rw [hc, cond_true] at this; rw [cond_true]; exact this
        | false => rw [hc, cond_false] at this; rw [cond_false]; exact this
    refine Tr.step (fun m => by rw [zc1]) ?_
    by_cases h1 : f.kind = 1
    · rw [decide_eq_true h1, cond_true]
      refine Tr.tt rfl (Tr.bind (l4Find_tr hs f) ?_)
      unfold findO
      rcases hF.leaf with hl | ⟨i, h, hl, hi, h0, hv⟩
      · rw [hl, decide_eq_false (by omega), cond_false]
        have hk : f.kids = [] := (zfa hok).1 (by omega)
        have e : Form.mk f.kind f.name f.n f.scopes [] = f := by
          obtain ⟨a, b, c, dd, ee⟩ := f
          replace hk : ee = [] := hk
          subst hk; rfl
        have e3 : decide (Form.cnts [] ≤ 400) = true := decide_eq_true (by rw [Form.cnts]; omega)
        have e2 : (match Form.fls f.kids hs with
          | none => none
          | some ys => bif decide (Form.cnts ys ≤ 400) then some (Form.mk f.kind f.name f.n f.scopes ys) else none) = some f := by
          rw [hk, Form.fls]
          simp only
          rw [e3, cond_true, e]
        rw [e2] at rest
        exact rest
      · rw [hl, decide_eq_true (by omega), cond_true, Int.toNat_natCast, List.getD_eq_getElem?_getD, hi, Option.getD_some]
        have := valid_w hv
        refine Tr.step (fun m => by rw [zce, decide_eq_true (by omega), cond_true, zC hi, Option.bind_some]) (Tr.bind (ze8 _ h.one (Nat.le_refl _) (by omega)) ?_)
        refine Tr.eq (fun m => by rw [Option.bind_some, h0]) ?_
        exact Tr.val
    · rw [decide_eq_false h1, cond_false]
      exact Tr.ff rfl rest
end Go.Abs
end
section
set_option linter.unusedVariables false
set_option linter.unusedSimpArgs false
namespace Go.Abs
noncomputable def fillV (o : Option Form) : Form × Bool := match o with
  | some y => bif y.valid then (y, true) else (zcq, false)
  | none => (zcq, false)
noncomputable def fillT (t : Form) (hs : List Hit) : Form × Bool := bif hvOk hs && zgy t (nd hs) then fillV (t.fl hs) else (zcq, false)
theorem tmplOk_parts {t : Form} {l : List (Form × Int)} (h : zgy t l = true) : t.valid = true ∧ zJ t = false ∧ t.dotsOk false = true ∧ t.rws l 0 = true := by
  unfold zgy at h
  simp only [Bool.and_eq_true, Bool.not_eq_true'] at h
  exact ⟨h.1, h.2.1, h.2.2.1, h.2.2.2⟩
theorem fillS_of {t : Form} {hs : List Hit} (hv : hvOk hs = true) (ht : zgy t (nd hs) = true) : zgj (nd hs) 0 hs t := by
  obtain ⟨h1, h2, h3, h4⟩ := tmplOk_parts ht
  unfold Form.valid at h1
  rw [Bool.and_eq_true] at h1
  exact ⟨hv, h4, ⟨40, h1.1⟩, fun g _ _ => by simp⟩
theorem zgG (t : Form) (hs : List Hit) (hf : t.fit) (hb : t.w ≤ 2 ^ 36) (hl : Hit.fits hs) (hlb : Hit.ws hs ≤ 2 ^ 36) (hfo : ∀ y, t.fl hs = some y → y.fit) : Tr (fun m => zcz m t hs) (fillT t hs) := by
  refine Tr.eq (fun m => by unfold zcz; rfl) (Tr.bind (implTemplateValid_tr t hs hf hb hl hlb) ?_)
  unfold fillT
  cases hg : (hvOk hs && zgy t (nd hs)) with
  | false => exact Tr.tt rfl Tr.val
  | true =>
  rw [Bool.and_eq_true] at hg
  have hS := fillS_of hg.1 hg.2
  have hw := valid_w (tmplOk_parts hg.2).1
  refine Tr.ff rfl (Tr.bind (implFill_n (nd hs) _ t (Nat.le_refl _) (by omega) 0 hs hS) ?_)
  rw [cond_true]
  unfold fillV
  cases hfl : t.fl hs with
  | none => exact Tr.tt rfl Tr.val
  | some y =>
    have hyw := (fl_ok hS hfl).w
    dsimp only
    refine Tr.eq (fun m => by rw [Bool.not_true, cond_false]) (Tr.bind (v := bif y.valid then (y, true) else (zcq, false)) ?_ ?_)
    · refine Tr.eq (fun m => by unfold zgs; rfl) (Tr.bind (zfr y (hfo y hfl)) ?_)
      cases y.valid with
      | false => exact Tr.tt rfl Tr.val
      | true => exact Tr.ff rfl (Tr.bind (copyForm_tr y (by omega)) Tr.val)
    · cases y.valid <;> exact Tr.val
theorem specFillTemplate_tr (t : Form) (hs : List Hit) (hf : t.fit) (hb : t.w ≤ 2 ^ 36) (hl : Hit.fits hs) (hlb : Hit.ws hs ≤ 2 ^ 36) (hfo : ∀ y, t.fl hs = some y → y.fit) : Tr (fun m => zdh m t hs) (fillT t hs) := by
  refine Tr.eq (fun m => by unfold zdh; rfl) (Tr.bind (ownForm_tr t hb) (Tr.bind (specTemplateValid_tr t hs hf hb hl hlb) ?_))
  unfold fillT
  cases hg : (hvOk hs && zgy t (nd hs)) with
  | false => exact Tr.tt rfl Tr.val
  | true =>
  rw [Bool.and_eq_true] at hg
  have hS := fillS_of hg.1 hg.2
  have hw := valid_w (tmplOk_parts hg.2).1
  refine Tr.ff rfl (Tr.bind (specFill_n (nd hs) _ t (Nat.le_refl _) (by omega) 0 hs hS) ?_)
  rw [cond_true]
  unfold fillV
  cases hfl : t.fl hs with
  | none => exact Tr.tt rfl Tr.val
  | some y =>
    have hyw := (fl_ok hS hfl).w
    dsimp only
    refine Tr.eq (fun m => by rw [Bool.not_true, cond_false]) (Tr.bind (zbI y (hfo y hfl) (by omega)) ?_)
    cases y.valid with
    | false => exact Tr.eq (fun m => by rw [Bool.not_false, cond_true]; rfl) Tr.val
    | true => exact Tr.eq (fun m => by rw [Bool.not_true, cond_false]; rfl) Tr.val
theorem rowF_all {P : Form → Prop} {D : Nat → Option Form} (hD : ∀ i y, D i = some y → P y) : ∀ {k n : Nat} {r : List Form}, rowF D n k = some r → ∀ y ∈ r, P y := fun h y hy => by
  obtain ⟨i, _, _, hi⟩ := rowF_mem h y hy
  exact hD i y hi
theorem nthR_fit {x : Form} {n : Nat} : ∀ {hs : List Hit}, Hit.fits hs → Hit.fits (nthR x n hs)
  | [], h => h
  | h :: hs, hf => by
    rw [Hit.fits] at hf
    show Hit.fits ((bif zdl x h then h.many.getD n hit0 else h) :: nthR x n hs)
    rw [Hit.fits]
    refine ⟨?_, nthR_fit hf.2⟩
    cases zdl x h with
    | false => exact hf.1
    | true =>
      rw [cond_true]
      by_cases hn : n < h.many.length
      · have hm := many_mem hn
        have := hf.1
        obtain ⟨a, b, c, d⟩ := h
        rw [Hit.fit] at this
        exact Hit.fits_mem this.2.2.2 hm
      · rw [List.getD_eq_getElem?_getD, List.getElem?_eq_none (by omega)]; exact hit0_fit
theorem hit_one_fit {h : Hit} (hf : h.fit) : h.one.fit := by
  obtain ⟨a, b, c, d⟩ := h
  rw [Hit.fit] at hf
  exact hf.2.1
theorem fl_fit_n : ∀ (n : Nat) (f : Form), f.w ≤ n → f.fit → ∀ hs, Hit.fits hs → ∀ y, f.fl hs = some y → y.fit := by
  intro n
  induction n with
  | zero => intro f h; have := f.w_kids; omega
  | succ n ih =>
    intro f hn hf hs hl y hy
    have hw := f.w_kids
    rw [Form.fl_eq] at hy
    by_cases h1 : f.kind = 1
    · rw [decide_eq_true h1, cond_true] at hy
      cases hy
      unfold findO
      cases hd : decide (0 ≤ hAt hs f) with
      | false => exact hf
      | true =>
        rw [cond_true]
        rcases fnd_at (D := fun y : Hit => same y.name f) (l := hs) (k := 0) with ⟨h2, _⟩ | ⟨i, h, h2, h3, _, _⟩
        · have := of_decide_eq_true hd
          unfold hAt at this; omega
        · unfold hAt
          rw [h2, Nat.zero_add, Int.toNat_natCast, List.getD_eq_getElem?_getD, h3, Option.getD_some]
          exact hit_one_fit (Hit.fits_mem hl (List.mem_of_getElem? h3))
    · rw [decide_eq_false h1, cond_false] at hy
      cases hfs : Form.fls f.kids hs with
      | none => simp [hfs] at hy
      | some ys =>
        rw [hfs] at hy
        simp only at hy
        cases hc : decide (Form.cnts ys ≤ 400) with
        | false => rw [hc] at hy; cases hy
        | true =>
          rw [hc, cond_true] at hy
          cases hy
          have key : ∀ (zs : List Form), (∀ x ∈ zs, x ∈ f.kids) → ∀ r, Form.fls zs hs = some r → ∀ y ∈ r, y.fit := by
            intro zs
            induction zs with
            | nil => intro _ r hr y hy; rw [Form.fls] at hr; cases hr; cases hy
            | cons x xs ihz =>
              intro hm r hr y hy
              have hxm := hm x (by simp)
              have hxw := Form.ws_mem hxm
              have hxf := Form.fits_mem hf.parts.2.2.2 hxm
              rw [Form.fls_eq] at hr
              cases hdx : zJ x with
              | true => rw [hdx, cond_true] at hr; exact ihz (fun z hz => hm z (by simp [hz])) r hr y hy
              | false =>
                rw [hdx, cond_false] at hr
                obtain ⟨a, b, ha, hb, rfl⟩ := fapp_some hr
                rcases List.mem_append.1 hy with hy | hy
                · cases hnx : zbW xs with
                  | false =>
                    rw [hnx, cond_false] at ha
                    cases hxfl : x.fl hs with
                    | none => rw [hxfl] at ha; cases ha
                    | some z =>
                      rw [hxfl] at ha; cases ha
                      rw [List.mem_singleton] at hy; subst hy
                      exact ih x (by omega) hxf hs hl _ hxfl
                  | true =>
                    rw [hnx, cond_true] at ha
                    cases hcn : cntR x (-1) hs with
                    | none => rw [hcn] at ha; cases ha
                    | some N =>
                      rw [hcn] at ha
                      exact rowF_all (fun i y hiy => ih x (by omega) hxf _ (nthR_fit hl) y hiy) ha y hy
                · exact ihz (fun z hz => hm z (by simp [hz])) b hb y hy
          have hcl := cnts_len ys
          have hc := of_decide_eq_true hc
          have hp := hf.parts
          rw [Form.fit]
          exact ⟨hp.1, hp.2.1, by omega, Form.fits_of_mem (key f.kids (fun x hx => hx) ys hfs)⟩
theorem fl_fit {f y : Form} {hs : List Hit} (hf : f.fit) (hl : Hit.fits hs) (h : f.fl hs = some y) : y.fit := fl_fit_n _ f (Nat.le_refl _) hf hs hl y h
theorem kD_prev : ∀ {zs : List Form} {pd sn : Bool} {i : Nat} {x : Form}, Form.kD false pd sn zs = true → zs[i]? = some x → zJ x = true → (i = 0 ∧ pd = false) ∨ ∃ j y, i = j + 1 ∧ zs[j]? = some y ∧ zJ y = false
  | z :: zs, pd, sn, 0, x, h, hx, hd => by
    simp at hx; subst hx
    rw [Form.kD, hd, cond_true, Bool.and_eq_true, Bool.and_eq_true, Bool.not_eq_true'] at h
    exact .inl ⟨rfl, h.1.1⟩
  | z :: zs, pd, sn, i + 1, x, h, hx, hd => by
    rw [Form.kD, Bool.and_eq_true] at h
    rcases kD_prev (zs := zs) (i := i) h.2 (by simpa using hx) hd with ⟨rfl, h2⟩ | ⟨j, y, rfl, hy, hyd⟩
    · exact .inr ⟨0, z, rfl, rfl, h2⟩
    · exact .inr ⟨j + 1, y, rfl, by simpa using hy, hyd⟩
theorem zgj.plain {l : List (Form × Int)} {v : Nat} {hs : List Hit} {f : Form} (hF : zgj l v hs f) (hd : f.dotsOk false = true) (hno : ∀ h ∈ hs, Form.part h.name f = false) : ∀ x ∈ f.kids, zJ x = false := by
  intro x hx
  rw [Bool.eq_false_iff]
  intro hdx
  obtain ⟨i, hi⟩ := List.getElem?_of_mem hx
  rw [Form.dotsOk_eq] at hd
  rcases kD_prev hd hi hdx with ⟨_, h⟩ | ⟨j, y, rfl, hy, hyd⟩
  · cases h
  · have hnx : zbW (f.kids.drop (j + 1)) = true := by
      rw [drop_get hi]; exact hdx
    obtain ⟨⟨h, hm, hdp⟩, _⟩ := hF.row hy hyd hnx
    unfold zdl at hdp
    rw [Bool.and_eq_true] at hdp
    have := part_kid (List.mem_of_getElem? hy) hdp.1
    rw [hno h hm] at this; cases this
end Go.Abs
end
section
set_option linter.unusedVariables false
set_option linter.unusedSimpArgs false
namespace Go.Abs
theorem fnd_of {α : Type} {D : α → Bool} : ∀ {l : List α} {k i : Nat} {x : α}, l[i]? = some x → D x = true → (∀ y ∈ l.take i, D y = false) → fnd D l k = ((k + i : Nat) : Int)
  | [], k, i, x, h, _, _ => by simp at h
  | z :: l, k, 0, x, h, hx, _ => by
    simp at h; subst h
    rw [fnd, hx, cond_true]; rfl
  | z :: l, k, i + 1, x, h, hx, hy => by
    rw [fnd, hy z (by simp), cond_false, fnd_of (i := i) (x := x) (by simpa using h) hx (fun y hm => hy y (by simp [hm]))]
    congr 1; omega
theorem RulesF.sub {rules rs : List Rule} (h : RulesF rules) (hs : ∀ r ∈ rs, r ∈ rules) : RulesF rs := ⟨fun r hr => h.fit r (hs r hr), fun r hr => h.pw r (hs r hr), fun r hr => h.tw r (hs r hr)⟩
section
variable (code : List Int) (hc : ∀ x ∈ code, 0 ≤ x ∧ x < 256)
include hc
end
end Go.Abs
end
section
set_option linter.unusedVariables false
set_option linter.unusedSimpArgs false
namespace Go.Abs
theorem hv_names {hs : List Hit} (hv : hvOk hs = true) : distF [] (hs.map Hit.name) = true := by
  unfold hvOk at hv
  rw [Bool.and_eq_true] at hv
  exact hvF_dist hv.1
theorem hit_name {h : Hit} (hk : h.isOk = true) : h.name.kind = 1 ∧ h.name.valid = true ∧ zJ h.name = false ∧ h.name.kids = [] := by
  have h1 := (zf8 hk).1
  unfold isNm at h1
  rw [Bool.and_eq_true, decide_eq_true_eq] at h1
  rw [Hit.isOk_eq] at hk
  simp only [Bool.and_eq_true, Bool.not_eq_true', decide_eq_false_iff_not] at hk
  have hv := h1.2
  unfold Form.valid at hv
  rw [Bool.and_eq_true] at hv
  refine ⟨h1.1, h1.2, ?_, (isOk_name hv.1 h1.1).2⟩
  unfold zJ
  rw [decide_eq_false hk.2.1, Bool.and_false]
theorem hAt_of {hs : List Hit} (hv : hvOk hs = true) {k : Nat} {x : Hit} (hx : hs[k]? = some x) : hAt hs x.name = (k : Int) := by
  have hd := hv_names hv
  have := fnd_of (D := fun y : Hit => same y.name x.name) (k := 0) hx (zeZ _) (fun y hy => by
    obtain ⟨j, hj, rfl⟩ := List.mem_take_iff_getElem.1 hy
    have hjk : j < k := by omega
    have hjl : j < hs.length := by omega
    exact (distF_ne hd).2 j k _ _ hjk (by rw [List.getElem?_map, List.getElem?_eq_getElem hjl]; rfl) (by rw [List.getElem?_map, hx]; rfl))
  rw [Nat.zero_add] at this
  exact this
theorem fillT_name {hs : List Hit} (hv : hvOk hs = true) {k : Nat} {x : Hit} (hx : hs[k]? = some x) : fillT x.name hs = bif decide (x.depth = 0) then (x.one, true) else (zcq, false) := by
  have hk := (zgw hv).1 x (List.mem_of_getElem? hx)
  obtain ⟨n1, n2, n3, n4⟩ := hit_name hk
  obtain ⟨_, ⟨d1, _⟩, d3, _⟩ := zf8 hk
  have hdep : dep (nd hs) x.name = x.depth := by
    unfold dep
    rw [decide_eq_false (fun h => h n1), cond_false]
    exact depF_at (l := nd hs) (by rw [nd_fst]; exact hv_names hv) (i := k) (p := (x.name, x.depth)) (by unfold nd; rw [List.getElem?_map, hx]; rfl)
  have ht : zgy x.name (nd hs) = decide (x.depth = 0) := by
    unfold zgy
    rw [n2, n3, Form.dotsOk_eq, n4, Form.kD, Form.rws_eq, n4, Form.kR, hdep]
    simp only [Bool.true_and, Bool.not_false, Bool.and_true]
    rw [Bool.eq_iff_iff, Bool.not_eq_true', decide_eq_false_iff_not, decide_eq_true_iff]
    omega
  unfold fillT
  rw [hv, ht, Bool.true_and]
  by_cases h0 : x.depth = 0
  · rw [decide_eq_true h0, cond_true, cond_true, Form.fl_eq, decide_eq_true n1, cond_true]
    have : findO hs x.name = x.one := by
      unfold findO
      rw [hAt_of hv hx, decide_eq_true (by omega), cond_true, Int.toNat_natCast, List.getD_eq_getElem?_getD, hx]; rfl
    unfold fillV
    rw [this]
    show (bif x.one.valid then (x.one, true) else (zcq, false)) = _
    rw [(d3 h0).1]; rfl
  · rw [decide_eq_false h0]; rfl
theorem DrawFill_tq (code : List Int) (hc : ∀ x ∈ code, 0 ≤ x ∧ x < 256) : TQ (fun m => zb2 m code) (fun r => Dr 1000 r.1 ∧ DrH 2000000 r.2) :=
  TQ.eq (fun m => by unfold zb2; rfl) (TQ.bind (l5Hits_tq code hc) (fun v hv => TQ.val hv))
theorem FnFillVar_law (code : List Int) (hc : ∀ x ∈ code, 0 ≤ x ∧ x < 256) : TQ (fun m => zfl m code) (fun r => r = true) := by
  refine codeB (fun _ => ?_) (fun m => by unfold zfl; rfl)
  refine TQ.bind (DrawFill_tq code hc) (fun v hv => TQ.same ?_)
  obtain ⟨t, hs⟩ := v
  obtain ⟨h1, h2⟩ := hv
  replace h1 : Dr 1000 t := h1
  replace h2 : DrH 2000000 hs := h2
  have hw := h1.w
  have hl := h2.w
  have hll := Hit.ws_len hs
  have hfo : ∀ y, t.fl hs = some y → y.fit := fun y hy => fl_fit h1.fit h2.fit hy
  refine Tr.bind (zgG t hs h1.fit (by omega) h2.fit (by omega) hfo) (Tr.bind (specFillTemplate_tr t hs h1.fit (by omega) h2.fit (by omega) hfo) (Tr.bind (zb6 _ _) ?_))
  rw [zeZ]
  refine Tr.ff rfl (Tr.ff (by simp) (Tr.bind (implHitsValid_tr hs h2.fit) ?_))
  cases hv : hvOk hs with
  | false =>
    refine Tr.step (fun m => by rw [zbq, Bool.not_false, cond_true]) (Tr.bind (zb6 _ _) ?_)
    rw [zeZ]
    exact Tr.tt rfl (Tr.step (fun m => by rw [zcy]) (by rw [decide_eq_true rfl]; exact Tr.val))
  | true =>
  refine Tr.step (fun m => by rw [zbq, Bool.not_true, cond_false]) ?_
  have key := zag hs (fun k zs => Tr (fun m => zaZ m (t, hs) (k : Int)) true) ?_ ?_ 0 (Nat.zero_le _)
  · exact key
  · exact Tr.step (fun m => by rw [zaZ, zU, cond_false]) Tr.val
  · intro k x zs hk hx hd ih
    have hm := List.mem_of_getElem? hx
    have hxf := (Hit.fits_mem h2.fit hm).parts
    have hxw := Hit.ws_mem hm
    have hxp := Hit.w_parts x
    refine Tr.step (fun m => by rw [zaZ, ltN hk, cond_true, zC hx, Option.bind_some]) (Tr.bind (zgG x.name hs hxf.1 (by omega) h2.fit (by omega) (fun y hy => fl_fit hxf.1 h2.fit hy)) ?_)
    refine Tr.eq (fun m => by rw [Option.bind_some]) ?_
    rw [fillT_name hv hx]
    by_cases h0 : x.depth = 0
    · rw [decide_eq_true h0, cond_true]
      refine Tr.ff (by simp [h0]) (Tr.tt rfl (Tr.eq (fun m => by rw [Option.bind_some]) (Tr.bind (zb6 _ _) ?_)))
      rw [zeZ]
      exact Tr.ff rfl (Tr.eq (fun m => by rw [zbc]) ih)
    · rw [decide_eq_false h0, cond_false]
      exact Tr.ff (by simp [h0]) (Tr.ff rfl (Tr.eq (fun m => by rw [zbc]) ih))
end Go.Abs
end
