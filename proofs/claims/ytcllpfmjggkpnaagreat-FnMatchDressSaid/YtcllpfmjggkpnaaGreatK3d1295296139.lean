/- A part of the proof: what the functions that the law calls answer, as pure values. -/
import Derived.Test.YtcllpfmjggkpnaaGreatK73f09199af94
import Derived.Test.YtcllpfmjggkpnaaGreatKa15390ddf9b4
import Derived.Test.YtcllpfmjggkpnaaGreatK2855203d3d61
import Derived.Test.YtcllpfmjggkpnaaGreatK2128be1e8112
import Derived.Test.YtcllpfmjggkpnaaGreatKfed158489141
set_option linter.unusedSimpArgs false
set_option linter.unusedVariables false
section
set_option linter.unusedVariables false
set_option linter.unusedSimpArgs false
namespace Go.Abs
theorem fnd_any {α : Type} {D : α → Bool} {l : List α} {k : Nat} : decide (0 ≤ fnd D l k) = anys D l := by
  rw [Bool.eq_iff_iff, decide_eq_true_iff, fnd_ge, anys_iff]
theorem zfT (l : List Bind) (hl : l.length ≤ 9223372036854775807) (hf : ∀ b ∈ l, b.fit) : Tr (fun m => zcj m l) (bvOk l) := by
  refine Tr.eq (fun m => by unfold zcj; rfl) ?_
  have key := zaB l (fun k zs => Tr (fun m => zbf m l (k : Int)) (bvF (l.take k) zs && decide ((l.length : Int) ≤ 60))) ?_ ?_ 0 (Nat.zero_le _)
  · simpa [bvOk] using key
  · exact Tr.step (fun m => by rw [zbf, zah, cond_false]) (by rw [bvF, Bool.true_and]; exact Tr.val)
  · intro k x zs hk hx hd ih
    have hm := List.mem_of_getElem? hx
    have hxf := hf x hm
    rw [zfP hx] at ih
    have j2 : ∀ b : Bool, bindOk x = !b → Tr (fun m => zaY m l (k : Int) x b) (bvF (l.take k) (x :: zs) && decide ((l.length : Int) ≤ 60)) := by
      intro b hb
      rw [bvF, hb]
      cases b with
      | true => exact Tr.step (fun m => by rw [zaY, cond_true]; rfl) Tr.val
      | false =>
        rw [Bool.not_false, Bool.true_and]
        refine Tr.step (fun m => by rw [zaY, cond_false, sub_take (by omega), Option.bind_some, zck]) ?_
        refine Tr.bind (v := anys (fun c => decide (c.name = x.name) && same c.scopes x.scopes) (l.take k)) ?_ ?_
        · refine Tr.eq (fun m => by unfold zaP; rfl) (Tr.bind (v := fnd (fun c => decide (c.name = x.name) && same c.scopes x.scopes) (l.take k) 0) ?_ (Tr.of fun m => by rw [fnd_any]))
          refine Tr.eq (fun m => by unfold zaZ; rfl) ?_
          refine zf8 (L := fun m j => zK m (l.take k) x j) (E := fun m y => zc2 m y x) (fun m j => by rw [zK]) (fun y _ => ?_)
          refine Tr.eq (fun m => by unfold zc2; rfl) ?_
          cases decide (y.name = x.name) with
          | false => exact Tr.ff rfl Tr.val
          | true => exact Tr.tt rfl (Tr.bind (slEqual_tr _ _) Tr.val)
        · cases anys (fun c => decide (c.name = x.name) && same c.scopes x.scopes) (l.take k) with
          | true => exact Tr.tt rfl Tr.val
          | false => exact Tr.ff rfl (by rw [Bool.not_false, Bool.true_and]; exact ih)
    refine Tr.step (fun m => by rw [zbf, ltN hk, cond_true, zJ hx, Option.bind_some]) (Tr.bind (implNm_tr _ hxf.1) ?_)
    cases hn : nmOk x.name with
    | false => exact Tr.tt rfl (j2 true (by unfold bindOk; rw [hn]; rfl))
    | true =>
    refine Tr.ff rfl (Tr.bind (implSc_tr _ hxf.2) ?_)
    cases hs : scOk x.scopes with
    | false => exact Tr.tt rfl (j2 true (by unfold bindOk; rw [hn, hs]; rfl))
    | true =>
    refine Tr.ff rfl (Tr.bind (zgR _ _ _) (j2 _ ?_))
    unfold bindOk; rw [hn, hs, Bool.not_not]; rfl
theorem hasC_tr (l : List Int) (n : Int) : Tr (fun m => zcr m l n) (hasB l n) := by
  refine Tr.eq (fun m => by unfold zcr; rfl) (Tr.bind (v := fnd (fun y => decide (n = y)) l 0) ?_ ?_)
  · refine Tr.eq (fun m => by unfold zei; rfl) ?_
    exact zf8 (L := fun m j => zbp m l n j) (E := fun m y => some (decide (n = y))) (fun m j => by rw [zbp]; rfl) (fun y _ => Tr.val)
  · have e : decide (0 ≤ fnd (fun y => decide (n = y)) l 0) = hasB l n := by
      rw [fnd_any, Bool.eq_iff_iff, anys_iff, hasB, anys_iff]
      simp only [decide_eq_true_eq, eq_comm]
    rw [← e]; exact Tr.val
theorem not_anys {α : Type} {D : α → Bool} : ∀ {l : List α}, (!anys (fun x => !D x) l) = alls D l
  | [] => rfl
  | x :: xs => by rw [anys, alls, Bool.not_or, Bool.not_not, not_anys]
theorem implWithin_tr (a b : List Int) : Tr (fun m => zcg m a b) (zg5 a b) := by
  refine Tr.eq (fun m => by unfold zcg; rfl) (Tr.bind (v := anys (fun x => !hasB b x) a) ?_ ?_)
  · refine Tr.eq (fun m => by unfold zaK; rfl) (Tr.bind (v := fnd (fun x => !hasB b x) a 0) ?_ (Tr.of fun m => by rw [fnd_any]))
    refine Tr.eq (fun m => by unfold zaX; rfl) ?_
    exact zf8 (L := fun m j => zH m a b j) (E := fun m y => zcw m y b) (fun m j => by rw [zH]) (fun y _ => Tr.eq (fun m => by unfold zcw; rfl) (Tr.bind (hasC_tr _ _) Tr.val))
  · rw [← show (!anys (fun x => !hasB b x) a) = zg5 a b from not_anys]; exact Tr.val
theorem fitting_tr (l : List Bind) (f : Form) (hb : l.length ≤ 2 ^ 36) : Tr (fun m => zeY m l f) (fitsB l f) := by
  refine Tr.eq (fun m => by unfold zeY; rfl) ?_
  have key := zaB l (fun k zs => ∀ g : List Int, g.length ≤ k → Tr (fun m => zbw m l f g (k : Int)) (g ++ fitsF f zs k)) ?_ ?_ 0 (Nat.zero_le _) [] (by simp)
  · exact key
  · intro g _
    refine Tr.step (fun m => by rw [zbw, zah, cond_false]) ?_
    rw [fitsF, List.append_nil]; exact Tr.val
  · intro k x zs hk hx hd ih g hg
    refine Tr.step (fun m => by rw [zbw, ltN hk, cond_true, zJ hx, Option.bind_some]) ?_
    rw [fitsF]
    have j2 : ∀ b : Bool, fitB f x = b → Tr (fun m => zcf m l f g (k : Int) b) (g ++ ((bif fitB f x then [(k : Int)] else []) ++ fitsF f zs (k + 1))) := by
      intro b hb
      rw [hb]
      refine Tr.step (fun m => by rw [zcf]) ?_
      cases b with
      | true =>
        refine Tr.tt rfl (Tr.chk (decide_eq_true (by simp; omega)) ?_)
        have := ih (g ++ [(k : Int)]) (by simp; omega)
        rw [List.append_assoc] at this
        exact this
      | false => exact Tr.ff rfl (by simpa using ih g (by omega))
    unfold fitB at j2
    by_cases hn : x.name = f.name
    · refine Tr.tt (decide_eq_true hn) (Tr.bind (implWithin_tr _ _) (j2 _ ?_))
      rw [decide_eq_true hn, Bool.true_and]
    · refine Tr.ff (decide_eq_false hn) (j2 false ?_)
      rw [decide_eq_false hn, Bool.false_and]
theorem bound_tr (l : List Bind) (f : Form) (hb : l.length ≤ 2 ^ 36) : Tr (fun m => zf7 m l f) (refB l f) := by
  refine Tr.eq (fun m => by unfold zf7; rfl) (Tr.bind (fitting_tr l f hb) ?_)
  unfold refB
  have hm : ∀ i ∈ fitsB l f, 0 ≤ i ∧ i < (l.length : Int) := fun i hi => fitsB_mem hi
  generalize fitsB l f = fs at hm
  by_cases h0 : fs = []
  · subst h0; exact Tr.tt rfl Tr.val
  have hpos : 0 < fs.length := by cases fs with
    | nil => exact absurd rfl h0
    | cons a b => simp
  rw [decide_eq_true (show 0 < (fs.length : Int) by omega), cond_true]
  refine Tr.ff (decide_eq_false (by omega)) ?_
  have key := zaB fs (fun k zs => (∀ z ∈ zs, z ∈ fs) → Tr (fun m => zcv m l fs (k : Int)) (match firstB l fs zs with
    | some i => (i, 1)
    | none => (0, 2))) ?_ ?_ 0 (Nat.zero_le _) (fun z hz => by simpa using hz)
  · exact key
  · intro _
    exact Tr.step (fun m => by rw [zcv, zah, cond_false]; rfl) Tr.val
  · intro k x zs hk hx hd ih hz
    have hx1 := hm x (hz x (by simp))
    refine Tr.step (fun m => by rw [zcv, ltN hk, cond_true, zJ hx, Option.bind_some, zck]) ?_
    rw [firstB]
    refine Tr.bind (v := anys (fun j => !zg5 (bAt l j).scopes (bAt l x).scopes) fs) ?_ ?_
    · refine Tr.eq (fun m => by unfold zbj; rfl) (Tr.bind (v := fnd (fun j => !zg5 (bAt l j).scopes (bAt l x).scopes) fs 0) ?_ (Tr.of fun m => by rw [fnd_any]))
      refine Tr.eq (fun m => by unfold zbA; rfl) ?_
      refine zf8 (L := fun m j => z8 m fs l x j) (E := fun m y => zeZ m y l x) (fun m j => by rw [z8]) (fun y hy => ?_)
      have hy1 := hm y hy
      exact Tr.eq (fun m => by unfold zeZ; rw [bAt_idx hy1.1 hy1.2, Option.bind_some, bAt_idx hx1.1 hx1.2, Option.bind_some]) (Tr.bind (implWithin_tr _ _) Tr.val)
    · have e : (!anys (fun j => !zg5 (bAt l j).scopes (bAt l x).scopes) fs) = bestB l fs x := not_anys
      cases hbb : bestB l fs x with
      | true => exact Tr.tt (e.trans hbb) Tr.val
      | false => exact Tr.ff (e.trans hbb) (ih (fun z hzz => hz z (by simp [hzz])))
end Go.Abs
end
section
set_option linter.unusedVariables false
set_option linter.unusedSimpArgs false
namespace Go.Abs
mutual
theorem Form.vd_up (lits : List Form) : ∀ (f : Form) (v : Nat), (f.vd lits (v + 1)).map (·.2) = ((f.vd lits v).map (·.2)).map (· + 1)
  | .mk k nm n sc kids, v => by
    have := Form.kV_up lits kids v
    rw [Form.vd, Form.vd, List.map_append, List.map_append, List.map_append, this]
    cases zcD lits (.mk k nm n sc kids) <;> simp
theorem Form.kV_up (lits : List Form) : ∀ (l : List Form) (v : Nat), (Form.kV lits (v + 1) l).map (·.2) = ((Form.kV lits v l).map (·.2)).map (· + 1)
  | [], v => by rw [Form.kV, Form.kV]; rfl
  | y :: ys, v => by
    have h1 := Form.kV_up lits ys v
    have h2 := Form.vd_up lits y v
    have h3 := Form.vd_up lits y (v + 1)
    rw [Form.kV, Form.kV, List.map_append, List.map_append, List.map_append, h1]
    cases zb7 ys with
    | true => rw [cond_true, cond_true, h3]
    | false => rw [cond_false, cond_false, h2]
end
theorem rowH_depth : ∀ (vs : List (Form × Int)) (k : Nat) (rows : List (List Hit)), (rowH k vs rows).map Hit.depth = (vs.map (·.2)).map (· + 1)
  | [], k, rows => rfl
  | v :: vs, k, rows => by rw [rowH, List.map_cons, List.map_cons, List.map_cons, rowH_depth vs]; rfl
theorem KidS.dots_vd {x : Form} (h : KidS x) (hd : zF x = true) (lits : List Form) (v : Nat) : x.vd lits v = [] := by
  obtain ⟨_, h2, h3⟩ := h.dots hd lits
  rw [Form.vd_eq, h2, h3, Form.kV]; rfl
theorem zgF {bs : List Bind} {lits : List Form} : ∀ {ps : List Form}, (∀ x ∈ ps, KidS x) → (∀ x ∈ ps, zF x = false → ∀ f h, x.mt bs lits f = some h → h.map Hit.depth = (x.vd lits 0).map (·.2)) → ∀ {fs : List Form} {h : List Hit}, Form.mts bs lits ps fs = some h → h.map Hit.depth = (Form.kV lits 0 ps).map (·.2)
  | [], _, _, fs, h, hm => by
    rw [Form.mts] at hm
    cases hz : decide (fs.length = 0) with
    | true => rw [hz] at hm; cases hm; rfl
    | false => rw [hz] at hm; cases hm
  | p :: ps, hk, ih, fs, h, hm => by
    have hk' : ∀ x ∈ ps, KidS x := fun x hx => hk x (by simp [hx])
    have ih' : ∀ x ∈ ps, zF x = false → ∀ f h, x.mt bs lits f = some h → h.map Hit.depth = (x.vd lits 0).map (·.2) := fun x hx => ih x (by simp [hx])
    rw [Form.kV, List.map_append]
    rcases mts_cons hm with ⟨hd, hm2⟩ | ⟨hd, hn, hl, rows, h2, ha, hm2, rfl⟩ | ⟨hd, hn, f, fs', h1, h2, rfl, hf, hm2, rfl⟩
    · rw [(hk p (by simp)).dots_vd hd, (hk p (by simp)).dots_vd hd]
      cases zb7 ps <;> exact zgF hk' ih' hm2
    · rw [List.map_append, rowH_depth, hn, cond_true, Form.vd_up, zgF hk' ih' hm2]
    · rw [List.map_append, ih p (by simp) hd f h1 hf, hn, cond_false, zgF hk' ih' hm2]
theorem mt_depth_n (bs : List Bind) (lits : List Form) : ∀ (n : Nat) (p : Form), p.w ≤ n → PatS p → ∀ f h, p.mt bs lits f = some h → h.map Hit.depth = (p.vd lits 0).map (·.2) := by
  intro n
  induction n with
  | zero => intro p h; have := p.w_kids; omega
  | succ n ih =>
    intro p hp hs f h hm
    have hw := p.w_kids
    obtain ⟨q1, q2, q3, q4, q5⟩ := hs.parts
    rw [Form.mt_eq] at hm
    rw [Form.vd_eq]
    by_cases h1 : p.kind = 1
    · rw [decide_eq_true h1, cond_true] at hm
      rw [q5 (by omega), Form.kV, List.append_nil]
      unfold zF at q1
      rw [decide_eq_true h1, Bool.true_and] at q1
      unfold zcD
      rw [decide_eq_true h1, q1, Bool.not_false, Bool.true_and, Bool.true_and]
      cases hu : decide (p.name = zeR) with
      | true => rw [hu] at hm; cases hm; rfl
      | false =>
      rw [hu, cond_false] at hm
      cases hi : inF lits p with
      | true =>
        rw [hi, cond_true] at hm
        cases hr : (decide (f.kind = 1) && refS bs p f) with
        | true => rw [hr] at hm; cases hm; rfl
        | false => rw [hr] at hm; cases hm
      | false => rw [hi] at hm; cases hm; rfl
    · rw [decide_eq_false h1, cond_false] at hm
      have hv : zcD lits p = false := by unfold zcD; rw [decide_eq_false h1]; rfl
      rw [hv, cond_false, List.nil_append]
      by_cases h2 : p.kind = 2
      · rw [decide_eq_true h2, cond_true] at hm
        rw [q5 (by omega), Form.kV]
        cases hr : same p f with
        | true => rw [hr] at hm; cases hm; rfl
        | false => rw [hr] at hm; cases hm
      · rw [decide_eq_false h2, cond_false] at hm
        cases hr : decide (f.kind ≠ 3) with
        | true => rw [hr] at hm; cases hm
        | false =>
          rw [hr, cond_false] at hm
          exact zgF q4 (fun x hx hd => ih x (by have := Form.ws_mem hx; omega) ((q4 x hx).pat hd)) hm
theorem mt_depth {bs : List Bind} {lits : List Form} {p f : Form} {h : List Hit} (hs : PatS p) (hm : p.mt bs lits f = some h) : h.map Hit.depth = (p.vd lits 0).map (·.2) := mt_depth_n bs lits _ p (Nat.le_refl _) hs f h hm
theorem isOk_mono : ∀ (n : Nat) (f : Form), f.w ≤ n → ∀ d e, d ≤ e → f.isOk d = true → f.isOk e = true := by
  intro n
  induction n with
  | zero => intro f h; have := f.w_kids; omega
  | succ n ih =>
    intro f hf d e hde h
    have hw := f.w_kids
    rw [Form.isOk_eq] at h ⊢
    by_cases hd : d = 0
    · rw [decide_eq_true hd] at h; cases h
    rw [decide_eq_false hd, cond_false] at h
    rw [decide_eq_false (show ¬ e = 0 by omega), cond_false]
    cases h1 : decide (f.kind = 1) with
    | true => rw [h1, cond_true] at h; exact h
    | false =>
    rw [h1, cond_false] at h
    rw [cond_false]
    cases h2 : decide (f.kind = 2) with
    | true => rw [h2, cond_true] at h; exact h
    | false =>
    rw [h2, cond_false] at h
    rw [cond_false]
    simp only [Bool.and_eq_true] at h ⊢
    obtain ⟨a, b, c, k, g⟩ := h
    refine ⟨a, b, c, k, ?_⟩
    rw [zfc] at g ⊢
    exact fun x hx => ih x (by have := Form.ws_mem hx; omega) (d - 1) (e - 1) (by omega) (g x hx)
theorem cnts_mem : ∀ {l : List Form} {x : Form}, x ∈ l → x.cnt ≤ Form.cnts l
  | y :: ys, x, h => by
    rw [Form.cnts]
    rcases List.mem_cons.1 h with rfl | h
    · omega
    · have := cnts_mem h; omega
theorem cnts_len : ∀ (l : List Form), l.length ≤ Form.cnts l
  | [] => by simp
  | y :: ys => by
    have := cnts_len ys
    have := y.cnt_eq
    rw [Form.cnts, List.length_cons]; omega
theorem valid_kid {f x : Form} (h : f.valid = true) (hx : x ∈ f.kids) : x.valid = true := by
  unfold Form.valid at h ⊢
  rw [Bool.and_eq_true, decide_eq_true_eq] at h ⊢
  have := (zey h.1).2 x hx
  have h2 := cnts_mem hx
  have h3 := f.cnt_eq
  exact ⟨isOk_mono _ x (Nat.le_refl _) (40 - 1) 40 (by omega) this, by omega⟩
theorem valid_kids {f : Form} (h : f.valid = true) : f.kids.length ≤ 400 := by
  unfold Form.valid at h
  rw [Bool.and_eq_true, decide_eq_true_eq] at h
  have h2 := cnts_len f.kids
  have h3 := f.cnt_eq
  omega
def HitD : Nat → Hit → Prop
  | 0, h => h.depth = 0 ∧ h.one.valid = true ∧ h.many = []
  | d + 1, h => h.depth = (d : Int) + 1 ∧ h.one = zfU ∧ h.many.length ≤ 400 ∧ ∀ x ∈ h.many, x.name = h.name ∧ HitD d x
def nameG (f : Form) : Bool := isNm f && (!decide (f.name = dotsN) && !decide (f.name = zeR))
theorem HitD.depth {d : Nat} {h : Hit} (hd : HitD d h) : h.depth = (d : Int) := by
  cases d with
  | zero => exact hd.1
  | succ d => rw [hd.1]; omega
theorem HitD.isOk : ∀ (d : Nat) (h : Hit), d ≤ 3 → HitD d h → nameG h.name = true → h.isOk = true
  | 0, h, hd, hh, hn => by
    obtain ⟨h1, h2, h3⟩ := hh
    unfold nameG at hn
    simp only [Bool.and_eq_true] at hn
    rw [Hit.isOk_eq, hn.1, hn.2.1, hn.2.2, h1, h2, h3]; rfl
  | d + 1, h, hd, hh, hn => by
    obtain ⟨h1, h2, h3, h4⟩ := hh
    have hn0 := hn
    unfold nameG at hn
    simp only [Bool.and_eq_true] at hn
    rw [Hit.isOk_eq, hn.1, hn.2.1, hn.2.2, h1, h2, zeS, decide_eq_false (show ¬ (d : Int) + 1 = 0 by omega), decide_eq_true (show (0 : Int) ≤ (d : Int) + 1 by omega), decide_eq_true (show (d : Int) + 1 ≤ 3 by omega), decide_eq_true (show (h.many.length : Int) ≤ 400 by omega)]
    simp only [Bool.true_and, cond_false]
    rw [zfc]
    intro x hx
    obtain ⟨e1, e2⟩ := h4 x hx
    rw [e1, zeS, e2.depth, decide_eq_true (show (d : Int) = (d : Int) + 1 - 1 by omega), HitD.isOk d x (by omega) e2 (by rw [e1]; exact hn0)]
    rfl
theorem rowH_mem : ∀ {vs : List (Form × Int)} {k : Nat} {rows : List (List Hit)} {x : Hit}, x ∈ rowH k vs rows → ∃ j v, vs[j]? = some v ∧ x = Hit.mk v.1 (v.2 + 1) zfU (rows.map fun r => r.getD (k + j) hit0)
  | v :: vs, k, rows, x, hx => by
    rw [rowH] at hx
    rcases List.mem_cons.1 hx with rfl | hx
    · exact ⟨0, v, rfl, rfl⟩
    · obtain ⟨j, w, h1, h2⟩ := rowH_mem hx
      exact ⟨j + 1, w, by simpa using h1, by rw [h2, show k + 1 + j = k + (j + 1) by omega]⟩
theorem zha {bs : List Bind} {lits : List Form} : ∀ {ps : List Form}, (∀ x ∈ ps, KidS x) → (∀ x ∈ ps, zF x = false → ∀ f h, f.valid = true → x.mt bs lits f = some h → ∀ y ∈ h, 0 ≤ y.depth ∧ HitD y.depth.toNat y) → ∀ {fs : List Form} {h : List Hit}, fs.length ≤ 400 → (∀ f ∈ fs, f.valid = true) → Form.mts bs lits ps fs = some h → ∀ y ∈ h, 0 ≤ y.depth ∧ HitD y.depth.toNat y
  | [], _, _, fs, h, _, _, hm => by
    rw [Form.mts] at hm
    cases hz : decide (fs.length = 0) with
    | true => rw [hz] at hm; cases hm; intro y hy; cases hy
    | false => rw [hz] at hm; cases hm
  | p :: ps, hk, ih, fs, h, hl, hv, hm => by
    have hk' : ∀ x ∈ ps, KidS x := fun x hx => hk x (by simp [hx])
    have ih' : ∀ x ∈ ps, zF x = false → ∀ f h, f.valid = true → x.mt bs lits f = some h → ∀ y ∈ h, 0 ≤ y.depth ∧ HitD y.depth.toNat y := fun x hx => ih x (by simp [hx])
    rcases mts_cons hm with ⟨hd, hm2⟩ | ⟨hd, hn, hl2, rows, h2, ha, hm2, rfl⟩ | ⟨hd, hn, f, fs', h1, h2, rfl, hf, hm2, rfl⟩
    · exact zha hk' ih' hl hv hm2
    · intro y hy
      rcases List.mem_append.1 hy with hy | hy
      · obtain ⟨j, v, hj, rfl⟩ := rowH_mem hy
        have hvm := List.mem_of_getElem? hj
        have h0 := Form.vd_nn lits p 0 v hvm
        have hS := (hk p (by simp)).pat hd
        refine ⟨by show 0 ≤ v.2 + 1; omega, ?_⟩
        show HitD (v.2 + 1).toNat _
        obtain ⟨d, hd2⟩ := Int.eq_ofNat_of_zero_le h0
        rw [hd2, show ((d : Int) + 1).toNat = d + 1 by omega]
        refine ⟨rfl, rfl, ?_, fun z hz => ?_⟩
        · show (rows.map _).length ≤ 400
          rw [List.length_map, allM_len ha, List.length_take]; omega
        · obtain ⟨r, hr, rfl⟩ := List.mem_map.1 hz
          obtain ⟨f, hf, hD⟩ := allM_mem ha r hr
          have hlen := mt_len hS hD
          have hjl := (List.getElem?_eq_some_iff.1 hj).1
          rw [Nat.zero_add]
          obtain ⟨e1, e2⟩ := getD_mem (l := r) (k := j) (d := hit0) (by omega)
          have n1 : (r.getD j hit0).name = v.1 := by
            have := mt_names hS hD
            rw [← Form.vd_fst lits p 0] at this
            have := congrArg (fun l => l[j]?) this
            simp only [List.getElem?_map, e1, hj, Option.map_some] at this
            exact Option.some.inj this
          have n2 : (r.getD j hit0).depth = v.2 := by
            have := mt_depth hS hD
            have := congrArg (fun l => l[j]?) this
            simp only [List.getElem?_map, e1, hj, Option.map_some] at this
            exact Option.some.inj this
          refine ⟨n1, ?_⟩
          have := (ih p (by simp) hd f r (hv f (List.mem_of_mem_take hf)) hD _ e2).2
          rw [n2, hd2] at this
          exact this
      · exact zha hk' ih' (by rw [List.length_drop]; omega) (fun f hf => hv f (List.mem_of_mem_drop hf)) hm2 y hy
    · intro y hy
      rcases List.mem_append.1 hy with hy | hy
      · exact ih p (by simp) hd f h1 (hv f (by simp)) hf y hy
      · exact zha hk' ih' (by simp at hl; omega) (fun g hg => hv g (by simp [hg])) hm2 y hy
theorem mt_good_n (bs : List Bind) (lits : List Form) : ∀ (n : Nat) (p : Form), p.w ≤ n → PatS p → ∀ f h, f.valid = true → p.mt bs lits f = some h → ∀ y ∈ h, 0 ≤ y.depth ∧ HitD y.depth.toNat y := by
  intro n
  induction n with
  | zero => intro p h; have := p.w_kids; omega
  | succ n ih =>
    intro p hp hs f h hf hm
    have hw := p.w_kids
    obtain ⟨q1, q2, q3, q4, q5⟩ := hs.parts
    have nil : ∀ y ∈ ([] : List Hit), 0 ≤ y.depth ∧ HitD y.depth.toNat y := fun y hy => by cases hy
    rw [Form.mt_eq] at hm
    by_cases h1 : p.kind = 1
    · rw [decide_eq_true h1, cond_true] at hm
      cases hu : decide (p.name = zeR) with
      | true => rw [hu] at hm; cases hm; exact nil
      | false =>
      rw [hu, cond_false] at hm
      cases hi : inF lits p with
      | true =>
        rw [hi, cond_true] at hm
        cases hr : (decide (f.kind = 1) && refS bs p f) with
        | true => rw [hr] at hm; cases hm; exact nil
        | false => rw [hr] at hm; cases hm
      | false =>
        rw [hi] at hm; cases hm
        intro y hy
        rw [List.mem_singleton] at hy
        subst hy
        exact ⟨Int.le_refl _, rfl, hf, rfl⟩
    · rw [decide_eq_false h1, cond_false] at hm
      by_cases h2 : p.kind = 2
      · rw [decide_eq_true h2, cond_true] at hm
        cases hr : same p f with
        | true => rw [hr] at hm; cases hm; exact nil
        | false => rw [hr] at hm; cases hm
      · rw [decide_eq_false h2, cond_false] at hm
        cases hr : decide (f.kind ≠ 3) with
        | true => rw [hr] at hm; cases hm
        | false =>
          rw [hr, cond_false] at hm
          exact zha q4 (fun x hx hd => ih x (by have := Form.ws_mem hx; omega) ((q4 x hx).pat hd)) (valid_kids hf) (fun x hx => valid_kid hf hx) hm
theorem var_nameG {lits : List Form} {p : Form} (hp : ∃ d, p.isOk d = true) {x : Form} (hx : x ∈ p.vs lits) : nameG x = true := by
  have hvar := (Form.vs_part lits p x hx).1
  unfold zcD at hvar
  simp only [Bool.and_eq_true, decide_eq_true_eq, Bool.not_eq_true', decide_eq_false_iff_not] at hvar
  obtain ⟨d, hd⟩ := vs_isOk lits _ p (Nat.le_refl _) hp x hx
  obtain ⟨n1, n2⟩ := isOk_name hd hvar.1
  unfold nameG isNm
  rw [decide_eq_true hvar.1, n1, decide_eq_false hvar.2.1, decide_eq_false hvar.2.2.1]; rfl
theorem hvF_of : ∀ {l : List Hit} {ps : List Hit}, (∀ x ∈ l, x.isOk = true) → distF (ps.map Hit.name) (l.map Hit.name) = true → hvF ps l = true
  | [], ps, _, _ => by rw [hvF]
  | x :: l, ps, h, hd => by
    rw [List.map_cons, distF, Bool.and_eq_true] at hd
    rw [hvF, Bool.and_eq_true, Bool.and_eq_true]
    refine ⟨h x (by simp), ?_, hvF_of (fun y hy => h y (by simp [hy])) (by rw [List.map_append]; exact hd.2)⟩
    have h1 := hd.1
    unfold inF at h1
    rw [Bool.not_not, zfc] at h1
    rw [zfc]
    exact fun y hy => h1 y.name (List.mem_map_of_mem hy)
theorem mt_isOk {bs : List Bind} {lits : List Form} {p f : Form} {h : List Hit} (hp : patOk p lits = true) (hf : f.valid = true) (hm : p.mt bs lits f = some h) : ∀ x ∈ h, x.isOk = true := by
  intro x hx
  have hS := patOk_S hp
  obtain ⟨g1, g2⟩ := mt_good_n bs lits _ p (Nat.le_refl _) hS f h hf hm x hx
  have hn : x.name ∈ p.vs lits := by rw [← mt_names hS hm]; exact List.mem_map_of_mem hx
  have hd : x.depth ∈ (p.vd lits 0).map (·.2) := by rw [← mt_depth hS hm]; exact List.mem_map_of_mem hx
  have h3 : x.depth ≤ 3 := by
    unfold patOk at hp
    simp only [Bool.and_eq_true] at hp
    have := hp.2.2.2.1.2
    unfold dsOk at this
    rw [zfc] at this
    have := this _ hd
    simpa using this
  exact HitD.isOk _ x (by omega) g2 (var_nameG hS.ok hn)
theorem fmss_mem : ∀ {l : List Hit} {x : Form}, x ∈ Hit.fmss l ↔ ∃ h ∈ l, x ∈ h.fms
  | [], x => by rw [Hit.fmss]; simp
  | h :: hs, x => by rw [Hit.fmss, List.mem_append, fmss_mem]; simp
end Go.Abs
end
section
set_option linter.unusedVariables false
set_option linter.unusedSimpArgs false
namespace Go.Abs
theorem hvF_apart : ∀ {l ps : List Hit}, hvF ps l = true → ∀ h ∈ l, ∀ p ∈ ps, same p.name h.name = false
  | x :: xs, ps, hv, h, hh, p, hp => by
    rw [hvF, Bool.and_eq_true, Bool.and_eq_true] at hv
    rcases List.mem_cons.1 hh with rfl | hh
    · have := zfc.1 hv.2.1 p hp
      simpa using this
    · exact hvF_apart hv.2.2 h hh p (List.mem_append_left _ hp)
theorem hv_dep : ∀ {l ps : List Hit}, hvF ps l = true → ∀ h ∈ l, depF (nd l) h.name = h.depth
  | x :: xs, ps, hv, h, hh => by
    have hv' := hv
    rw [hvF, Bool.and_eq_true, Bool.and_eq_true] at hv
    show depF ((x.name, x.depth) :: nd xs) h.name = h.depth
    rw [depF]
    rcases List.mem_cons.1 hh with rfl | hh
    · rw [zeS, cond_true]
    · rw [hvF_apart hv.2.2 h hh x (by simp), cond_false]
      exact hv_dep hv.2.2 h hh
end Go.Abs
end
section
set_option linter.unusedVariables false
set_option linter.unusedSimpArgs false
namespace Go.Abs
theorem FindName_tr (l : List Bind) (f : Form) (hl : l.length ≤ 2 ^ 36) (hb : ∀ b ∈ l, b.fit) (hf : f.fit) (hv : bvOk l = true) (hn : isNm f = true) :
    Tr (fun m => zdB m l f) (bif decide ((refB l f).2 = 1) then (bAt l (refB l f).1).id else 0, (refB l f).2) := by
  refine Tr.eq (fun m => by unfold zdB; rfl) (Tr.bind (zfT l (by omega) hb) ?_)
  rw [hv]
  refine Tr.ff rfl (Tr.bind (zfE f hf) ?_)
  rw [hn]
  refine Tr.step (fun m => by rw [zcC, Bool.not_true, cond_false]) (Tr.bind (bound_tr l f hl) ?_)
  rcases zgU l f with ⟨i, ha, i0, i1⟩ | ha | ha
  · rw [ha]
    exact Tr.ff (by simp) (Tr.eq (fun m => by rw [bAt_idx i0 i1, Option.bind_some]; rfl) Tr.val)
  · rw [ha]; exact Tr.tt (by simp) Tr.val
  · rw [ha]; exact Tr.tt (by simp) Tr.val
theorem sameRef_tr (l : List Bind) (a b : Form) (hl : l.length ≤ 2 ^ 36) (hb : ∀ b ∈ l, b.fit) (ha : a.fit) (hbf : b.fit) :
    Tr (fun m => zcJ m l a b) (bvOk l && (isNm a && (isNm b && refS l a b))) := by
  refine Tr.eq (fun m => by unfold zcJ; rfl) (Tr.bind (zfT l (by omega) hb) ?_)
  have no : Tr (fun m => zav m l a b true) false := Tr.step (fun m => by rw [zav, cond_true]) Tr.val
  cases hv : bvOk l with
  | false => exact Tr.tt rfl no
  | true =>
  refine Tr.ff rfl (Tr.bind (zfE a ha) ?_)
  cases hna : isNm a with
  | false => exact Tr.tt rfl no
  | true =>
  refine Tr.ff rfl (Tr.bind (zfE b hbf) ?_)
  cases hnb : isNm b with
  | false => exact no
  | true =>
  refine Tr.step (fun m => by rw [zav, Bool.not_true, cond_false]) (Tr.bind (FindName_tr l a hl hb ha hv hna) (Tr.bind (FindName_tr l b hl hb hbf hv hnb) ?_))
  rw [Bool.true_and, Bool.true_and, Bool.true_and]
  unfold refS
  rcases zgU l a with ⟨i, ea, i0, i1⟩ | ea | ea <;> rcases zgU l b with ⟨j, eb, j0, j1⟩ | eb | eb <;> rw [ea, eb]
  · refine Tr.tt rfl (Tr.tt rfl ?_)
    by_cases h : (bAt l i).id = (bAt l j).id
    · exact Tr.tt (by simpa using h) (by simpa [h] using Tr.val)
    · exact Tr.ff (by simpa using h) (Tr.ff (by simp) (by simpa [h] using Tr.val))
  · exact Tr.tt rfl (Tr.ff (by simp) (Tr.ff (by simp) (by simpa using Tr.val)))
  · exact Tr.tt rfl (Tr.ff (by simp) (Tr.ff (by simp) (by simpa using Tr.val)))
  · exact Tr.ff (by simp) (Tr.ff (by simp) (by simpa using Tr.val))
  · exact Tr.ff (by simp) (Tr.ff (by simp) (by simpa using Tr.val))
  · exact Tr.ff (by simp) (Tr.ff (by simp) (by simpa using Tr.val))
  · exact Tr.ff (by simp) (Tr.tt rfl (Tr.ff (by simp) (by simpa using Tr.val)))
  · exact Tr.ff (by simp) (Tr.tt rfl (Tr.ff (by simp) (by simpa using Tr.val)))
  · exact Tr.ff (by simp) (Tr.tt rfl (Tr.tt rfl (by simpa using Tr.val)))
def oR (o : Option (List Hit)) : List Hit × Bool := (o.getD [], o.isSome)
def oacc (acc : List Hit) (o : Option (List Hit)) : Option (List Hit) := o.map (acc ++ ·)
theorem oacc_oapp (acc : List Hit) (a b : Option (List Hit)) : oacc acc (oapp a b) = match a with
    | none => none
    | some h => oacc (acc ++ h) b := by
  cases a <;> cases b <;> simp [oacc, oapp]
theorem dotsAt_tr (l : List Form) : Tr (fun m => zdO m l) (fnd zF l 0) := by
  refine Tr.eq (fun m => by unfold zdO; rfl) (Tr.bind ?_ Tr.val)
  refine Tr.eq (fun m => by unfold zaR; rfl) ?_
  exact zf8 (L := fun m i => zE m l i) (E := fun m y => zc0 m y) (fun m i => by rw [zE]) (fun y _ => Tr.eq (fun m => by unfold zc0; rfl) (Tr.bind (named_tr _ _) Tr.val))
theorem fnd_pre {α : Type} {D : α → Bool} : ∀ {xs : List α} {y : α} {zs : List α} {k : Nat}, (∀ x ∈ xs, D x = false) → D y = true → fnd D (xs ++ y :: zs) k = ((k + xs.length : Nat) : Int)
  | [], y, zs, k, _, hy => by rw [List.nil_append, fnd, hy, cond_true]; simp
  | x :: xs, y, zs, k, h, hy => by
    rw [List.cons_append, fnd, h x (by simp), cond_false, fnd_pre (fun z hz => h z (by simp [hz])) hy, List.length_cons]
    congr 1; omega
theorem cntD_zero : ∀ {l : List Form}, cntD l = 0 → ∀ x ∈ l, zF x = false
  | y :: ys, h, x, hx => by
    rw [cntD] at h
    rcases List.mem_cons.1 hx with rfl | hx
    · cases hd : zF x with
      | false => rfl
      | true => rw [hd] at h; simp at h
    · exact cntD_zero (by omega) x hx
theorem cntD_split : ∀ {l : List Form}, cntD l ≤ 1 → (∀ x ∈ l, zF x = false) ∨ ∃ xs y zs, l = xs ++ y :: zs ∧ (∀ x ∈ xs, zF x = false) ∧ zF y = true ∧ ∀ x ∈ zs, zF x = false
  | [], _ => .inl (fun x hx => by cases hx)
  | y :: ys, h => by
    rw [cntD] at h
    cases hd : zF y with
    | true =>
      rw [hd, cond_true] at h
      exact .inr ⟨[], y, ys, rfl, (fun x hx => by cases hx), hd, cntD_zero (by omega)⟩
    | false =>
      rw [hd, cond_false] at h
      rcases cntD_split (l := ys) (by omega) with h1 | ⟨xs, z, zs, rfl, h2, h3, h4⟩
      · exact .inl (fun x hx => by
          rcases List.mem_cons.1 hx with rfl | hx
          · exact hd
          · exact h1 x hx)
      · exact .inr ⟨y :: xs, z, zs, rfl, (fun x hx => by
          rcases List.mem_cons.1 hx with rfl | hx
          · exact hd
          · exact h2 x hx), h3, h4⟩
theorem nextD_no {l : List Form} (h : ∀ x ∈ l, zF x = false) : zb7 l = false := by
  cases l with
  | nil => rfl
  | cons y ys => exact h y (by simp)
theorem fnd_no {α : Type} {D : α → Bool} : ∀ {l : List α} {k : Nat}, (∀ x ∈ l, D x = false) → fnd D l k = -1
  | [], _, _ => rfl
  | x :: xs, k, h => by rw [fnd, h x (by simp), cond_false, fnd_no (fun y hy => h y (by simp [hy]))]
theorem drop_cons' {α : Type} {l xs : List α} {x : α} {k : Nat} (h : l.drop k = x :: xs) : l[k]? = some x ∧ l.drop (k + 1) = xs ∧ k < l.length := by
  have h1 : l[k]? = some x := by have := congrArg (fun l => l[0]?) h; simpa using this
  exact ⟨h1, by rw [← List.drop_drop, h]; rfl, (List.getElem?_eq_some_iff.1 h1).1⟩
theorem zfd : ∀ (vs : List (Form × Int)) (k : Nat) (rows : List (List Hit)), (rowH k vs rows).length = vs.length
  | [], _, _ => rfl
  | v :: vs, k, rows => by rw [rowH, List.length_cons, List.length_cons, zfd vs]
theorem rowH_get : ∀ {vs : List (Form × Int)} {k j : Nat} {rows : List (List Hit)} {v : Form × Int}, vs[j]? = some v → (rowH k vs rows)[j]? = some (Hit.mk v.1 (v.2 + 1) zfU (rows.map fun r => r.getD (k + j) hit0))
  | x :: xs, k, 0, rows, v, h => by simp at h; subst h; rfl
  | x :: xs, k, j + 1, rows, v, h => by
    rw [rowH, List.getElem?_cons_succ, rowH_get (vs := xs) (by simpa using h), Nat.add_assoc, Nat.add_comm 1 j]
structure MatS (bs : List Bind) (lits : List Form) (P F : Form) : Prop where
  kid : ∀ x ∈ P.kids, KidS x
  ih : ∀ x ∈ P.kids, zF x = false → ∀ f ∈ F.kids, Tr (fun m => zdg m bs x lits f) (oR (x.mt bs lits f))
  wp : Form.ws P.kids ≤ 2 ^ 17
  wf : Form.ws F.kids ≤ 2 ^ 17
section
variable {bs : List Bind} {lits : List Form} {P F : Form}
theorem mt_length (hS : MatS bs lits P F) {x f : Form} (hx : x ∈ P.kids) (hd : zF x = false) {h : List Hit} (hm : x.mt bs lits f = some h) : h.length ≤ x.w := by
  rw [mt_len ((hS.kid x hx).pat hd) hm]; exact Form.vd_len lits x 0
theorem match1_tr (hS : MatS bs lits P F) {x f : Form} (hx : x ∈ P.kids) (hd : zF x = false) (hf : f ∈ F.kids) {acc : List Hit} (ha : acc.length ≤ 2 ^ 20) :
    Tr (fun m => zcR m x f bs lits acc) ((x.mt bs lits f).isSome, acc ++ (x.mt bs lits f).getD []) := by
  refine Tr.step (fun m => by rw [zcR]) (Tr.bind (hS.ih x hx hd f hf) ?_)
  have hw := Form.ws_mem hx
  have h1 := hS.wp
  refine Tr.chk (decide_eq_true ?_) Tr.val
  cases hm : x.mt bs lits f with
  | none => simp [oR]; omega
  | some h =>
    have := mt_length hS hx hd hm
    simp [oR]; omega
theorem mts_one {x f : Form} {xs fs : List Form} (hd : zF x = false) (hn : zb7 xs = false) : Form.mts bs lits (x :: xs) (f :: fs) = oapp (x.mt bs lits f) (Form.mts bs lits xs fs) := by
  rw [Form.mts_eq, hd, cond_false, hn, cond_false]
theorem oR_none {acc : List Hit} {b : Option (List Hit)} : oR (oacc acc (oapp none b)) = ([], false) := by cases b <;> rfl
theorem oR_some {acc h : List Hit} {b : Option (List Hit)} : oR (oacc acc (oapp (some h) b)) = oR (oacc (acc ++ h) b) := by rw [oacc_oapp]
theorem oR_nil {acc : List Hit} : oR (oacc acc (some [])) = (acc, true) := by simp [oR, oacc]
theorem mts_nil : Form.mts bs lits [] [] = some [] := by rw [Form.mts]; rfl
theorem match_l2_tr (hS : MatS bs lits P F) (hl : P.kids.length = F.kids.length) : ∀ (rest : List Form) (k : Nat) (acc : List Hit), P.kids.drop k = rest → k ≤ P.kids.length → (∀ x ∈ rest, zF x = false) → acc.length + Form.ws rest ≤ 2 ^ 20 →
    Tr (fun m => zct m bs P lits F (k : Int) acc) (oR (oacc acc (Form.mts bs lits rest (F.kids.drop k))))
  | [], k, acc, hd, hk, hn, ha => by
    have : k = P.kids.length := by have := congrArg List.length hd; rw [List.length_drop] at this; simp at this; omega
    subst this
    rw [hl, List.drop_length, mts_nil, oR_nil]
    refine Tr.step (fun m => by rw [zct, hl, zah, cond_false]) (Tr.step (fun m => by rw [zeu]) Tr.val)
  | x :: xs, k, acc, hd, hk, hn, ha => by
    obtain ⟨hx, hd2, hlt⟩ := drop_cons' hd
    have hdx := hn x (by simp)
    have hy : F.kids[k]? = some F.kids[k] := List.getElem?_eq_getElem (by omega)
    have hdr : F.kids.drop k = F.kids[k] :: F.kids.drop (k + 1) := List.drop_eq_getElem_cons (by omega)
    rw [Form.ws] at ha
    refine Tr.step (fun m => by rw [zct, ltN hlt, cond_true, zJ hx, Option.bind_some, zJ hy, Option.bind_some]) ?_
    refine Tr.bind (match1_tr hS (List.mem_of_getElem? hx) hdx (List.mem_of_getElem? hy) (by omega)) ?_
    rw [hdr, mts_one hdx (nextD_no (fun z hz => hn z (by simp [hz])))]
    cases hm : x.mt bs lits F.kids[k] with
    | none => rw [oR_none]; exact Tr.tt rfl Tr.val
    | some h =>
      rw [oR_some]
      have hw := mt_length hS (List.mem_of_getElem? hx) hdx hm
      refine Tr.ff rfl (Tr.eq (fun m => by rw [zck]; rfl) (match_l2_tr hS hl xs (k + 1) (acc ++ h) hd2 hlt (fun z hz => hn z (by simp [hz])) (by rw [List.length_append]; omega)))
structure RowS (P F : Form) (xs : List Form) (pr dd : Form) (tail : List Form) : Prop where
  eq : P.kids = xs ++ pr :: dd :: tail
  pre : ∀ x ∈ xs, zF x = false
  row : zF pr = false
  dots : zF dd = true
  post : ∀ x ∈ tail, zF x = false
  len : xs.length + tail.length ≤ F.kids.length
def RowS.many (F : Form) (xs tail : List Form) : Nat := F.kids.length - (xs.length + tail.length)
variable {xs tail : List Form} {pr dd : Form}
theorem RowS.plen (hR : RowS P F xs pr dd tail) : P.kids.length = xs.length + 2 + tail.length := by rw [hR.eq]; simp; omega
theorem RowS.lens (hS : MatS bs lits P F) (hR : RowS P F xs pr dd tail) : P.kids.length ≤ 2 ^ 17 ∧ F.kids.length ≤ 2 ^ 17 := ⟨Nat.le_trans (Form.ws_len _) hS.wp, Nat.le_trans (Form.ws_len _) hS.wf⟩
theorem RowS.at_pr (hR : RowS P F xs pr dd tail) : P.kids[xs.length]? = some pr := by rw [hR.eq]; simp
theorem RowS.many_eq (hS : MatS bs lits P F) (hR : RowS P F xs pr dd tail) : w64 ((F.kids.length : Int) - (w64 ((P.kids.length : Int) - 2))) = ((RowS.many F xs tail : Nat) : Int) := by
  have h1 := RowS.lens hS hR
  have h2 := hR.plen
  have h3 := hR.len
  rw [zay (n := (P.kids.length : Int) - 2) (by omega), zay (by omega)]
  unfold RowS.many; omega
theorem RowS.row_eq (hS : MatS bs lits P F) (hR : RowS P F xs pr dd tail) : w64 ((((xs.length + 1 : Nat) : Int)) - 1) = ((xs.length : Nat) : Int) := by
  have h1 := RowS.lens hS hR
  have h2 := hR.plen
  rw [zay (by omega)]; omega
theorem match_l10_tr (hS : MatS bs lits P F) (hR : RowS P F xs pr dd tail) : ∀ (rest : List Form) (j : Nat) (acc : List Hit), tail.drop j = rest → j ≤ tail.length → acc.length + Form.ws rest ≤ 2 ^ 20 →
    Tr (fun m => zb5 m bs P lits F ((xs.length + 1 : Nat) : Int) ((xs.length + 2 + j : Nat) : Int) acc) (oR (oacc acc (Form.mts bs lits rest (F.kids.drop (xs.length + RowS.many F xs tail + j)))))
  | [], j, acc, hd, hj, ha => by
    have : j = tail.length := by have := congrArg List.length hd; rw [List.length_drop] at this; simp at this; omega
    subst this
    have h2 := hR.plen
    have h3 := hR.len
    have e : xs.length + RowS.many F xs tail + tail.length = F.kids.length := by unfold RowS.many; omega
    rw [e, List.drop_length, mts_nil, oR_nil]
    exact Tr.step (fun m => by rw [zb5, ← h2, zah, cond_false]) Tr.val
  | x :: rest, j, acc, hd, hj, ha => by
    obtain ⟨hx0, hd2, hlt⟩ := drop_cons' hd
    have h1 := RowS.lens hS hR
    have h2 := hR.plen
    have h3 := hR.len
    have hm := RowS.many_eq hS hR
    have hr := RowS.row_eq hS hR
    have hx : P.kids[xs.length + 2 + j]? = some x := by
      rw [hR.eq, List.getElem?_append_right (by omega)]
      rw [show xs.length + 2 + j - xs.length = j + 1 + 1 by omega, List.getElem?_cons_succ, List.getElem?_cons_succ]; exact hx0
    have hdx := hR.post x (List.mem_of_getElem? hx0)
    have e : xs.length + RowS.many F xs tail + tail.length = F.kids.length := by unfold RowS.many; omega
    generalize hM : RowS.many F xs tail = M at *
    have hq : xs.length + M + j < F.kids.length := by omega
    have hy : F.kids[xs.length + M + j]? = some F.kids[xs.length + M + j] := List.getElem?_eq_getElem hq
    have hdr : F.kids.drop (xs.length + M + j) = F.kids[xs.length + M + j] :: F.kids.drop (xs.length + M + j + 1) := List.drop_eq_getElem_cons hq
    have hidx : w64 ((w64 ((w64 ((w64 ((w64 (((xs.length + 1 : Nat) : Int) - 1)) + (w64 ((F.kids.length : Int) - (w64 ((P.kids.length : Int) - 2)))))) + ((xs.length + 2 + j : Nat) : Int))) - ((xs.length + 1 : Nat) : Int))) - 1) = ((xs.length + M + j : Nat) : Int) := by
      rw [hm, hr, zay (n := ((xs.length : Nat) : Int) + (M : Int)) (by omega), zay (n := ((xs.length : Nat) : Int) + (M : Int) + ((xs.length + 2 + j : Nat) : Int)) (by omega), zay (n := ((xs.length : Nat) : Int) + (M : Int) + ((xs.length + 2 + j : Nat) : Int) - ((xs.length + 1 : Nat) : Int)) (by omega), zay (by omega)]
      omega
    rw [Form.ws] at ha
    refine Tr.step (fun m => by rw [zb5, ltN (show xs.length + 2 + j < P.kids.length by omega), cond_true, zJ hx, Option.bind_some, hidx, zJ hy, Option.bind_some]) ?_
    refine Tr.bind (match1_tr hS (List.mem_of_getElem? hx) hdx (List.mem_of_getElem? hy) (by omega)) ?_
    have hnd : zb7 rest = false := nextD_no (fun z hz => hR.post z (by rw [← hd2] at hz; exact List.mem_of_mem_drop hz))
    rw [hdr, mts_one hdx hnd]
    cases hmt : x.mt bs lits F.kids[xs.length + M + j] with
    | none => rw [oR_none]; exact Tr.tt rfl Tr.val
    | some h =>
      rw [oR_some]
      have hw := mt_length hS (List.mem_of_getElem? hx) hdx hmt
      have := match_l10_tr hS hR rest (j + 1) (acc ++ h) hd2 hlt (by rw [List.length_append]; omega)
      rw [hM] at this
      exact Tr.ff rfl (Tr.eq (fun m => by rw [zck]; rfl) this)
end
end Go.Abs
end
section
set_option linter.unusedVariables false
set_option linter.unusedSimpArgs false
namespace Go.Abs
section
variable {bs : List Bind} {lits : List Form} {P F : Form} {xs tail : List Form} {pr dd : Form}
theorem cntD_all : ∀ {l : List Form}, (∀ x ∈ l, zF x = false) → cntD l = 0
  | [], _ => rfl
  | y :: ys, h => by rw [cntD, h y (by simp), cond_false, cntD_all (fun x hx => h x (by simp [hx]))]
theorem cntD_app : ∀ (a b : List Form), cntD (a ++ b) = cntD a + cntD b
  | [], b => by simp [cntD]
  | x :: a, b => by rw [List.cons_append, cntD, cntD, cntD_app a b]; omega
theorem set_end {α : Type} (l : List α) (z v : α) : (l ++ [z]).set (l.length : Int).toNat v = l ++ [v] := by
  rw [Int.toNat_natCast, List.set_append_right _ _ (Nat.le_refl _), Nat.sub_self]; rfl
theorem idx_last {α : Type} (l : List α) (z : α) : idx (l ++ [z]) (l.length : Int) = some z := zJ (by simp)
theorem match_l9_tr (v11 : Int) (g34 : List Hit) (v49 : List Form) (g50 : Int) (vs : List (Form × Int)) (rows : List (List Hit)) (inner : List Hit) (b : Bool) (hi : inner.length = vs.length) (hr : rows.length ≤ 2 ^ 20) (hv : vs.length ≤ 2 ^ 20) {v : List Hit × Bool}
    (hK : Tr (fun m => zbH m bs P lits F v11 g34 v49 (w64 (g50 + 1)) (rowH 0 vs (rows ++ [inner]))) v) (g51 : List Hit) (hg : g51.length = vs.length) :
    Tr (fun m => zbT m bs P lits F v11 g34 v49 g50 g51 (inner, b) 0 (rowH 0 vs rows)) v := by
  have key := zaB vs (fun k zs => Tr (fun m => zbT m bs P lits F v11 g34 v49 g50 g51 (inner, b) (k : Int) ((rowH 0 vs (rows ++ [inner])).take k ++ (rowH 0 vs rows).drop k)) v) ?_ ?_ 0 (Nat.zero_le _)
  · simpa using key
  · have e1 : (rowH 0 vs (rows ++ [inner])).take vs.length = rowH 0 vs (rows ++ [inner]) := List.take_of_length_le (by rw [zfd]; exact Nat.le_refl _)
    have e2 : (rowH 0 vs rows).drop vs.length = [] := List.drop_of_length_le (by rw [zfd]; exact Nat.le_refl _)
    rw [e1, e2, List.append_nil]
    exact Tr.step (fun m => by rw [zbT, hg, zah, cond_false]) hK
  · intro k x zs hk hx hd ih
    have hl1 : (rowH 0 vs (rows ++ [inner])).length = vs.length := zfd _ _ _
    have hl2 : (rowH 0 vs rows).length = vs.length := zfd _ _ _
    have ht : ((rowH 0 vs (rows ++ [inner])).take k).length = k := by rw [List.length_take, hl1]; omega
    have g1 := rowH_get (k := 0) (rows := rows) hx
    have g2 := rowH_get (k := 0) (rows := rows ++ [inner]) hx
    rw [Nat.zero_add] at g1 g2
    have hget : ((rowH 0 vs (rows ++ [inner])).take k ++ (rowH 0 vs rows).drop k)[k]? = some (Hit.mk x.1 (x.2 + 1) zfU (rows.map fun r => r.getD k hit0)) := by
      rw [List.getElem?_append_right (by omega), ht, Nat.sub_self, List.getElem?_drop, Nat.add_zero]; exact g1
    have hin : inner[k]? = some (inner.getD k hit0) := by
      have : k < inner.length := by omega
      rw [List.getD_eq_getElem?_getD, List.getElem?_eq_getElem this]; rfl
    have hset : ((rowH 0 vs (rows ++ [inner])).take k ++ (rowH 0 vs rows).drop k).set (k : Int).toNat (Hit.mk x.1 (x.2 + 1) zfU ((rows.map fun r => r.getD k hit0) ++ [inner.getD k hit0])) = (rowH 0 vs (rows ++ [inner])).take (k + 1) ++ (rowH 0 vs rows).drop (k + 1) := by
      have h3 : (rowH 0 vs rows).drop k = Hit.mk x.1 (x.2 + 1) zfU (rows.map fun r => r.getD k hit0) :: (rowH 0 vs rows).drop (k + 1) := drop_get g1
      rw [Int.toNat_natCast, List.set_append_right _ _ (by omega), ht, Nat.sub_self, h3, List.set_cons_zero, List.take_add_one, g2, List.append_assoc]
      simp
    refine Tr.step (fun m => by rw [zbT, hg, ltN hk, cond_true, zJ hget, Option.bind_some, zJ hin, Option.bind_some]) ?_
    refine Tr.chk (decide_eq_true (by simp [Hit.many]; omega)) ?_
    refine Tr.eq (fun m => by rw [idx_last, Option.bind_some, Option.bind_some, zay (by omega), zck, set_end]) ?_
    simp only [Hit.name, Hit.depth, Hit.one, Hit.many]
    rw [hset]; exact ih
theorem match_l8_tr (hS : MatS bs lits P F) (hR : RowS P F xs pr dd tail) (g34 : List Hit) (v49 : List Form) (hv : ∀ f ∈ v49, f ∈ F.kids) (hvl : v49.length ≤ F.kids.length) (J : List Hit → List Hit × Bool)
    (hJ : ∀ rows, rows.length = v49.length → (∀ r ∈ rows, r.length = (pr.vd lits 0).length) → Tr (fun m => zcY m bs P lits F ((xs.length + 1 : Nat) : Int) g34 (rowH 0 (pr.vd lits 0) rows)) (J (rowH 0 (pr.vd lits 0) rows))) :
    Tr (fun m => zbH m bs P lits F ((xs.length + 1 : Nat) : Int) g34 v49 0 (rowH 0 (pr.vd lits 0) [])) (match allM (fun f => pr.mt bs lits f) v49 with
      | none => ([], false)
      | some rows => J (rowH 0 (pr.vd lits 0) rows)) := by
  have h1 := RowS.lens hS hR
  have h2 := hR.plen
  have hpm := List.mem_of_getElem? hR.at_pr
  have hpp : PatS pr := (hS.kid pr hpm).pat hR.row
  have hpw := Form.ws_mem hpm
  have hwp := hS.wp
  have hvd := Form.vd_len lits pr 0
  have key := zaB v49 (fun k zs => ∀ rows : List (List Hit), rows.length = k → (∀ r ∈ rows, r.length = (pr.vd lits 0).length) → Tr (fun m => zbH m bs P lits F ((xs.length + 1 : Nat) : Int) g34 v49 (k : Int) (rowH 0 (pr.vd lits 0) rows)) (match allM (fun f => pr.mt bs lits f) zs with
      | none => ([], false)
      | some ys => J (rowH 0 (pr.vd lits 0) (rows ++ ys)))) ?_ ?_ 0 (Nat.zero_le _) [] rfl (fun r hr => by cases hr)
  · simpa using key
  · intro rows hr hl
    rw [allM]
    simp only [List.append_nil]
    exact Tr.step (fun m => by rw [zbH, zah, cond_false]) (hJ rows hr hl)
  · intro k x zs hk hx hd ih rows hr hl
    refine Tr.step (fun m => by rw [zbH, ltN hk, cond_true, zJ hx, Option.bind_some, RowS.row_eq hS hR, zJ hR.at_pr, Option.bind_some]) ?_
    refine Tr.bind (hS.ih pr hpm hR.row x (hv x (List.mem_of_getElem? hx))) ?_
    rw [allM]
    cases hm : pr.mt bs lits x with
    | none => exact Tr.tt rfl Tr.val
    | some h =>
      have hlen := mt_len hpp hm
      refine Tr.ff rfl ?_
      refine Tr.eq (fun m => rfl) (match_l9_tr (bs := bs) (lits := lits) (P := P) (F := F) ((xs.length + 1 : Nat) : Int) g34 v49 (k : Int) (pr.vd lits 0) rows h true hlen (by omega) (by omega) ?_ _ (zfd _ _ _))
      refine Tr.eq (fun m => by rw [zay (by omega), zck]) ?_
      have := ih (rows ++ [h]) (by simp [hr]) (fun r hr' => by
        rcases List.mem_append.1 hr' with hr' | hr'
        · exact hl r hr'
        · rw [List.mem_singleton.1 hr']; exact hlen)
      cases ha : allM (fun f => pr.mt bs lits f) zs with
      | none => rw [ha] at this; exact this
      | some ys =>
        rw [ha] at this
        simp only [List.append_assoc, List.singleton_append] at this
        exact this
theorem match_l6_tr (v11 : Int) (g34 : List Hit) (vs : List (Form × Int)) (hw : ∀ v ∈ vs, v.1.w ≤ 2 ^ 30) (h0 : ∀ v ∈ vs, 0 ≤ v.2 ∧ v.2 ≤ 2 ^ 30) (hl : vs.length ≤ 2 ^ 20) {r : List Hit × Bool}
    (hK : Tr (fun m => zdw m bs P lits F v11 g34 (rowH 0 vs [])) r) : Tr (fun m => zbU m bs P lits F v11 g34 (vs.map (·.1), vs.map (·.2)) ([] : List Hit) 0) r := by
  have key := zaB vs (fun k zs => ∀ g : List Hit, g.length = k → g ++ rowH k zs [] = rowH 0 vs [] → Tr (fun m => zbU m bs P lits F v11 g34 (vs.map (·.1), vs.map (·.2)) g (k : Int)) r) ?_ ?_ 0 (Nat.zero_le _) [] rfl (by rw [List.nil_append, List.drop_zero])
  · exact key
  · intro g hg he
    rw [rowH, List.append_nil] at he
    rw [he]
    exact Tr.step (fun m => by rw [zbU, List.length_map, zah, cond_false]) hK
  · intro k v zs hk hx hd ih g hg he
    have hx1 : (vs.map (·.1))[k]? = some v.1 := by rw [List.getElem?_map, hx]; rfl
    have hx2 : (vs.map (·.2))[k]? = some v.2 := by rw [List.getElem?_map, hx]; rfl
    have hm := List.mem_of_getElem? hx
    have hvw := hw v hm
    have V0 := h0 v hm
    refine Tr.step (fun m => by rw [zbU, List.length_map, ltN hk, cond_true, zJ hx1, Option.bind_some]) (Tr.bind (zfV v.1 (by omega)) ?_)
    refine Tr.eq (fun m => by rw [zJ hx2, Option.bind_some, zay (n := v.2 + 1) (by omega), zck]) (Tr.chk (decide_eq_true (by simp; omega)) ?_)
    refine ih (g ++ [Hit.mk v.1 (v.2 + 1) zfU []]) (by simp [hg]) ?_
    rw [rowH] at he
    rw [List.append_assoc]; exact he
theorem mts_row (hS : MatS bs lits P F) (hR : RowS P F xs pr dd tail) : Form.mts bs lits (pr :: dd :: tail) (F.kids.drop xs.length) = match allM (fun f => pr.mt bs lits f) ((F.kids.drop xs.length).take (RowS.many F xs tail)) with
    | none => none
    | some rows => oapp (some (rowH 0 (pr.vd lits 0) rows)) (Form.mts bs lits tail (F.kids.drop (xs.length + RowS.many F xs tail))) := by
  have h3 := hR.len
  have hl : (F.kids.drop xs.length).length = F.kids.length - xs.length := List.length_drop
  have hN : (F.kids.drop xs.length).length + 1 - (dd :: tail).length = RowS.many F xs tail := by rw [hl, List.length_cons]; unfold RowS.many; omega
  rw [Form.mts_eq, hR.row, cond_false, show zb7 (dd :: tail) = zF dd from rfl, hR.dots, cond_true, decide_eq_false (by rw [hl, List.length_cons]; omega), cond_false, hN]
  cases allM (fun f => pr.mt bs lits f) ((F.kids.drop xs.length).take (RowS.many F xs tail)) with
  | none => rfl
  | some rows => simp only; rw [Form.mts_eq bs lits dd, hR.dots, cond_true, List.drop_drop]
theorem match_j3_tr (hS : MatS bs lits P F) (hR : RowS P F xs pr dd tail) (acc : List Hit) (ha : acc.length ≤ 2 ^ 18) : Tr (fun m => zdx m bs P lits F ((xs.length + 1 : Nat) : Int) acc) (oR (oacc acc (Form.mts bs lits (pr :: dd :: tail) (F.kids.drop xs.length)))) := by
  have h1 := RowS.lens hS hR
  have h2 := hR.plen
  have h3 := hR.len
  have hpm := List.mem_of_getElem? hR.at_pr
  have hpp : PatS pr := (hS.kid pr hpm).pat hR.row
  have hpw := Form.ws_mem hpm
  have hwp := hS.wp
  have hvd := Form.vd_len lits pr 0
  have hhi := Form.vd_hi lits pr 0
  have hnn := Form.vd_nn lits pr 0
  refine Tr.step (fun m => by rw [zdx, RowS.row_eq hS hR, zJ hR.at_pr, Option.bind_some]) (Tr.bind (varsOf_tr pr lits (by omega)) ?_)
  have hvw : ∀ v ∈ pr.vd lits 0, v.1.w ≤ 2 ^ 30 := fun v hv => by
    have hm : v.1 ∈ pr.vs lits := by rw [← Form.vd_fst lits pr 0]; exact List.mem_map.2 ⟨v, hv, rfl⟩
    have := Form.vs_w lits pr v.1 hm; omega
  refine match_l6_tr (bs := bs) (lits := lits) (P := P) (F := F) _ acc (pr.vd lits 0) hvw (fun v hv => ⟨hnn v hv, by have := hhi v hv; omega⟩) (by omega) ?_
  have hsub : sub F.kids ((xs.length : Nat) : Int) ((xs.length + RowS.many F xs tail : Nat) : Int) = some ((F.kids.drop xs.length).take (RowS.many F xs tail)) := by
    have hle : xs.length + RowS.many F xs tail ≤ F.kids.length := by unfold RowS.many; omega
    unfold sub
    rw [decide_eq_true (by omega), decide_eq_true (by omega), decide_eq_true (by omega)]
    simp only [Bool.and_self, cond_true, Int.toNat_natCast, Option.some.injEq]
    rw [List.take_drop]
  have hbnd : RowS.many F xs tail ≤ F.kids.length := by unfold RowS.many; omega
  refine Tr.step (fun m => by rw [zdw, RowS.row_eq hS hR, RowS.many_eq hS hR, zay (n := ((xs.length : Nat) : Int) + ((RowS.many F xs tail : Nat) : Int)) (by omega), show ((xs.length : Nat) : Int) + ((RowS.many F xs tail : Nat) : Int) = ((xs.length + RowS.many F xs tail : Nat) : Int) by simp, hsub, Option.bind_some]) ?_
  have hj7 : ∀ rows : List (List Hit), Tr (fun m => zcY m bs P lits F ((xs.length + 1 : Nat) : Int) acc (rowH 0 (pr.vd lits 0) rows)) (oR (oacc (acc ++ rowH 0 (pr.vd lits 0) rows) (Form.mts bs lits tail (F.kids.drop (xs.length + RowS.many F xs tail))))) := fun rows => by
    have hrl := zfd (pr.vd lits 0) 0 rows
    refine Tr.step (fun m => by rw [zcY]) (Tr.chk (decide_eq_true (by omega)) ?_)
    have htw : Form.ws tail ≤ Form.ws P.kids := by
      rw [hR.eq, Form.ws_append, Form.ws, Form.ws]; omega
    have := match_l10_tr hS hR tail 0 (acc ++ rowH 0 (pr.vd lits 0) rows) (by rw [List.drop_zero]) (Nat.zero_le _) (by rw [List.length_append, hrl]; omega)
    refine Tr.eq (fun m => by rw [zay (by omega), zck]) ?_
    exact this
  have h8 := match_l8_tr hS hR acc ((F.kids.drop xs.length).take (RowS.many F xs tail)) (fun f hf => List.mem_of_mem_drop (List.mem_of_mem_take hf)) (by rw [List.length_take, List.length_drop]; omega)
    (fun hits => oR (oacc (acc ++ hits) (Form.mts bs lits tail (F.kids.drop (xs.length + RowS.many F xs tail))))) (fun rows _ _ => hj7 rows)
  rw [mts_row hS hR]
  cases ha : allM (fun f => pr.mt bs lits f) ((F.kids.drop xs.length).take (RowS.many F xs tail)) with
  | none => rw [ha] at h8; exact h8
  | some rows => rw [ha] at h8; simp only; rw [oR_some]; exact h8
theorem match_l4_tr (hS : MatS bs lits P F) (hR : RowS P F xs pr dd tail) : ∀ (rest : List Form) (k : Nat) (acc : List Hit), xs.drop k = rest → k ≤ xs.length → acc.length + Form.ws rest ≤ 2 ^ 18 →
    Tr (fun m => zcs m bs P lits F ((xs.length + 1 : Nat) : Int) (k : Int) acc) (oR (oacc acc (Form.mts bs lits (rest ++ pr :: dd :: tail) (F.kids.drop k))))
  | [], k, acc, hd, hk, ha => by
    have : k = xs.length := by have := congrArg List.length hd; rw [List.length_drop] at this; simp at this; omega
    subst this
    rw [List.nil_append]
    exact Tr.step (fun m => by rw [zcs, RowS.row_eq hS hR, zah, cond_false]) (match_j3_tr hS hR acc (by omega))
  | x :: rest, k, acc, hd, hk, ha => by
    obtain ⟨hx0, hd2, hlt⟩ := drop_cons' hd
    have h1 := RowS.lens hS hR
    have h2 := hR.plen
    have h3 := hR.len
    have hx : P.kids[k]? = some x := by rw [hR.eq, List.getElem?_append_left hlt]; exact hx0
    have hdx := hR.pre x (List.mem_of_getElem? hx0)
    have hy : F.kids[k]? = some F.kids[k] := List.getElem?_eq_getElem (by omega)
    have hdr : F.kids.drop k = F.kids[k] :: F.kids.drop (k + 1) := List.drop_eq_getElem_cons (by omega)
    have hnd : zb7 (rest ++ pr :: dd :: tail) = false := by
      cases rest with
      | nil => exact hR.row
      | cons z zs => exact hR.pre z (by have : z ∈ xs.drop (k + 1) := by rw [hd2]; simp
                                        exact List.mem_of_mem_drop this)
    rw [Form.ws] at ha
    refine Tr.step (fun m => by rw [zcs, RowS.row_eq hS hR, ltN hlt, cond_true, zJ hx, Option.bind_some, zJ hy, Option.bind_some]) ?_
    refine Tr.bind (match1_tr hS (List.mem_of_getElem? hx) hdx (List.mem_of_getElem? hy) (by omega)) ?_
    rw [hdr, List.cons_append, mts_one hdx hnd]
    cases hm : x.mt bs lits F.kids[k] with
    | none => rw [oR_none]; exact Tr.tt rfl Tr.val
    | some h =>
      rw [oR_some]
      have hw := mt_length hS (List.mem_of_getElem? hx) hdx hm
      exact Tr.ff rfl (Tr.eq (fun m => by rw [zay (by omega), zck]; rfl) (match_l4_tr hS hR rest (k + 1) (acc ++ h) hd2 hlt (by rw [List.length_append]; omega)))
end
theorem implMatch_n (bs : List Bind) (lits : List Form) (hbs : bs.length ≤ 2 ^ 36) (hbf : ∀ b ∈ bs, b.fit) (hbv : bvOk bs = true) : ∀ (n : Nat) (p : Form), p.w ≤ n → PatS p → p.fit → p.w ≤ 2 ^ 17 → ∀ f : Form, f.valid = true → f.fit → f.w ≤ 2 ^ 17 →
    Tr (fun m => zdg m bs p lits f) (oR (p.mt bs lits f)) := by
  intro n
  induction n with
  | zero => intro p h; have := p.w_kids; omega
  | succ n ih =>
    intro p hp hs hpf hpb f hfv hff hfb
    have hw := p.w_kids
    have hfw := f.w_kids
    obtain ⟨q1, q2, q3, q4, q5⟩ := hs.parts
    refine Tr.step (fun m => by rw [zdg]) ?_
    rw [Form.mt_eq]
    by_cases h1 : p.kind = 1
    · rw [decide_eq_true h1, cond_true]
      refine Tr.tt rfl ?_
      by_cases h2 : p.name = zeR
      · rw [decide_eq_true h2, cond_true]
        exact Tr.tt rfl Tr.val
      · rw [decide_eq_false h2, cond_false]
        refine Tr.ff rfl (Tr.bind (isIn_tr lits p) ?_)
        cases inF lits p with
        | true =>
          refine Tr.tt rfl (Tr.bind (sameRef_tr bs p f hbs hbf hpf hff) ?_)
          rw [cond_true, hbv, Bool.true_and]
          have hnp : isNm p = true := by
            unfold isNm; rw [decide_eq_true h1, Bool.true_and]
            obtain ⟨d, hd⟩ := hs.ok
            exact (isOk_name hd h1).1
          have hnf : isNm f = decide (f.kind = 1) := by unfold isNm; rw [hfv, Bool.and_true]
          rw [hnp, Bool.true_and, hnf]
          cases decide (f.kind = 1) && refS bs p f <;> exact Tr.val
        | false =>
          refine Tr.ff rfl (Tr.bind (zfV p (by omega)) (Tr.bind (zfV f (by omega)) ?_))
          rw [cond_false]; exact Tr.val
    · rw [decide_eq_false h1, cond_false]
      refine Tr.ff rfl ?_
      by_cases h2 : p.kind = 2
      · rw [decide_eq_true h2, cond_true]
        refine Tr.tt rfl (Tr.bind (zc3 p f) ?_)
        cases same p f <;> exact Tr.val
      · rw [decide_eq_false h2, cond_false]
        refine Tr.ff rfl ?_
        by_cases h3 : f.kind ≠ 3
        · rw [decide_eq_true h3, cond_true]; exact Tr.tt rfl Tr.val
        · rw [decide_eq_false h3, cond_false]
          refine Tr.ff rfl (Tr.bind (dotsAt_tr p.kids) ?_)
          have hl1 := Form.ws_len p.kids
          have hl2 := Form.ws_len f.kids
          have hS : MatS bs lits p f := ⟨q4, fun x hx hd g hg => ih x (by have := Form.ws_mem hx; omega) ((q4 x hx).pat hd) (Form.fits_mem hpf.parts.2.2.2 hx) (by have := Form.ws_mem hx; omega) g (valid_kid hfv hg) (Form.fits_mem hff.parts.2.2.2 hg) (by have := Form.ws_mem hg; omega), by omega, by omega⟩
          have hacc : ∀ o : Option (List Hit), oacc [] o = o := fun o => by cases o <;> simp [oacc]
          rcases cntD_split q3 with hno | ⟨ys, dd, tail, he, e1, e2, e3⟩
          · rw [fnd_no hno]
            refine Tr.tt rfl ?_
            by_cases hlen : p.kids.length = f.kids.length
            · refine Tr.ff (lenE hlen) ?_
              have := match_l2_tr hS hlen p.kids 0 [] (by rw [List.drop_zero]) (Nat.zero_le _) hno (by simp; omega)
              rw [hacc, List.drop_zero] at this
              exact this
            · refine Tr.tt (decide_eq_true (by omega)) ?_
              have hmn : Form.mts bs lits p.kids f.kids = none := by
                cases hm : Form.mts bs lits p.kids f.kids with
                | none => rfl
                | some h =>
                  exact absurd ((mts_len hm).1 (cntD_all hno)) hlen
              rw [hmn]; exact Tr.val
          · obtain ⟨zs, pr, hz⟩ : ∃ zs pr, ys = zs ++ [pr] := by
              rcases List.eq_nil_or_concat ys with h0 | ⟨zs, pr, h0⟩
              · subst h0
                rw [he, List.nil_append, Form.kP, e2] at q2
                simp at q2
              · exact ⟨zs, pr, by simpa using h0⟩
            subst hz
            have hat : fnd zF p.kids 0 = ((zs.length + 1 : Nat) : Int) := by
              rw [he, fnd_pre e1 e2]; simp
            rw [hat]
            have hpk : p.kids = zs ++ pr :: dd :: tail := by rw [he, List.append_assoc]; rfl
            have hplen : p.kids.length = zs.length + 2 + tail.length := by rw [hpk]; simp; omega
            refine Tr.ff (decide_eq_false (by omega)) ?_
            by_cases hlen : zs.length + tail.length ≤ f.kids.length
            · have hR : RowS p f zs pr dd tail := ⟨hpk, fun x hx => e1 x (by simp [hx]), e1 pr (by simp), e2, e3, hlen⟩
              refine Tr.ff (decide_eq_false (by rw [RowS.many_eq hS hR]; omega)) ?_
              have hzw : Form.ws zs ≤ Form.ws p.kids := by rw [hpk, Form.ws_append]; omega
              have := match_l4_tr hS hR zs 0 [] (by rw [List.drop_zero]) (Nat.zero_le _) (by simp; omega)
              rw [hacc, List.drop_zero, ← hpk] at this
              exact this
            · refine Tr.tt (decide_eq_true (by rw [zay (n := (p.kids.length : Int) - 2) (by omega), zay (by omega)]; omega)) ?_
              have hmn : Form.mts bs lits p.kids f.kids = none := by
                cases hm : Form.mts bs lits p.kids f.kids with
                | none => rfl
                | some h =>
                  have hc : cntD p.kids = 1 := by
                    rw [he, cntD_app, cntD_all e1, cntD, e2, cntD_all e3]; rfl
                  have hnd : zb7 p.kids = false := by
                    rw [hpk]
                    cases zs with
                    | nil => exact e1 pr (by simp)
                    | cons z zs => exact e1 z (by simp)
                  have := (mts_len hm).2.2 hc hnd
                  omega
              rw [hmn]; exact Tr.val
end Go.Abs
end
section
set_option linter.unusedVariables false
set_option linter.unusedSimpArgs false
namespace Go.Abs
theorem zgv (bs : List Bind) (p : Form) (lits : List Form) (f : Form) (hb : ∀ b ∈ bs, b.fit) (hbl : bs.length ≤ 2 ^ 36) (hp : p.fit) (hpw : p.w ≤ 2 ^ 17) (hl : Form.fits lits) (hf : f.fit) (hfw : f.w ≤ 2 ^ 17) :
    Tr (fun m => zch m bs p lits f) (matchP bs p lits f) := by
  refine Tr.eq (fun m => by unfold zch; rfl) (Tr.bind (zfT bs (by omega) hb) ?_)
  unfold matchP
  have no : Tr (fun m => zaF m bs p lits f true) (([] : List Hit), false) := Tr.step (fun m => by rw [zaF]; rfl) Tr.val
  cases hbv : bvOk bs with
  | false => exact Tr.tt rfl no
  | true =>
  refine Tr.ff rfl (Tr.bind (implPatternValid_tr p lits hp (by omega) hl) ?_)
  cases hpo : patOk p lits with
  | false => exact Tr.tt rfl no
  | true =>
  refine Tr.ff rfl (Tr.bind (zdd f hf) ?_)
  cases hfv : f.valid with
  | false => exact no
  | true =>
  refine Tr.step (fun m => by rw [zaF, Bool.not_true, cond_false]) ?_
  rw [Bool.true_and, Bool.true_and, cond_true]
  refine Tr.bind (implMatch_n bs lits hbl hb hbv _ p (Nat.le_refl _) (patOk_S hpo) hp hpw f hfv hf hfw) ?_
  cases hm : p.mt bs lits f with
  | none => exact Tr.tt rfl Tr.val
  | some h => exact Tr.ff rfl Tr.val
theorem matchP_cases (bs : List Bind) (p : Form) (lits : List Form) (f : Form) : matchP bs p lits f = ([], false) ∨ ∃ h, bvOk bs = true ∧ patOk p lits = true ∧ f.valid = true ∧ p.mt bs lits f = some h ∧ matchP bs p lits f = (h, true) := by
  unfold matchP
  cases hb : (bvOk bs && (patOk p lits && f.valid)) with
  | false => exact .inl rfl
  | true =>
    simp only [Bool.and_eq_true] at hb
    cases hm : p.mt bs lits f with
    | none => exact .inl rfl
    | some h => exact .inr ⟨h, hb.1, hb.2.1, hb.2.2, rfl, rfl⟩
end Go.Abs
end
section
set_option linter.unusedVariables false
set_option linter.unusedSimpArgs false
namespace Go.Abs
mutual
theorem fms_w : ∀ (h : Hit) (y : Form), y ∈ h.fms → y.w ≤ h.w
  | .mk a b c d, y, hy => by
    rw [Hit.fms] at hy
    have hw := (Hit.mk a b c d).w_parts
    cases hd : decide (b = 0) with
    | true => rw [hd, cond_true, List.mem_singleton] at hy; subst hy; simp only [Hit.name, Hit.one, Hit.many] at hw; omega
    | false =>
      rw [hd, cond_false] at hy
      have := fmss_w d y hy
      simp only [Hit.name, Hit.one, Hit.many] at hw; omega
theorem fmss_w : ∀ (l : List Hit) (y : Form), y ∈ Hit.fmss l → y.w ≤ Hit.ws l
  | [], y, hy => by rw [Hit.fmss] at hy; cases hy
  | h :: hs, y, hy => by
    rw [Hit.fmss, List.mem_append] at hy
    rw [Hit.ws]
    rcases hy with hy | hy
    · have := fms_w h y hy; omega
    · have := fmss_w hs y hy; omega
end
theorem PatS.kind {p : Form} (h : PatS p) (h1 : ¬ p.kind = 1) (h2 : ¬ p.kind = 2) : p.kind = 3 := by
  obtain ⟨d, hd⟩ := h.ok
  rw [Form.isOk_eq] at hd
  cases hd0 : decide (d = 0) with
  | true => rw [hd0] at hd; cases hd
  | false =>
    rw [hd0, cond_false, decide_eq_false h1, cond_false, decide_eq_false h2, cond_false, Bool.and_eq_true, decide_eq_true_eq] at hd
    exact hd.1
theorem cnt_eq (f : Form) : f.cnt = 1 + Form.cnts f.kids := by obtain ⟨a, b, c, d, e⟩ := f; rw [Form.cnt]; rfl
end Go.Abs
end
section
set_option linter.unusedVariables false
set_option linter.unusedSimpArgs false
namespace Go.Abs
theorem isOk_w : ∀ (n : Nat) (f : Form), f.w ≤ n → ∀ d, f.isOk d = true → f.w + 1 ≤ 26 * f.cnt := by
  intro n
  induction n with
  | zero => intro f h; have := f.w_kids; omega
  | succ n ih =>
    intro f hn d hd
    have hw := f.w_kids
    have hc := cnt_eq f
    obtain ⟨k1, k2⟩ := zey hd
    have hsc : f.scopes.length ≤ 24 := by
      rw [Form.isOk_eq] at hd
      cases hd0 : decide (d = 0) with
      | true => rw [hd0] at hd; cases hd
      | false =>
      rw [hd0, cond_false] at hd
      by_cases h1 : f.kind = 1
      · rw [decide_eq_true h1, cond_true] at hd
        unfold scOk at hd
        simp only [Bool.and_eq_true, decide_eq_true_eq] at hd
        omega
      · rw [decide_eq_false h1, cond_false] at hd
        by_cases h2 : f.kind = 2
        · rw [decide_eq_true h2, cond_true] at hd
          simp only [Bool.and_eq_true, decide_eq_true_eq] at hd
          omega
        · rw [decide_eq_false h2, cond_false] at hd
          simp only [Bool.and_eq_true, decide_eq_true_eq] at hd
          omega
    have hk : Form.ws f.kids ≤ 26 * Form.cnts f.kids := by
      have : ∀ l : List Form, (∀ x ∈ l, x ∈ f.kids) → Form.ws l ≤ 26 * Form.cnts l := by
        intro l
        induction l with
        | nil => intro _; rw [Form.ws]; omega
        | cons x l ihl =>
          intro hx
          have h1 := ihl (fun y hy => hx y (by simp [hy]))
          have hm := hx x (by simp)
          have h2 := Form.ws_mem hm
          have h3 := ih x (by omega) _ (k2 x hm)
          rw [Form.cnts, Form.ws]; omega
      exact this _ (fun x hx => hx)
    omega
theorem valid_w {f : Form} (h : f.valid = true) : f.w ≤ 10400 := by
  unfold Form.valid at h
  rw [Bool.and_eq_true, decide_eq_true_eq] at h
  have := isOk_w _ f (Nat.le_refl _) 40 h.1
  omega
structure RulesF (rules : List Rule) : Prop where
  fit : ∀ r ∈ rules, r.fit
  pw : ∀ r ∈ rules, r.pattern.w ≤ 2 ^ 36
  tw : ∀ r ∈ rules, r.template.w ≤ 2 ^ 36
end Go.Abs
end
section
set_option linter.unusedVariables false
set_option linter.unusedSimpArgs false
namespace Go.Abs
noncomputable def deepB (x : Form) (h : Hit) : Bool := Form.part h.name x && !decide (h.depth = 0)
noncomputable def nthR (x : Form) (n : Nat) (hs : List Hit) : List Hit := hs.map fun h => bif deepB x h then h.many.getD n hit0 else h
def DepR (l : List (Form × Int)) (v : Nat) (hs : List Hit) (x : Form) : Prop := ∀ g, Form.part g x = true → (0 < dep l g - v ∨ 0 < dep (nd hs) g) → dep (nd hs) g = dep l g - v
structure FillS (l : List (Form × Int)) (v : Nat) (hs : List Hit) (x : Form) : Prop where
  hv : hvOk hs = true
  rws : x.rws l v = true
  ok : ∃ d, x.isOk d = true
  R : DepR l v hs x
theorem part_self (x : Form) : Form.part x x = true := by rw [Form.part_eq, zeS, Bool.true_or]
theorem part_kid {g x f : Form} (hx : x ∈ f.kids) (h : Form.part g x = true) : Form.part g f = true := by
  rw [Form.part_eq, parts_mem hx h, Bool.or_true]
theorem kR_kid {l : List (Form × Int)} {v : Nat} : ∀ {zs : List Form} {i : Nat} {x : Form}, Form.kR l v zs = true → zs[i]? = some x → zF x = false → bif zb7 (zs.drop (i + 1)) then x.anyD l v = true ∧ x.rws l (v + 1) = true else x.rws l v = true
  | y :: ys, 0, x, h, hx, hd => by
    simp at hx; subst hx
    rw [Form.kR, Bool.and_eq_true, hd, cond_false] at h
    have h1 := h.1
    simp only [List.drop_succ_cons, List.drop_zero]
    cases hn : zb7 ys with
    | true => rw [hn, cond_true, Bool.and_eq_true] at h1; exact h1
    | false => rw [hn, cond_false] at h1; exact h1
  | y :: ys, i + 1, x, h, hx, hd => by
    rw [Form.kR, Bool.and_eq_true] at h
    have := kR_kid (zs := ys) (i := i) (x := x) h.2 (by simpa using hx) hd
    simpa using this
mutual
theorem anyD_ex {l : List (Form × Int)} {v : Int} : ∀ f : Form, f.anyD l v = true → ∃ g, Form.part g f = true ∧ v < dep l g
  | .mk a b c d e, h => by
    rw [Form.anyD, Bool.or_eq_true] at h
    rcases h with h | h
    · exact ⟨_, part_self _, of_decide_eq_true h⟩
    · obtain ⟨g, h1, h2⟩ := anyDs_ex e h
      exact ⟨g, by rw [Form.part, h1, Bool.or_true], h2⟩
theorem anyDs_ex {l : List (Form × Int)} {v : Int} : ∀ zs : List Form, Form.anyDs l v zs = true → ∃ g, Form.parts g zs = true ∧ v < dep l g
  | [], h => by rw [Form.anyDs] at h; cases h
  | x :: xs, h => by
    rw [Form.anyDs, Bool.or_eq_true] at h
    rcases h with h | h
    · obtain ⟨g, h1, h2⟩ := anyD_ex x h
      exact ⟨g, by rw [Form.parts, h1, Bool.true_or], h2⟩
    · obtain ⟨g, h1, h2⟩ := anyDs_ex xs h
      exact ⟨g, by rw [Form.parts, h1, Bool.or_true], h2⟩
end
theorem hvOk_all {hs : List Hit} (h : hvOk hs = true) : (∀ x ∈ hs, x.isOk = true) ∧ hs.length ≤ 20 := by
  unfold hvOk at h
  rw [Bool.and_eq_true, decide_eq_true_eq] at h
  refine ⟨?_, by omega⟩
  have : ∀ {l ps : List Hit}, hvF ps l = true → ∀ x ∈ l, x.isOk = true := by
    intro l
    induction l with
    | nil => intro ps _ x hx; cases hx
    | cons y ys ih =>
      intro ps hv x hx
      rw [hvF, Bool.and_eq_true, Bool.and_eq_true] at hv
      rcases List.mem_cons.1 hx with rfl | hx
      · exact hv.1
      · exact ih hv.2.2 x hx
  exact this h.1
theorem isOk_hit {h : Hit} (hk : h.isOk = true) : isNm h.name = true ∧ (0 ≤ h.depth ∧ h.depth ≤ 3) ∧ (h.depth = 0 → h.one.valid = true ∧ h.many = []) ∧ (h.depth ≠ 0 → h.many.length ≤ 400 ∧ ∀ y ∈ h.many, y.name = h.name ∧ y.depth = h.depth - 1 ∧ y.isOk = true) := by
  rw [Hit.isOk_eq] at hk
  simp only [Bool.and_eq_true, decide_eq_true_eq] at hk
  obtain ⟨a, _, _, b, c⟩ := hk
  refine ⟨a, b, fun h0 => ?_, fun h0 => ?_⟩
  · rw [decide_eq_true h0, cond_true, Bool.and_eq_true, decide_eq_true_eq] at c
    exact ⟨c.1, List.eq_nil_of_length_eq_zero (by omega)⟩
  · rw [decide_eq_false h0, cond_false, Bool.and_eq_true, Bool.and_eq_true, decide_eq_true_eq] at c
    refine ⟨by omega, fun y hy => ?_⟩
    have := zfc.1 c.2.2 y hy
    rw [Bool.and_eq_true, Bool.and_eq_true, decide_eq_true_eq] at this
    exact ⟨zfn.1 this.1, this.2.1, this.2.2⟩
theorem hv_name {hs : List Hit} (hv : hvOk hs = true) {h : Hit} (hm : h ∈ hs) : dep (nd hs) h.name = h.depth := by
  have hn := (isOk_hit ((hvOk_all hv).1 h hm)).1
  unfold hvOk at hv
  rw [Bool.and_eq_true] at hv
  unfold isNm at hn
  rw [Bool.and_eq_true, decide_eq_true_eq] at hn
  unfold dep
  rw [decide_eq_false (by simp [hn.1]), cond_false]
  exact hv_dep hv.1 h hm
theorem depF_none {f : Form} : ∀ {l : List Hit}, (∀ h ∈ l, h.name ≠ f) → depF (nd l) f = -1
  | [], _ => rfl
  | x :: xs, h => by
    show depF ((x.name, x.depth) :: nd xs) f = -1
    rw [depF, same_ne (h x (by simp)), cond_false, depF_none (fun y hy => h y (by simp [hy]))]
theorem dep_cases {hs : List Hit} (hv : hvOk hs = true) (g : Form) : (∃ h ∈ hs, h.name = g ∧ dep (nd hs) g = h.depth) ∨ ((∀ h ∈ hs, h.name ≠ g) ∧ dep (nd hs) g = -1) := by
  by_cases hx : ∃ h ∈ hs, h.name = g
  · obtain ⟨h, hm, rfl⟩ := hx
    exact .inl ⟨h, hm, rfl, hv_name hv hm⟩
  · have hn : ∀ h ∈ hs, h.name ≠ g := fun h hm he => hx ⟨h, hm, he⟩
    refine .inr ⟨hn, ?_⟩
    unfold dep
    cases decide (g.kind ≠ 1) with
    | true => rfl
    | false => rw [cond_false]; exact depF_none hn
theorem FillS.kid {l : List (Form × Int)} {v : Nat} {hs : List Hit} {f x : Form} (hF : FillS l v hs f) {i : Nat} (hx : f.kids[i]? = some x) (hd : zF x = false) (hn : zb7 (f.kids.drop (i + 1)) = false) : FillS l v hs x := by
  have hm := List.mem_of_getElem? hx
  have hr := hF.rws
  rw [Form.rws_eq, Bool.and_eq_true] at hr
  have := kR_kid hr.2 hx hd
  rw [hn, cond_false] at this
  obtain ⟨d, hok⟩ := hF.ok
  exact ⟨hF.hv, this, ⟨_, (zey hok).2 x hm⟩, fun g hg => hF.R g (part_kid hm hg)⟩
theorem many_mem {h : Hit} {n : Nat} (hn : n < h.many.length) : h.many.getD n hit0 ∈ h.many := by
  rw [List.getD_eq_getElem?_getD, List.getElem?_eq_getElem hn]; exact List.getElem_mem hn
theorem nthR_names {x : Form} {n : Nat} : ∀ {hs : List Hit}, (∀ h ∈ hs, h.isOk = true) → (∀ h ∈ hs, deepB x h = true → n < h.many.length) → (nthR x n hs).map Hit.name = hs.map Hit.name
  | [], _, _ => rfl
  | h :: hs, hk, hn => by
    have ih := nthR_names (x := x) (n := n) (hs := hs) (fun y hy => hk y (by simp [hy])) (fun y hy => hn y (by simp [hy]))
    show (bif deepB x h then h.many.getD n hit0 else h).name :: (nthR x n hs).map Hit.name = h.name :: hs.map Hit.name
    rw [ih]
    cases hd : deepB x h with
    | false => rfl
    | true =>
      rw [cond_true]
      have h0 : h.depth ≠ 0 := by
        unfold deepB at hd
        rw [Bool.and_eq_true, Bool.not_eq_true', decide_eq_false_iff_not] at hd
        exact hd.2
      rw [(((isOk_hit (hk h (by simp))).2.2.2 h0).2 _ (many_mem (hn h (by simp) hd))).1]
theorem hvF_dist : ∀ {l ps : List Hit}, hvF ps l = true → distF (ps.map Hit.name) (l.map Hit.name) = true
  | [], ps, _ => rfl
  | x :: xs, ps, h => by
    rw [hvF, Bool.and_eq_true, Bool.and_eq_true] at h
    have ih := hvF_dist h.2.2
    rw [List.map_append] at ih
    rw [List.map_cons, distF]
    have h1 : inF (ps.map Hit.name) x.name = false := by
      unfold inF
      rw [zfc.2 (fun y hy => ?_)]
      · rfl
      · obtain ⟨z, hz, rfl⟩ := List.mem_map.1 hy
        exact zfc.1 h.2.1 z hz
    rw [h1]; simpa using ih
theorem nthR_hv {x : Form} {n : Nat} {hs : List Hit} (hv : hvOk hs = true) (hn : ∀ h ∈ hs, deepB x h = true → n < h.many.length) : hvOk (nthR x n hs) = true := by
  obtain ⟨h1, h2⟩ := hvOk_all hv
  have hnm := nthR_names h1 hn
  unfold hvOk at hv ⊢
  rw [Bool.and_eq_true] at hv ⊢
  refine ⟨hvF_of (fun y hy => ?_) ?_, ?_⟩
  · obtain ⟨h, hm, rfl⟩ := List.mem_map.1 hy
    cases hd : deepB x h with
    | false => exact h1 h hm
    | true =>
      rw [cond_true]
      have h0 : h.depth ≠ 0 := by
        unfold deepB at hd
        rw [Bool.and_eq_true, Bool.not_eq_true', decide_eq_false_iff_not] at hd
        exact hd.2
      exact (((isOk_hit (h1 h hm)).2.2.2 h0).2 _ (many_mem (hn h hm hd))).2.2
  · rw [hnm]; exact hvF_dist hv.1
  · have : (nthR x n hs).length = hs.length := by unfold nthR; rw [List.length_map]
    rw [this]; exact hv.2
theorem FillS.row {l : List (Form × Int)} {v : Nat} {hs : List Hit} {f x : Form} (hF : FillS l v hs f) {i : Nat} (hx : f.kids[i]? = some x) (hd : zF x = false) (hn : zb7 (f.kids.drop (i + 1)) = true) :
    (∃ h ∈ hs, deepB x h = true) ∧ ∀ n, (∀ h ∈ hs, deepB x h = true → n < h.many.length) → FillS l (v + 1) (nthR x n hs) x := by
  have hm := List.mem_of_getElem? hx
  have hr := hF.rws
  rw [Form.rws_eq, Bool.and_eq_true] at hr
  have hk := kR_kid hr.2 hx hd
  rw [hn, cond_true] at hk
  obtain ⟨d, hok⟩ := hF.ok
  refine ⟨?_, fun n hlen => ⟨nthR_hv hF.hv hlen, hk.2, ⟨_, (zey hok).2 x hm⟩, fun g hg hpos => ?_⟩⟩
  · obtain ⟨g, h1, h2⟩ := anyD_ex x hk.1
    have hR := hF.R g (part_kid hm h1) (.inl (by omega))
    rcases dep_cases hF.hv g with ⟨h, hmem, rfl, he⟩ | ⟨_, he⟩
    · refine ⟨h, hmem, ?_⟩
      unfold deepB
      rw [h1, Bool.true_and, decide_eq_false (by omega)]; rfl
    · omega
  · have hR := hF.R g (part_kid hm hg)
    rcases dep_cases hF.hv g with ⟨h, hmem, rfl, he⟩ | ⟨hno, he⟩
    · have hin : (bif deepB x h then h.many.getD n hit0 else h) ∈ nthR x n hs := List.mem_map.2 ⟨h, hmem, rfl⟩
      have hok := isOk_hit ((hvOk_all hF.hv).1 h hmem)
      by_cases h0 : h.depth = 0
      · have hdp : deepB x h = false := by unfold deepB; rw [decide_eq_true h0]; simp
        rw [hdp, cond_false] at hin
        have := hv_name (nthR_hv hF.hv hlen) hin
        rcases hpos with hp | hp
        · have := hR (.inl (by omega)); omega
        · omega
      · have hdp : deepB x h = true := by unfold deepB; rw [hg, decide_eq_false h0]; rfl
        rw [hdp, cond_true] at hin
        have hnm := (hok.2.2.2 h0).2 _ (many_mem (hlen h hmem hdp))
        have h2 := hv_name (nthR_hv hF.hv hlen) hin
        rw [hnm.1, hnm.2.1] at h2
        have := hR (.inr (by have := hok.2.1.1; omega))
        rw [h2]; omega
    · have h2 : dep (nd (nthR x n hs)) g = -1 := by
        rcases dep_cases (nthR_hv hF.hv hlen) g with ⟨h', hmem', hnm', _⟩ | ⟨_, he'⟩
        · have : h'.name ∈ (nthR x n hs).map Hit.name := List.mem_map.2 ⟨h', hmem', rfl⟩
          rw [nthR_names (hvOk_all hF.hv).1 hlen] at this
          obtain ⟨h, hmem, hnm⟩ := List.mem_map.1 this
          exact absurd (hnm.trans hnm') (hno h hmem)
        · exact he'
      rcases hpos with hp | hp
      · have := hR (.inl (by omega)); omega
      · omega
theorem FillS.leaf {l : List (Form × Int)} {v : Nat} {hs : List Hit} {x : Form} (hF : FillS l v hs x) : hAt hs x = -1 ∨ ∃ i h, hAt hs x = ((i : Nat) : Int) ∧ hs[i]? = some h ∧ h.depth = 0 ∧ h.one.valid = true := by
  rcases fnd_at (D := fun y : Hit => same y.name x) (l := hs) (k := 0) with ⟨h1, _⟩ | ⟨i, h, h1, h2, h3, _⟩
  · exact .inl h1
  · have hm := List.mem_of_getElem? h2
    have hn : h.name = x := zfn.1 h3
    have hok := isOk_hit ((hvOk_all hF.hv).1 h hm)
    have hd := hv_name hF.hv hm
    rw [hn] at hd
    have hr := hF.rws
    rw [Form.rws_eq, Bool.and_eq_true, Bool.not_eq_true', decide_eq_false_iff_not] at hr
    have h0 : h.depth = 0 := by
      by_cases hp : 0 < h.depth
      · have := hF.R x (part_self x) (.inr (by omega)); omega
      · have := hok.2.1.1; omega
    exact .inr ⟨i, h, by unfold hAt; rw [h1, Nat.zero_add], h2, h0, (hok.2.2.1 h0).1⟩
structure FormF (y : Form) : Prop where
  ok : ∃ d, y.isOk d = true
  cnt : y.cnt ≤ 401
theorem FormF.w {y : Form} (h : FormF y) : y.w ≤ 10426 := by
  obtain ⟨d, hd⟩ := h.ok
  have := isOk_w _ y (Nat.le_refl _) d hd
  have := h.cnt; omega
end Go.Abs
end
section
set_option linter.unusedVariables false
set_option linter.unusedSimpArgs false
namespace Go.Abs
theorem kD_prev : ∀ {zs : List Form} {pd sn : Bool} {i : Nat} {x : Form}, Form.kD false pd sn zs = true → zs[i]? = some x → zF x = true → (i = 0 ∧ pd = false) ∨ ∃ j y, i = j + 1 ∧ zs[j]? = some y ∧ zF y = false
  | z :: zs, pd, sn, 0, x, h, hx, hd => by
    simp at hx; subst hx
    rw [Form.kD, hd, cond_true, Bool.and_eq_true, Bool.and_eq_true, Bool.not_eq_true'] at h
    exact .inl ⟨rfl, h.1.1⟩
  | z :: zs, pd, sn, i + 1, x, h, hx, hd => by
    rw [Form.kD, Bool.and_eq_true] at h
    rcases kD_prev (zs := zs) (i := i) h.2 (by simpa using hx) hd with ⟨rfl, h2⟩ | ⟨j, y, rfl, hy, hyd⟩
    · exact .inr ⟨0, z, rfl, rfl, h2⟩
    · exact .inr ⟨j + 1, y, rfl, by simpa using hy, hyd⟩
theorem FillS.plain {l : List (Form × Int)} {v : Nat} {hs : List Hit} {f : Form} (hF : FillS l v hs f) (hd : f.dotsOk false = true) (hno : ∀ h ∈ hs, Form.part h.name f = false) : ∀ x ∈ f.kids, zF x = false := by
  intro x hx
  rw [Bool.eq_false_iff]
  intro hdx
  obtain ⟨i, hi⟩ := List.getElem?_of_mem hx
  rw [Form.dotsOk_eq] at hd
  rcases kD_prev hd hi hdx with ⟨_, h⟩ | ⟨j, y, rfl, hy, hyd⟩
  · cases h
  · have hnx : zb7 (f.kids.drop (j + 1)) = true := by
      rw [drop_get hi]; exact hdx
    obtain ⟨⟨h, hm, hdp⟩, _⟩ := hF.row hy hyd hnx
    unfold deepB at hdp
    rw [Bool.and_eq_true] at hdp
    have := part_kid (List.mem_of_getElem? hy) hdp.1
    rw [hno h hm] at this; cases this
end Go.Abs
end
section
set_option linter.unusedVariables false
set_option linter.unusedSimpArgs false
namespace Go.Abs
theorem RulesF.sub {rules rs : List Rule} (h : RulesF rules) (hs : ∀ r ∈ rs, r ∈ rules) : RulesF rs := ⟨fun r hr => h.fit r (hs r hr), fun r hr => h.pw r (hs r hr), fun r hr => h.tw r (hs r hr)⟩
section
variable (code : List Int) (hc : ∀ x ∈ code, 0 ≤ x ∧ x < 256)
include hc
end
end Go.Abs
end
section
set_option linter.unusedVariables false
set_option linter.unusedSimpArgs false
namespace Go.Abs
def withSc (l : List Int) (k : Int) : List Int := bif l.contains k then l else l.take (l.countP (· < k)) ++ [k] ++ l.drop (l.countP (· < k))
mutual
def Form.dr (k : Int) : Form → Form
  | .mk kind name n sc kids => Form.mk kind name n (bif decide (kind = 1) then withSc sc k else []) (Form.drs k kids)
def Form.drs (k : Int) : List Form → List Form
  | [] => []
  | f :: fs => f.dr k :: Form.drs k fs
end
theorem Form.drs_eq (k : Int) : ∀ l : List Form, Form.drs k l = l.map (Form.dr k)
  | [] => rfl
  | f :: fs => by rw [Form.drs, List.map_cons, Form.drs_eq k fs]
theorem Form.dr_eq (k : Int) (f : Form) : f.dr k = Form.mk f.kind f.name f.n (bif decide (f.kind = 1) then withSc f.scopes k else []) (f.kids.map (Form.dr k)) := by
  obtain ⟨a, b, c, d, e⟩ := f; rw [Form.dr, Form.drs_eq]; rfl
theorem dr_kind (k : Int) (f : Form) : (f.dr k).kind = f.kind := by rw [Form.dr_eq]; rfl
theorem dr_kids (k : Int) (f : Form) : (f.dr k).kids = f.kids.map (Form.dr k) := by rw [Form.dr_eq]; rfl
theorem scF_lt : ∀ {l : List Int} {p : Option Int}, scF p l = true → (∀ q, p = some q → ∀ x ∈ l, q < x) ∧ l.Pairwise (· < ·)
  | [], p, h => ⟨fun _ _ x hx => (by cases hx), .nil⟩
  | x :: xs, p, h => by
    rw [scF] at h
    simp only [Bool.and_eq_true] at h
    obtain ⟨h1, h2⟩ := scF_lt h.2.2
    refine ⟨fun q hq y hy => ?_, List.pairwise_cons.2 ⟨fun y hy => h1 x rfl y hy, h2⟩⟩
    have hqx : q < x := by
      subst hq
      have := h.2.1
      rw [gtP] at this
      exact of_decide_eq_true this
    rcases List.mem_cons.1 hy with rfl | hy
    · exact hqx
    · have := h1 x rfl y hy; omega
theorem withScope_tr (l : List Int) (k : Int) (hs : scOk l = true) : Tr (fun m => zea m l k) (withSc l k) := by
  unfold scOk at hs
  rw [Bool.and_eq_true, decide_eq_true_eq] at hs
  have hp : l.Pairwise (· ≤ ·) := (scF_lt hs.1).2.imp (fun h => Int.le_of_lt h)
  refine Tr.eq (fun m => by unfold zea; rfl) ?_
  refine Tr.bind (v := (((l.countP (· < k) : Nat) : Int), l.contains k)) ?_ ?_
  · refine Tr.eq (fun m => by unfold zdm; rfl) (Tr.chk (decide_eq_true (by omega)) (Tr.chk (decide_eq_true hp) Tr.val))
  · unfold withSc
    cases l.contains k with
    | true => exact Tr.tt rfl Tr.val
    | false =>
      refine Tr.ff rfl (Tr.bind (v := l.take (l.countP (· < k)) ++ [k] ++ l.drop (l.countP (· < k))) ?_ Tr.val)
      have hc : l.countP (· < k) ≤ l.length := List.countP_le_length
      refine Tr.eq (fun m => by unfold zff; rfl) (Tr.chk (decide_eq_true (Int.natCast_nonneg _)) (Tr.chk (decide_eq_true (by dsimp only; omega)) (Tr.chk (decide_eq_true (by omega)) (Tr.chk rfl Tr.val))))
theorem isOk_sc {f : Form} {d : Nat} (h : f.isOk d = true) : (f.kind = 1 → scOk f.scopes = true) ∧ (f.kind ≠ 1 → f.scopes = []) := by
  rw [Form.isOk_eq] at h
  cases hd : decide (d = 0) with
  | true => rw [hd] at h; cases h
  | false =>
  rw [hd, cond_false] at h
  by_cases h1 : f.kind = 1
  · rw [decide_eq_true h1, cond_true] at h
    simp only [Bool.and_eq_true] at h
    exact ⟨fun _ => h.2.2.1, fun hn => absurd h1 hn⟩
  · rw [decide_eq_false h1, cond_false] at h
    refine ⟨fun hh => absurd hh h1, fun _ => ?_⟩
    by_cases h2 : f.kind = 2
    · rw [decide_eq_true h2, cond_true] at h
      simp only [Bool.and_eq_true, decide_eq_true_eq] at h
      exact List.length_eq_zero_iff.1 (by omega)
    · rw [decide_eq_false h2, cond_false] at h
      simp only [Bool.and_eq_true, decide_eq_true_eq] at h
      exact List.length_eq_zero_iff.1 (by omega)
theorem dressed_n (k : Int) : ∀ (n : Nat) (f : Form), f.w ≤ n → f.w ≤ 2 ^ 36 → (∃ d, f.isOk d = true) → Tr (fun m => zaw m f k) (f.dr k) := by
  intro n
  induction n with
  | zero => intro f h _; have := f.w_kids; omega
  | succ n ih =>
    intro f h hb hok
    obtain ⟨d, hd⟩ := hok
    obtain ⟨s1, s2⟩ := isOk_sc hd
    have hk := (zey hd).2
    have hw := f.w_kids
    have hl := Form.ws_len f.kids
    have lp : ∀ g4 : List Int, Tr (fun m => zau m f k g4) (Form.mk f.kind f.name f.n g4 (f.kids.map (Form.dr k))) := fun g4 => by
      refine Tr.step (fun m => by rw [zau]) ?_
      have := loop_app (xs := f.kids) (c := 80) (f := Form.dr k) (L := fun m i acc => zat m f k g4 i acc) (E := fun m a => zaw m a k) (fin := fun g => Form.mk f.kind f.name f.n g4 g)
        (fun m i acc => by rw [zat]) (fun a ha => ih a (by have := Form.ws_mem ha; omega) (by have := Form.ws_mem ha; omega) ⟨_, hk a ha⟩) [] (by simp; omega)
      rw [List.nil_append] at this
      exact this
    refine Tr.step (fun m => by rw [zaw]) ?_
    rw [Form.dr_eq]
    by_cases h1 : f.kind = 1
    · rw [decide_eq_true h1, cond_true]
      refine Tr.tt rfl (Tr.bind (clone_tr _ (by omega)) (Tr.bind (v := withSc f.scopes k) (Tr.eq (fun m => by unfold zeO; rfl) (Tr.bind (withScope_tr _ _ (s1 h1)) Tr.val)) ?_))
      exact lp _
    · rw [decide_eq_false h1, cond_false]
      exact Tr.ff rfl (lp _)
noncomputable def addSc (f : Form) (k : Int) : Form × Bool := bif f.valid && (decide (1 ≤ k) && decide (k ≤ 99)) then (bif (f.dr k).valid then (f.dr k, true) else (zfU, false)) else (zfU, false)
theorem dr_w (k : Int) : ∀ (n : Nat) (f : Form), f.w ≤ n → (f.dr k).w ≤ 2 * f.w ∧ (f.fit → f.w ≤ 2 ^ 40 → (f.dr k).fit) := by
  intro n
  induction n with
  | zero => intro f h; have := f.w_kids; omega
  | succ n ih =>
    intro f h
    have hw := f.w_kids
    have hsc : (bif decide (f.kind = 1) then withSc f.scopes k else []).length ≤ f.scopes.length + 1 := by
      cases decide (f.kind = 1) with
      | false => simp
      | true =>
        rw [cond_true]; unfold withSc
        cases f.scopes.contains k with
        | true => rw [cond_true]; omega
        | false => rw [cond_false]; simp; omega
    have hks : ∀ l : List Form, (∀ x ∈ l, x ∈ f.kids) → Form.ws (l.map (Form.dr k)) ≤ 2 * Form.ws l ∧ (Form.fits l → f.w ≤ 2 ^ 40 → Form.fits (l.map (Form.dr k))) := by
      intro l
      induction l with
      | nil => intro _; exact ⟨by simp [Form.ws], fun _ _ => by rw [List.map_nil, Form.fits]; trivial⟩
      | cons x l ihl =>
        intro hx
        obtain ⟨a1, a2⟩ := ihl (fun y hy => hx y (by simp [hy]))
        have hm := Form.ws_mem (hx x (by simp))
        obtain ⟨b1, b2⟩ := ih x (by omega)
        refine ⟨by rw [List.map_cons, Form.ws, Form.ws]; omega, fun hf hb => ?_⟩
        rw [Form.fits] at hf
        rw [List.map_cons, Form.fits]
        exact ⟨b2 hf.1 (by omega), a2 hf.2 hb⟩
    obtain ⟨c1, c2⟩ := hks f.kids (fun x hx => hx)
    have hw2 := (f.dr k).w_kids
    refine ⟨?_, fun hf hb => ?_⟩
    · rw [dr_kids] at hw2
      have : (f.dr k).scopes = (bif decide (f.kind = 1) then withSc f.scopes k else []) := by rw [Form.dr_eq]; rfl
      rw [this] at hw2
      omega
    · obtain ⟨f1, f2, f3, f4⟩ := hf.parts
      rw [Form.dr_eq, Form.fit]
      exact ⟨f1, by omega, by rw [List.length_map]; exact f3, c2 f4 hb⟩
theorem implAddScope_tr (f : Form) (k : Int) (hf : f.fit) : Tr (fun m => zdC m f k) (addSc f k) := by
  refine Tr.eq (fun m => by unfold zdC; rfl) (Tr.bind (v := addSc f k) ?_ Tr.val)
  refine Tr.eq (fun m => by unfold zb8; rfl) (Tr.bind (zdd f hf) ?_)
  unfold addSc
  have no : Tr (fun m => zae m f k true) (zfU, false) := Tr.step (fun m => by rw [zae, cond_true]) Tr.val
  cases hv : f.valid with
  | false => exact Tr.tt rfl no
  | true =>
  refine Tr.ff rfl (Tr.bind (zgR _ _ _) ?_)
  rw [Bool.true_and]
  cases (decide (1 ≤ k) && decide (k ≤ 99)) with
  | false => exact no
  | true =>
  have hw := valid_w hv
  have hvd := hv
  unfold Form.valid at hvd
  rw [Bool.and_eq_true] at hvd
  obtain ⟨w1, w2⟩ := dr_w k _ f (Nat.le_refl _)
  refine Tr.step (fun m => by rw [zae, Bool.not_true, cond_false]) (Tr.bind (dressed_n k _ f (Nat.le_refl _) (by omega) ⟨_, hvd.1⟩) ?_)
  rw [cond_true]
  refine Tr.bind (v := bif (f.dr k).valid then (f.dr k, true) else (zfU, false)) ?_ Tr.val
  refine Tr.eq (fun m => by unfold zgk; rfl) (Tr.bind (zdd _ (w2 hf (by omega))) ?_)
  cases (f.dr k).valid with
  | false => exact Tr.tt rfl Tr.val
  | true => exact Tr.ff rfl (Tr.bind (zfV _ (by omega)) Tr.val)
theorem addSc_some {f : Form} {k : Int} (h : (addSc f k).2 = true) : f.valid = true ∧ (f.dr k).valid = true ∧ (addSc f k).1 = f.dr k ∧ addSc f k = (f.dr k, true) := by
  unfold addSc at h ⊢
  cases hg : (f.valid && (decide (1 ≤ k) && decide (k ≤ 99))) with
  | false => rw [hg, cond_false] at h; cases h
  | true =>
  rw [hg, cond_true] at h
  rw [Bool.and_eq_true] at hg
  cases hv : (f.dr k).valid with
  | false => rw [hv, cond_false] at h; cases h
  | true => exact ⟨hg.1, rfl, rfl, rfl⟩
end Go.Abs
end
section
set_option linter.unusedVariables false
set_option linter.unusedSimpArgs false
namespace Go.Abs
mutual
def Hit.dr (k : Int) : Hit → Hit
  | .mk nm d one many => Hit.mk nm d (one.dr k) (Hit.drs k many)
def Hit.drs (k : Int) : List Hit → List Hit
  | [] => []
  | f :: fs => f.dr k :: Hit.drs k fs
end
theorem Hit.drs_eq (k : Int) : ∀ l : List Hit, Hit.drs k l = l.map (Hit.dr k)
  | [] => rfl
  | f :: fs => by rw [Hit.drs, List.map_cons, Hit.drs_eq k fs]
theorem form0_dr (k : Int) : zfU.dr k = zfU := by unfold zfU; rw [Form.dr, Form.drs]; rfl
theorem hit0_dr (k : Int) : hit0.dr k = hit0 := by
  have := form0_dr k
  unfold zfU at this
  unfold hit0; rw [Hit.dr, Hit.drs, this]
theorem allM_map {α β : Type} {D : α → Option β} {g : α → α} {G : β → β} : ∀ {l : List α} {r : List β}, (∀ x y, D x = some y → D (g x) = some (G y)) → allM D l = some r → allM D (l.map g) = some (r.map G)
  | [], r, h, hm => by rw [allM] at hm; cases hm; rfl
  | x :: xs, r, h, hm => by
    rw [allM] at hm
    cases hx : D x with
    | none => simp [hx] at hm
    | some z =>
      cases hs : allM D xs with
      | none => simp [hx, hs] at hm
      | some ys =>
        simp [hx, hs] at hm; subst hm
        rw [List.map_cons, allM, h x z hx]
        dsimp only
        rw [allM_map h hs]; rfl
theorem rowH_dr (k : Int) : ∀ (vs : List (Form × Int)) (j : Nat) (rows : List (List Hit)), (rowH j vs rows).map (Hit.dr k) = rowH j vs (rows.map (List.map (Hit.dr k)))
  | [], j, rows => rfl
  | v :: vs, j, rows => by
    rw [rowH, rowH, List.map_cons, rowH_dr k vs, Hit.dr, form0_dr, Hit.drs_eq, List.map_map, List.map_map]
    congr 2
    apply List.map_congr_left
    intro r hr
    simp only [Function.comp]
    rw [List.getD_eq_getElem?_getD, List.getD_eq_getElem?_getD, List.getElem?_map]
    cases r[j]? with
    | none => exact hit0_dr k
    | some x => rfl
theorem mts_dr (k : Int) (bs : List Bind) : ∀ (ps : List Form), (∀ x ∈ ps, zF x = false → ∀ f h, x.mt bs [] f = some h → x.mt bs [] (f.dr k) = some (h.map (Hit.dr k))) →
    ∀ fs h, Form.mts bs [] ps fs = some h → Form.mts bs [] ps (fs.map (Form.dr k)) = some (h.map (Hit.dr k))
  | [], ih, fs, h, hm => by
    rw [Form.mts] at hm ⊢
    rw [List.length_map]
    cases hd : decide (fs.length = 0) with
    | false => rw [hd] at hm; cases hm
    | true => rw [hd, cond_true] at hm; cases hm; rfl
  | p :: ps, ih, fs, h, hm => by
    have ih2 := mts_dr k bs ps (fun x hx => ih x (by simp [hx]))
    rw [Form.mts_eq] at hm ⊢
    cases hd : zF p with
    | true => rw [hd, cond_true] at hm; rw [cond_true]; exact ih2 fs h hm
    | false =>
    have ihp := ih p (by simp) hd
    rw [hd, cond_false] at hm
    rw [cond_false]
    cases hn : zb7 ps with
    | true =>
      rw [hn, cond_true] at hm
      rw [cond_true, List.length_map]
      cases hl : decide (fs.length + 1 < ps.length) with
      | true => rw [hl] at hm; cases hm
      | false =>
      rw [hl, cond_false] at hm
      rw [cond_false, ← List.map_take, ← List.map_drop]
      cases ha : allM (fun f => Form.mt bs [] p f) (fs.take (fs.length + 1 - ps.length)) with
      | none => rw [ha] at hm; cases hm
      | some rows =>
        rw [ha] at hm
        rw [allM_map ihp ha]
        dsimp only at hm ⊢
        obtain ⟨a, b, e1, e2, rfl⟩ := oapp_some hm
        cases e1
        rw [ih2 _ _ e2, ← rowH_dr, List.map_append]; rfl
    | false =>
      rw [hn, cond_false] at hm
      rw [cond_false]
      cases fs with
      | nil => cases hm
      | cons f fs' =>
        dsimp only at hm
        obtain ⟨a, b, e1, e2, rfl⟩ := oapp_some hm
        rw [List.map_cons]
        dsimp only
        rw [ihp _ _ e1, ih2 _ _ e2, List.map_append]; rfl
theorem num_dr {p : Form} {d : Nat} (h : p.isOk d = true) (h2 : p.kind = 2) (k : Int) : p.dr k = p := by
  have hk := (zey h).1 (by omega)
  have hs := (isOk_sc h).2 (by omega)
  rw [Form.dr_eq, hk, decide_eq_false (by omega), cond_false]
  obtain ⟨a, b, c, e, g⟩ := p
  have hk' : g = [] := hk
  have hs' : e = [] := hs
  subst hk' hs'; rfl
theorem mt_dr (k : Int) (bs : List Bind) : ∀ (n : Nat) (p : Form), p.w ≤ n → PatS p → ∀ f h, p.mt bs [] f = some h → p.mt bs [] (f.dr k) = some (h.map (Hit.dr k)) := by
  intro n
  induction n with
  | zero => intro p hw; have := p.w_kids; omega
  | succ n ih =>
    intro p hw hS f h hm
    have hpw := p.w_kids
    obtain ⟨s1, s2, s3, s4, s5⟩ := hS.parts
    rw [Form.mt_eq] at hm ⊢
    by_cases h1 : p.kind = 1
    · rw [decide_eq_true h1, cond_true] at hm ⊢
      cases hu : decide (p.name = zeR) with
      | true => rw [hu, cond_true] at hm; rw [cond_true]; cases hm; rfl
      | false =>
        rw [hu, cond_false] at hm
        rw [cond_false]
        have hi : inF [] p = false := by unfold inF; rfl
        rw [hi, cond_false] at hm ⊢
        cases hm
        rw [List.map_cons, List.map_nil, Hit.dr, Hit.drs]
    · rw [decide_eq_false h1, cond_false] at hm ⊢
      by_cases h2 : p.kind = 2
      · rw [decide_eq_true h2, cond_true] at hm ⊢
        cases hs : same p f with
        | false => rw [hs] at hm; cases hm
        | true =>
          rw [hs, cond_true] at hm
          cases hm
          have := zfn.1 hs
          subst this
          obtain ⟨⟨d, hd⟩, _⟩ := hS
          rw [num_dr hd h2, zeS]; rfl
      · rw [decide_eq_false h2, cond_false] at hm ⊢
        rw [dr_kind, dr_kids]
        cases hf : decide (f.kind ≠ 3) with
        | true => rw [hf] at hm; cases hm
        | false =>
          rw [hf, cond_false] at hm
          rw [cond_false]
          exact mts_dr k bs p.kids (fun x hx hd => ih x (by have := Form.ws_mem hx; omega) ((s4 x hx).pat hd)) f.kids h hm
mutual
theorem Hit.fms_dr (k : Int) : ∀ h : Hit, (h.dr k).fms = h.fms.map (Form.dr k)
  | .mk a d one many => by
    have := Hit.fmss_dr k many
    rw [Hit.dr, Hit.fms, Hit.fms]
    cases decide (d = 0) with
    | true => rfl
    | false => rw [cond_false, cond_false, this]
theorem Hit.fmss_dr (k : Int) : ∀ l : List Hit, Hit.fmss (Hit.drs k l) = (Hit.fmss l).map (Form.dr k)
  | [] => rfl
  | h :: hs => by
    have h1 := Hit.fms_dr k h
    have h2 := Hit.fmss_dr k hs
    rw [Hit.drs, Hit.fmss, Hit.fmss, List.map_append, h1, h2]
end
theorem fms_valid : ∀ (n : Nat) (h : Hit), h.w ≤ n → h.isOk = true → ∀ y ∈ h.fms, y.valid = true := by
  intro n
  induction n with
  | zero => intro h hw; have := h.w_parts; omega
  | succ n ih =>
    intro h hw hk y hy
    have hp := h.w_parts
    obtain ⟨_, _, h0, h1⟩ := isOk_hit hk
    rw [Hit.fms_eq] at hy
    by_cases hd : h.depth = 0
    · rw [decide_eq_true hd, cond_true] at hy
      rw [List.mem_singleton.1 hy]; exact (h0 hd).1
    · rw [decide_eq_false hd, cond_false] at hy
      obtain ⟨x, hx, hyx⟩ := fmss_mem.1 hy
      exact ih x (by have := Hit.ws_mem hx; omega) ((h1 hd).2 x hx).2.2 y hyx
mutual
theorem fms_fit : ∀ h : Hit, h.fit → ∀ y ∈ h.fms, y.fit
  | .mk a d one many => by
    intro hf y hy
    have hm := fmss_fit many
    rw [Hit.fit] at hf
    rw [Hit.fms] at hy
    cases hd : decide (d = 0) with
    | true => rw [hd, cond_true] at hy; rw [List.mem_singleton.1 hy]; exact hf.2.1
    | false => rw [hd, cond_false] at hy; exact hm hf.2.2.2 y hy
theorem fmss_fit : ∀ l : List Hit, Hit.fits l → ∀ y ∈ Hit.fmss l, y.fit
  | [] => by intro _ y hy; rw [Hit.fmss] at hy; cases hy
  | h :: hs => by
    intro hf y hy
    have h1 := fms_fit h
    have h2 := fmss_fit hs
    rw [Hit.fits] at hf
    rw [Hit.fmss] at hy
    rcases List.mem_append.1 hy with hy | hy
    · exact h1 hf.1 y hy
    · exact h2 hf.2 y hy
end
theorem FnMatchDress_law (code : List Int) (hc : ∀ x ∈ code, 0 ≤ x ∧ x < 256) : TQ (fun m => zdM m code) (fun r => r = true) := by
  refine codeB (fun _ => ?_) (fun m => by unfold zdM; rfl)
  refine TQ.bind (DrawMatchPattern_tq code hc) (fun c hcc => ?_)
  obtain ⟨bs, p, lits, f⟩ := c
  obtain ⟨hb, h2, h3, h4, h5⟩ := hcc
  replace h3 : Dr 400 p := h3
  replace h5 : Dr 400 f := h5
  have hpw := h3.w
  have hfw := h5.w
  obtain ⟨dw, df⟩ := dr_w 55 _ f (Nat.le_refl _)
  refine TQ.same ?_
  refine Tr.bind (zgv bs p [] f hb (by simp at h2; omega) h3.fit (by omega) Form.fits_nil h5.fit (by omega)) (Tr.bind (specMatchPattern_tr bs p [] f hb (by simp at h2; omega) h3.fit (by omega) Form.fits_nil (by simp [Form.ws]) h5.fit (by omega)) (Tr.bind (implAddScope_tr f 55 h5.fit) ?_))
  refine Tr.bind (implHitsSame_tr _ _) ?_
  rw [zeS]
  refine Tr.ff rfl (Tr.ff (by simp) ?_)
  have no : ∀ v, Tr (fun m => zao m (bs, p, lits, f) (matchP bs p [] f) (matchP bs p [] f) v true) true := fun v => by
    refine Tr.step (fun m => by rw [zao, cond_true]) (Tr.bind (implHitsSame_tr _ _) ?_)
    rw [zeS]
    exact Tr.tt rfl (Tr.step (fun m => by rw [zbE, decide_eq_true rfl]) Tr.val)
  rcases matchP_cases bs p [] f with hm | ⟨h, b1, b2, b3, hmt, hm⟩
  · rw [hm]
    have := no (addSc f 55)
    rw [hm] at this
    exact Tr.tt rfl this
  · cases hg : (addSc f 55).2 with
    | false =>
      rw [hm] at no ⊢
      exact Tr.ff rfl (by rw [Bool.not_false]; exact no _)
    | true =>
      obtain ⟨a1, a2, a3, a4⟩ := addSc_some hg
      rw [hm, a4]
      refine Tr.ff rfl (Tr.step (fun m => by rw [Bool.not_true, zao, cond_false]) ?_)
      refine Tr.bind (zgv bs p [] (f.dr 55) hb (by simp at h2; omega) h3.fit (by omega) Form.fits_nil (df h5.fit (by omega)) (by omega)) ?_
      have hmt2 := mt_dr 55 bs _ p (Nat.le_refl _) (patOk_S b2) f h hmt
      have hm2 : matchP bs p [] (f.dr 55) = (h.map (Hit.dr 55), true) := by unfold matchP; rw [b1, b2, a2, hmt2]; rfl
      rw [hm2]
      refine Tr.ff rfl ?_
      have hw := mt_w (patOk_S b2) hmt
      have hw2 := mt_w (patOk_S b2) hmt2
      have B4 : p.w * f.w ≤ 400 * 400 := Nat.mul_le_mul hpw hfw
      have B5 : p.w * (f.dr 55).w ≤ 400 * 800 := Nat.mul_le_mul hpw (by omega)
      have ok1 := mt_isOk b2 b3 hmt
      have ok2 := mt_isOk b2 a2 hmt2
      have ft1 := mt_fit h3.fit h5.fit hmt
      have ft2 := mt_fit h3.fit (df h5.fit (by omega)) hmt2
      have hlen : (h.map (Hit.dr 55)).length = h.length := List.length_map _
      refine Tr.step (fun m => by rw [hlen, decide_eq_false (fun hh => hh rfl), zbD, cond_false]) ?_
      have key := zaB h (fun k zs => Tr (fun m => zaW m (h, true) (h.map (Hit.dr 55), true) (k : Int)) true) ?_ ?_ 0 (Nat.zero_le _)
      · exact key
      · exact Tr.step (fun m => by rw [zaW, zah, cond_false]) Tr.val
      · intro k x zs hk hx hdr ih
        have hx2 : (h.map (Hit.dr 55))[k]? = some (x.dr 55) := by rw [List.getElem?_map, hx]; rfl
        have hm1 := List.mem_of_getElem? hx
        have hm3 := List.mem_of_getElem? hx2
        have hxw := Hit.ws_mem hm1
        have hxw2 := Hit.ws_mem hm3
        refine Tr.step (fun m => by rw [zaW, ltN hk, cond_true, zJ hx, Option.bind_some]) (Tr.bind (implHitForms_tr x (Hit.fits_mem ft1 hm1) (by omega)) ?_)
        refine Tr.eq (fun m => by rw [zJ hx2, Option.bind_some]) (Tr.bind (implHitForms_tr (x.dr 55) (Hit.fits_mem ft2 hm3) (by omega)) ?_)
        have hF : hForms x = x.fms := by unfold hForms; rw [ok1 x hm1]; rfl
        have F2 : hForms (x.dr 55) = x.fms.map (Form.dr 55) := by unfold hForms; rw [ok2 _ hm3, cond_true, Hit.fms_dr]
        rw [hF, F2]
        have v1 := fms_valid _ x (Nat.le_refl _) (ok1 x hm1)
        have v2 := fms_valid _ (x.dr 55) (Nat.le_refl _) (ok2 _ hm3)
        rw [Hit.fms_dr] at v2
        refine Tr.ff (by simp) ?_
        have inner := zaB x.fms (fun j ys => Tr (fun m => zaV m (h, true) (h.map (Hit.dr 55), true) (k : Int) x.fms (x.fms.map (Form.dr 55)) (j : Int)) true) ?_ ?_ 0 (Nat.zero_le _)
        · exact inner
        · exact Tr.step (fun m => by rw [zaV, zah, cond_false, zay (by have := Hit.ws_len h; omega), zck]) ih
        · intro j y ys hj hy hdy ihj
          have hym := List.mem_of_getElem? hy
          have hy2 : (x.fms.map (Form.dr 55))[j]? = some (y.dr 55) := by rw [List.getElem?_map, hy]; rfl
          have e : addSc y 55 = (y.dr 55, true) := by
            unfold addSc; rw [v1 y hym, v2 _ (List.mem_of_getElem? hy2)]; rfl
          have hyw := fms_w x y hym
          have hyf : y.fit := by
            have := mt_fit h3.fit h5.fit hmt
            exact fms_fit x (Hit.fits_mem this hm1) y hym
          refine Tr.step (fun m => by rw [zaV, ltN hj, cond_true, zJ hy, Option.bind_some]) (Tr.bind (implAddScope_tr y 55 hyf) ?_)
          rw [e]
          refine Tr.ff rfl (Tr.eq (fun m => by rw [zJ hy2, Option.bind_some]) (Tr.bind (zc3 _ _) ?_))
          rw [zeS]
          exact Tr.step (fun m => by rw [Bool.not_true, zbC, cond_false, zck]) ihj
end Go.Abs
end
