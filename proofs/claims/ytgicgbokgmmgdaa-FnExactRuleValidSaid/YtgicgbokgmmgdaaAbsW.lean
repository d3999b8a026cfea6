/- Functions whose answer is told by a condition: the walk ends in one state, found on the way. -/
import Derived.Test.YtgicgbokgmmgdaaAbsV
import Derived.IntWalk
set_option linter.unusedSimpArgs false
set_option linter.unusedVariables false
namespace Go.Abs
section
variable {P : Program} {n : Nat}

theorem awp_mono {C : Cx} {c : Code} {Q Q' : Exit → St → Prop} {st : St} (h : AWP P C n c Q st) (hq : ∀ e s, Q e s → Q' e s) : AWP P C n c Q' st := fun a w hR => wp_mono (h a w hR) (by
  rintro e a' w' ⟨st', h1, h2⟩
  exact ⟨st', hq _ _ h1, h2⟩)

def OkC (os : Nat → Ob) (C : Cx) : Prop := ∀ k, C.X0 k ≠ none → os k ≠ .no
/-- The code ends in one state, of which K holds. -/
def DWP (P : Program) (os : Nat → Ob) (n : Nat) (c : Code) (K : Exit → St → Prop) (st : St) : Prop := ∃ e st', K e st' ∧ ∀ C, OkC os C → AWP P C n c (fun e' s' => e' = e ∧ s' = st') st
def ThnD (P : Program) (os : Nat → Ob) (n : Nat) (y : Code) (K : Exit → St → Prop) : Exit → St → Prop
  | .normal, st => DWP P os n y K st
  | e, st => K e st
variable {os : Nat → Ob} {K : Exit → St → Prop} {st : St}

theorem d_skip (h : K .normal st) : DWP P os n .skip K st := ⟨_, _, h, fun C _ => awp_skip ⟨rfl, rfl⟩⟩
theorem d_ret (h : K .ret st) : DWP P os n .ret K st := ⟨_, _, h, fun C _ => awp_ret ⟨rfl, rfl⟩⟩
theorem d_exit {id : Nat} (h : K (.exit id) st) : DWP P os n (.exit id) K st := ⟨_, _, h, fun C _ => awp_exit ⟨rfl, rfl⟩⟩
theorem d_seq {x y : Code} (h : DWP P os n x (ThnD P os n y K) st) : DWP P os n (.seq x y) K st := by
  obtain ⟨e, st1, hk, h1⟩ := h
  have other : e ≠ .normal → K e st1 → DWP P os n (.seq x y) K st := fun he hk => ⟨e, st1, hk, fun C hC => awp_seq (awp_mono (h1 C hC) (by
    rintro e' s ⟨rfl, rfl⟩
    cases e' <;> first | exact absurd rfl he | exact ⟨rfl, rfl⟩))⟩
  cases e with
  | normal =>
    obtain ⟨e2, st2, hk2, h2⟩ := hk
    exact ⟨e2, st2, hk2, fun C hC => awp_seq (awp_mono (h1 C hC) (by rintro e' s ⟨rfl, rfl⟩; exact h2 C hC))⟩
  | _ => exact other (by simp) hk
theorem d_block {id : Nat} {c : Code} (h : DWP P os n c (InB id K) st) : DWP P os n (.block id c) K st := by
  obtain ⟨e, st1, hk, h1⟩ := h
  cases e with
  | exit id' =>
    simp only [InB] at hk
    by_cases hid : id' = id
    · rw [if_pos hid] at hk
      exact ⟨.normal, st1, hk, fun C hC => awp_block (awp_mono (h1 C hC) (by rintro e' s ⟨rfl, rfl⟩; simp only [InB, if_pos hid, and_self]))⟩
    · rw [if_neg hid] at hk
      exact ⟨.exit id', st1, hk, fun C hC => awp_block (awp_mono (h1 C hC) (by rintro e' s ⟨rfl, rfl⟩; simp only [InB, if_neg hid, and_self]))⟩
  | _ => exact ⟨_, st1, hk, fun C hC => awp_block (awp_mono (h1 C hC) (by rintro e' s ⟨rfl, rfl⟩; exact ⟨rfl, rfl⟩))⟩
theorem d_true {c : Operand} {x y : Code} (hc : ev n st.s c = .t (.sc (.bool true))) (h : DWP P os n x K st) : DWP P os n (.cond c x y) K st := by
  obtain ⟨e, st1, hk, h1⟩ := h
  exact ⟨e, st1, hk, fun C hC => awp_true hc (h1 C hC)⟩
theorem d_false {c : Operand} {x y : Code} (hc : ev n st.s c = .t (.sc (.bool false))) (h : DWP P os n y K st) : DWP P os n (.cond c x y) K st := by
  obtain ⟨e, st1, hk, h1⟩ := h
  exact ⟨e, st1, hk, fun C hC => awp_false hc (h1 C hC)⟩
theorem d_cond {c : Operand} {x y : Code} {b : Bool} (hc : ev n st.s c = .t (.sc (.bool b))) (h1 : b = true → DWP P os n x K st) (h2 : b = false → DWP P os n y K st) : DWP P os n (.cond c x y) K st := by
  cases b
  · exact d_false hc (h2 rfl)
  · exact d_true hc (h1 rfl)
theorem d_region {id : Nat} {ops : Array Oper} (h : Run P n ops (fun _ st' => K .normal st') ops.toList.zipIdx [] st) : DWP P os n (.region id ops false) K st := by
  obtain ⟨ch, st', h1, h2, h3⟩ := run_chain zipIdx_get h
  exact ⟨.normal, st', h3, fun C _ a w hR => region_text h1 (by rw [h2, zipIdx_snd]) (fun a w hR => ⟨st', ⟨rfl, rfl⟩, hR⟩) hR⟩
theorem d_draw (hmix : P.follows .mixedOrders = true) {id : Nat} {ops : Array Oper} (hback : backward ops = true) (h : Run P n ops (fun acc st' => freeB ops (Region.before ops) acc.reverse = true ∧ K .normal st') ops.toList.zipIdx [] st) : DWP P os n (.region id ops true) K st := by
  obtain ⟨ch, st', h1, h2, h3⟩ := run_chain zipIdx_get h
  simp only [List.append_nil, List.reverse_reverse] at h3
  exact ⟨.normal, st', h3.2, fun C _ a w hR => region_any hmix h1 (by rw [h2, zipIdx_snd]) hback h3.1 (fun a w hR => ⟨st', ⟨rfl, rfl⟩, hR⟩) hR⟩

section
variable {α : Type} (asg och gar : List Nat) (μ : α → Nat) (sl : α → List (Nat × V)) (ob : α → List (Nat × Ob)) (s : Nat → V) (m : Nat → Ob) (P os n) (c : Code) (e : Exit) (st' : St)
inductive Traj : α → Prop
  | stop (a : α) (he : e ≠ .normal) (h : ∀ C, OkC os C → AWP P C n c (fun e' s' => e' = e ∧ s' = st') ⟨frame asg (slots (sl a)) s, frame och (objs (ob a)) m⟩) : Traj a
  | go (a a' : α) (st1 : St) (h : ∀ C, OkC os C → AWP P C n c (fun e' s' => e' = .normal ∧ s' = st1) ⟨frame asg (slots (sl a)) s, frame och (objs (ob a)) m⟩) (hlt : μ a' < μ a) (R : List (Nat × Nat)) (hR : okR R och gar m = true)
      (h1 : Off asg st1.s s) (h2 : Off (och ++ gar) st1.m m) (h3 : HasR st1.s och gar (qOf R) (sl a')) (h4 : HasQ st1.m och gar (qOf R) (ob a')) (t : Traj a') : Traj a
end
theorem d_frame {α : Type} {s : Nat → V} {m : Nat → Ob} {c : Code} (asg och gar : List Nat) (μ : α → Nat) (sl : α → List (Nat × V)) (ob : α → List (Nat × Ob)) (Inv : α → Prop) (a0 : α) (h0 : Inv a0)
    (hga : gar.all (fun k => isNo (m k)) = true) (hdis : och.all (fun k => !gar.elem k) = true) (hoc : ∀ a, (ob a).map (·.1) = och) (hs : HasF s (sl a0)) (ho : HasO m (ob a0))
    (round : ∀ a, Inv a → DWP P os n c (Round asg och gar μ sl ob Inv s m a K) ⟨frame asg (slots (sl a)) s, frame och (objs (ob a)) m⟩) : DWP P os n (.loop c) K ⟨s, m⟩ := by
  have main : ∀ k a, μ a = k → Inv a → ∃ e st', K e st' ∧ Traj P n os asg och gar μ sl ob s m c e st' a := by
    intro k
    induction k using Nat.strongRecOn with
    | _ k ih =>
      intro a hk ha
      obtain ⟨e, st1, hr, h⟩ := round a ha
      cases e with
      | normal =>
        obtain ⟨a', R, hR, hi, hlt, h1, h2, h3, h4⟩ := hr
        obtain ⟨e, st', hK, t⟩ := ih (μ a') (by omega) a' rfl hi
        exact ⟨e, st', hK, .go a a' st1 h hlt R hR h1 h2 h3 h4 t⟩
      | _ => exact ⟨_, st1, hr, .stop a (by simp) h⟩
  obtain ⟨e, st', hK, t⟩ := main _ a0 rfl h0
  refine ⟨e, st', hK, fun C hC => awp_frame asg och gar μ sl ob (fun a => Traj P n os asg och gar μ sl ob s m c e st' a) a0 t hga hdis hoc hs ho ?_⟩
  intro a ta
  cases ta with
  | stop _ he h =>
    refine awp_mono (h C hC) ?_
    rintro e' s' ⟨rfl, rfl⟩
    cases e' <;> first | exact absurd rfl he | exact ⟨rfl, rfl⟩
  | go _ a' st1 h hlt R hR h1 h2 h3 h4 t =>
    refine awp_mono (h C hC) ?_
    rintro e' s' ⟨rfl, rfl⟩
    exact ⟨a', R, hR, t, hlt, h1, h2, h3, h4⟩

/-- How a function ends whose answer is told by a condition. -/
def FinE (P : Program) (n : Nat) (fn : Func) (os : Nat → Ob) (Post : V → (Nat → Ob) → Prop) : Exit → St → Prop
  | .normal, st => ∃ rs os', Post (one1 rs) os' ∧ (∀ k, os k ≠ .no → os' k ≠ .no) ∧ Ends P n fn rs os' st
  | .ret, st => ∃ rs os', Post (one1 rs) os' ∧ (∀ k, os k ≠ .no → os' k ≠ .no) ∧ Ends P n fn rs os' st
  | _, _ => False
theorem AC_introE {f : FuncId} {fn : Func} {c : Code} (hf : P.funcs[f]? = some fn) (hb : fn.body = some c) (hname : (fn.name == "runtime.NumGoroutine") = false) {args : List V} (hlen : args.length ≤ fn.ntmps) {Post : V → (Nat → Ob) → Prop}
    (h : DWP P os fn.ntmps c (FinE P fn.ntmps fn os Post) ⟨fun t => args.getD t .jk, os⟩) : ∃ r os', Post r os' ∧ AC P f args os r os' := by
  obtain ⟨e, st', hK, h⟩ := h
  have key : (∃ rs os', Post (one1 rs) os' ∧ (∀ k, os k ≠ .no → os' k ≠ .no) ∧ Ends P fn.ntmps fn rs os' st') → (e = .normal ∨ e = .ret) → ∃ r os', Post r os' ∧ AC P f args os r os' := by
    rintro ⟨rs, os', hp, hk, he⟩ hh
    refine ⟨one1 rs, os', hp, AC_intro hf hb hname hlen hk (fun C hC => awp_mono (h C hC) ?_)⟩
    rintro e' s' ⟨rfl, rfl⟩
    rcases hh with rfl | rfl <;> exact he
  cases e with
  | normal => exact key hK (.inl rfl)
  | ret => exact key hK (.inr rfl)
  | _ => exact hK.elim
theorem k_finE {fn : Func} {Post : V → (Nat → Ob) → Prop} (rs : List V) (os' : Nat → Ob) (hk : ∀ k, os k ≠ .no → os' k ≠ .no) (h : Ends P n fn rs os' st) (hp : Post (one1 rs) os') : FinE P n fn os Post .ret st := ⟨rs, os', hp, hk, h⟩
theorem k_finE_end {fn : Func} {Post : V → (Nat → Ob) → Prop} (rs : List V) (os' : Nat → Ob) (hk : ∀ k, os k ≠ .no → os' k ≠ .no) (h : Ends P n fn rs os' st) (hp : Post (one1 rs) os') : FinE P n fn os Post .normal st := ⟨rs, os', hp, hk, h⟩
theorem k_seqD {y : Code} (h : DWP P os n y K st) : ThnD P os n y K .normal st := h
theorem k_seqD_exit {y : Code} {id : Nat} (h : K (.exit id) st) : ThnD P os n y K (.exit id) st := h
theorem k_seqD_ret {y : Code} (h : K .ret st) : ThnD P os n y K .ret st := h

/-! ### a call that is handed one object -/
mutual
theorem V.ren_noids {q : Nat → Nat} : ∀ (v : V), v.ids = [] → v.ren q = v
  | .rf _ _, h => by simp [V.ids] at h
  | .re _ _ _ _, h => by simp [V.ids] at h
  | .ar _, h => by simp [V.ids] at h
  | .t _, _ => rfl
  | .nl, _ => rfl
  | .pe _, _ => rfl
  | .jk, _ => rfl
  | .ze, _ => rfl
  | .sn _ _, _ => rfl
  | .ag cs, h => by rw [V.ids] at h; rw [V.ren, V.renL_noids cs h]
  | .tp cs, h => by rw [V.ids] at h; rw [V.ren, V.renL_noids cs h]
  | .fn f cs, h => by rw [V.ids] at h; rw [V.ren, V.renL_noids cs h]
theorem V.renL_noids {q : Nat → Nat} : ∀ (vs : List V), V.idsL vs = [] → V.renL q vs = vs
  | [], _ => rfl
  | v :: vs, h => by
    rw [V.idsL, List.append_eq_nil_iff] at h
    rw [V.renL, V.ren_noids v h.1, V.renL_noids vs h.2]
end
theorem Ob.ren_noids {q : Nat → Nat} {o : Ob} (h : o.ids = []) : o.ren q = o := by
  cases o with
  | box cs => rw [Ob.ids] at h; rw [Ob.ren, V.renL_noids cs h]
  | _ => rfl

section
variable {ops : Array Oper} {KK : List (Nat × Oper × Ev) → St → Prop} {r : List (Oper × Nat)} {acc : List (Nat × Oper × Ev)} {s : Nat → V} {m : Nat → Ob} {d ix : Nat} {ty : _} {pos : _} {after : _} {g : _}
theorem r_one {op : Op} {c : Call} {fop : Operand} {f : FuncId} {caps : List V} {cargs avs : List V} {rv : V} {m1 : Nat → Ob} {o o' : Ob} (j k : Nat) (ks : List Nat) (hg : guardOf n ops ⟨some d, op, ty, pos, after, g⟩ ⟨s, m⟩ = some true) (ho : op = .call c) (hc : c.callee = .value fop) (hf : ev n s fop = .fn f caps) (hav : c.args.toList.map (ev n s) ++ caps = avs) {u : List (Nat × Ob)} (hu : fzU m ks = u) (hm1 : app m u = m1)
    (hAC : AC P f cargs (objs [(j, o)]) rv (objs [(j, o')])) (hk : m1 k = o) (hn : isNo o = false) (hn' : isNo o' = false) (hi : o.ids = []) (hi' : o'.ids = []) (hr' : rv.ids = [])
    (hp : PassL m1 (fun i => if i = j then k else i) ks (objs [(j, o)]) avs cargs) {fp : List Nat} (hfp : fpOf 0 (ev n s) op ++ ks ++ [k] = fp) (hr : Run P n ops KK r ((ix, ⟨some d, op, ty, pos, after, g⟩, ⟨rv, u ++ [(k, o')], fp⟩) :: acc) ⟨upd s d rv, upd m1 k o'⟩) : Run P n ops KK ((⟨some d, op, ty, pos, after, g⟩, ix) :: r) acc ⟨s, m⟩ := by
  subst hav; subst hu; subst hm1; subst hfp
  have hq : qOf [(j, k)] = fun i => if i = j then k else i := by funext i; simp [qOf]
  have h0 : ∀ {z : Ob} {i : Nat}, objs [(j, z)] i ≠ .no → i = j := by
    intro z i hne
    rw [objs_cons, objs_nil] at hne
    by_cases hij : i = j
    · exact hij
    · rw [if_neg hij] at hne; exact absurd rfl hne
  have hj : ∀ z : Ob, objs [(j, z)] j = z := fun z => by rw [objs_cons, if_pos rfl]
  have hlv : leave (objs [(j, o')]) (qOf [(j, k)]) [(j, k)] = [(k, o')] := by
    simp only [leave, List.map_cons, List.map_nil, hj]
    cases o' with
    | no => simp [isNo] at hn'
    | _ => simp only [Ob.ren_noids hi']
  have hrv : rv.ren (qOf [(j, k)]) = rv := V.ren_noids rv hr'
  refine run_call hg ks [(j, k)] ho hc hf hAC (by simp) (by simp) (by rw [hq]; exact hp) (fun i hne => by simp [h0 hne]) (fun i hne => by simp [h0 hne]) ?_ ?_ ?_
  · intro p hp' _
    simp at hp'; subst hp'
    refine ⟨by simp only [hj]; rw [hk, Ob.ren_noids hi], fun i hii => ?_⟩
    simp only [hj, hi] at hii; cases hii
  · intro p hp' hno
    simp at hp'; subst hp'
    simp only [hj] at hno
    rw [hno] at hn; cases hn
  · rw [hlv, hrv]
    have ha : ∀ u m, app m (u ++ [(k, o')]) = upd (app m u) k o' := fun u m => by rw [app_append]; rfl
    simp only [St.put, ha, List.map_cons, List.map_nil] at hr ⊢
    exact hr
theorem pass_obj {m1 : Nat → Ob} {j k : Nat} {ks : List Nat} {o : Ob} (off : Nat) (hn : isNo o = false) : Pass m1 (fun i => if i = j then k else i) ks (objs [(j, o)]) (.rf k off) (.rf j off) := .inl ⟨by simp [V.ren], by
  intro i hi
  simp [V.ids] at hi; subst hi
  rw [objs_cons, if_pos rfl]
  intro e; rw [e] at hn; cases hn⟩
theorem pass_id' {m1 : Nat → Ob} {q : Nat → Nat} {ks : List Nat} {os : Nat → Ob} {v : V} (h : v.ids = []) : Pass m1 q ks os v v := .inl ⟨V.ren_noids v h, by rw [h]; simp⟩
end
end
end Go.Abs
namespace Go.Abs
section
variable {P : Program} {n : Nat}
/-- A function that hands back pure values and leaves the one object that it was handed. -/
theorem ends_obj {fn : Func} {rs : List V} {s' : Nat → V} {m' m1 : Nat → Ob} {vs : List V} (j : Nat) (ks : List Nat) {o' : Ob} {u : List (Nat × Ob)} (h1 : resOf P n ⟨s', m'⟩ fn.results.toList = some vs) (hu : fzU m' ks = u) (hm1 : app m' u = m1) (h2 : GiveL m1 ks vs rs) (h3 : V.idsL rs = []) (ho : m1 j = o') (hi : o'.ids = []) : Ends P n fn rs (objs [(j, o')]) ⟨s', m'⟩ := by
  subst hu; subst hm1
  refine ⟨vs, ks, [j], h1, h2, fun k => ?_, fun k hk => ?_, fun k hk => by rw [h3] at hk; cases hk⟩
  · rw [objs_cons, objs_nil]
    by_cases hkj : k = j
    · subst hkj; simp; exact ho.symm
    · simp [hkj]
  · simp at hk; subst hk; rw [ho, hi]; simp
theorem keep_obj {j : Nat} {o o' : Ob} (hn : isNo o' = false) : ∀ k, objs [(j, o)] k ≠ .no → objs [(j, o')] k ≠ .no := fun k h => by
  rw [objs_cons, objs_nil] at h ⊢
  by_cases hkj : k = j
  · rw [if_pos hkj]; intro e; rw [e] at hn; cases hn
  · rw [if_neg hkj] at h; exact absurd rfl h
abbrev bytesT (d : List Int) : T := .sl (d.map fun b => [.sc (.int .u8 b)])
/-- The reader of drawn bytes. -/
abbrev rdO (d : List Int) (pos : Int) : Ob := .box [.t (bytesT d), .t (.sc (.int .i64 pos))]
def OkB (d : List Int) : Prop := d.length ≤ 2000 ∧ ∀ b ∈ d, 0 ≤ b ∧ b < 256
/-- A function that draws: it answers something of which Q holds, and has read on by at most N places. -/
def Rd (P : Program) (f : FuncId) (args : List V) (N : Nat) (Q : V → Prop) : Prop := ∀ (d : List Int) (pos : Int), OkB d → 0 ≤ pos → pos + N ≤ 2 ^ 50 →
  ∃ r os', (∃ pos', pos ≤ pos' ∧ pos' ≤ pos + N ∧ os' = objs [(0, rdO d pos')] ∧ r.ids = [] ∧ Q r) ∧ AC P f (.rf 0 0 :: args) (objs [(0, rdO d pos)]) r os'
theorem xor_nonneg {a b : Int} (ha : 0 ≤ a) (ha' : a < 2 ^ 63) (hb : 0 ≤ b) (hb' : b < 2 ^ 63) : 0 ≤ IntKind.i64.wrap (BitVec.ofInt IntKind.i64.bits a ^^^ BitVec.ofInt IntKind.i64.bits b).toNat := by
  have h : (BitVec.ofInt IntKind.i64.bits a ^^^ BitVec.ofInt IntKind.i64.bits b).toNat < 2 ^ 63 := by
    rw [BitVec.toNat_xor]
    have e : ∀ x : Int, 0 ≤ x → x < 2 ^ 63 → (BitVec.ofInt IntKind.i64.bits x).toNat < 2 ^ 63 := by
      intro x h0 h1
      rw [BitVec.toNat_ofInt, show IntKind.i64.bits = 64 from rfl]
      omega
    exact Nat.xor_lt_two_pow (e a ha ha') (e b hb hb')
  rw [IntWalk.i64_in _ (by omega)]
  omega
end
end Go.Abs
namespace Go.Abs
section
variable {P : Program} {n : Nat}
/-- A slice that a loop appends to: nil as long as it is empty. -/
def vAcc (es : List (List T)) (k : Nat) : V := bif es.isEmpty then .nl else .ar k
def oAcc (es : List (List T)) (e : TypeId) : Ob := bif es.isEmpty then .no else .arr es e true
section
variable {ops : Array Oper} {KK : List (Nat × Oper × Ev) → St → Prop} {r : List (Oper × Nat)} {acc : List (Nat × Oper × Ev)} {s : Nat → V} {m : Nat → Ob} {d ix : Nat} {ty : _} {pos : _} {after : _} {g : _}
/-- A call that is handed pure values and hands back a pointer to a new object. -/
theorem r_new {op : Op} {c : Call} {fop : Operand} {f : FuncId} {caps : List V} {cargs avs : List V} {m1 : Nat → Ob} {o' : Ob} (j k : Nat) (ks : List Nat) (hg : guardOf n ops ⟨some d, op, ty, pos, after, g⟩ ⟨s, m⟩ = some true) (ho : op = .call c) (hc : c.callee = .value fop) (hf : ev n s fop = .fn f caps) (hav : c.args.toList.map (ev n s) ++ caps = avs) {u : List (Nat × Ob)} (hu : fzU m ks = u) (hm1 : app m u = m1)
    (hAC : AC P f cargs noOb (.rf j 0) (objs [(j, o')])) (hk : isNo (m1 k) = true) (hn' : isNo o' = false) (hi' : o'.ids = [])
    (hp : PassL m1 (fun i => if i = j then k else i) ks noOb avs cargs) {fp : List Nat} (hfp : fpOf 0 (ev n s) op ++ ks ++ [k] = fp) (hr : Run P n ops KK r ((ix, ⟨some d, op, ty, pos, after, g⟩, ⟨.rf k 0, u ++ [(k, o')], fp⟩) :: acc) ⟨upd s d (.rf k 0), upd m1 k o'⟩) : Run P n ops KK ((⟨some d, op, ty, pos, after, g⟩, ix) :: r) acc ⟨s, m⟩ := by
  subst hav; subst hu; subst hm1; subst hfp
  have hq : qOf [(j, k)] = fun i => if i = j then k else i := by funext i; simp [qOf]
  have h0 : ∀ {z : Ob} {i : Nat}, objs [(j, z)] i ≠ .no → i = j := by
    intro z i hne
    rw [objs_cons, objs_nil] at hne
    by_cases hij : i = j
    · exact hij
    · rw [if_neg hij] at hne; exact absurd rfl hne
  have hj : ∀ z : Ob, objs [(j, z)] j = z := fun z => by rw [objs_cons, if_pos rfl]
  have hlv : leave (objs [(j, o')]) (qOf [(j, k)]) [(j, k)] = [(k, o')] := by
    simp only [leave, List.map_cons, List.map_nil, hj]
    cases o' with
    | no => simp [isNo] at hn'
    | _ => simp only [Ob.ren_noids hi']
  have hrv : (V.rf j 0).ren (qOf [(j, k)]) = .rf k 0 := by simp [V.ren, qOf]
  refine run_call hg ks [(j, k)] ho hc hf hAC (by simp) (by simp) (by rw [hq]; exact hp) (fun i hne => absurd rfl hne) (fun i hne => by simp [h0 hne]) ?_ ?_ ?_
  · intro p hp' hne
    exact absurd rfl hne
  · intro p hp' hno
    simp at hp'; subst hp'
    simp only [hj]
    exact ⟨isNo_eq hk, fun e => by rw [e] at hn'; cases hn'⟩
  · rw [hlv, hrv]
    have ha : ∀ u m, app m (u ++ [(k, o')]) = upd (app m u) k o' := fun u m => by rw [app_append]; rfl
    simp only [St.put, ha, List.map_cons, List.map_nil] at hr ⊢
    exact hr
end
/-- A function that hands back a pointer to a new object. -/
theorem ends_new {fn : Func} {s' : Nat → V} {m' : Nat → Ob} {j : Nat} {o' : Ob} (h1 : resOf P n ⟨s', m'⟩ fn.results.toList = some [.rf j 0]) (ho : m' j = o') (hi : o'.ids = []) : Ends P n fn [.rf j 0] (objs [(j, o')]) ⟨s', m'⟩ := by
  refine ⟨_, [], [j], h1, ⟨.inl rfl, trivial⟩, fun k => ?_, fun k hk => ?_, fun k hk => by simpa [V.idsL, V.ids] using hk⟩
  · rw [objs_cons, objs_nil]
    by_cases hkj : k = j
    · subst hkj; simp [fzU, app]; exact ho.symm
    · simp [hkj]
  · simp at hk; subst hk; simp [fzU, app, ho, hi]
end
end Go.Abs
namespace Go.Abs
theorem vAcc_pos {es : List (List T)} {k : Nat} (h : es ≠ []) : vAcc es k = .ar k := by cases es <;> simp_all [vAcc]
theorem oAcc_pos {es : List (List T)} {e : TypeId} (h : es ≠ []) : oAcc es e = .arr es e true := by cases es <;> simp_all [oAcc]
end Go.Abs
namespace Go.Abs
theorem aslice_t {P : Program} {m : Nat → Ob} {t e sz : Nat} {es : List (List T)} {lo hi : Option V} (l h : Nat) (hu : P.underlying t = some (.slice e)) (he : elOf P t = some (e, sz)) (hl : bnd 0 lo = some l) (hh : bnd es.length hi = some h) (h1 : l ≤ h) (h2 : h ≤ es.length) (h3 : ∀ r ∈ es, r.length = sz) : aslice P m t (.t (.sl es)) lo hi = some (.t (.sl ((es.take h).drop l)), []) := by
  simp only [aslice, hu, he, toT, hl, hh, fz, fzU]
  rw [if_pos ⟨h1, h2, by rw [List.all_eq_true]; intro r hr; simpa using h3 r hr⟩]
end Go.Abs
namespace Go.Abs
theorem vAcc_nil {es : List (List T)} {k : Nat} (h : es = []) : vAcc es k = .nl := by subst h; rfl
theorem oAcc_nil {es : List (List T)} {e : TypeId} (h : es = []) : oAcc es e = .no := by subst h; rfl
theorem take_ne {α : Type} (row : α → List T) {l : List α} {j : Nat} (h : 0 < j) (hj : j ≤ l.length) : (l.take j).map row ≠ [] := by
  intro e
  have := congrArg List.length e
  simp only [List.length_map, List.length_take, List.length_nil] at this
  omega
end Go.Abs
namespace Go.Abs
section
variable {P : Program} {n : Nat} {st : St} {r : List ResultVar} {vs : List V}
theorem res_nil : resOf P n st [] = some [] := rfl
theorem res_tmp {t : Nat} {v : V} (hx : ev n st.s (.tmp t) = v) (h : resOf P n st r = some vs) : resOf P n st (.tmp t :: r) = some (v :: vs) := by
  simp only [resOf, h, hx]
theorem res_agg {a k sz : Nat} {t : TypeId} {cs : List V} (hp : ev n st.s (.tmp a) = .rf k 0) (hm : st.m k = .box cs) (ha : aggOf P t = some true) (hs : szOf P t = some sz) (hl : cs.length = sz) (h : resOf P n st r = some vs) : resOf P n st (.cell a t :: r) = some (.ag cs :: vs) := by
  simp only [resOf, hp, cellsAt, hm, List.drop_zero, takeT_agg ha hs, hl, Nat.le_refl, if_true, h]
  rw [List.take_of_length_le (by omega)]
theorem res_one {a k : Nat} {t : TypeId} {v : V} (hp : ev n st.s (.tmp a) = .rf k 0) (hm : st.m k = .box [v]) (ha : aggOf P t = some false) (h : resOf P n st r = some vs) : resOf P n st (.cell a t :: r) = some (v :: vs) := by
  simp only [resOf, hp, cellsAt, hm, List.drop_zero, takeT_one ha, List.head?_cons, h]
end
end Go.Abs
namespace Go.Abs
theorem fzU_nil {m : Nat → Ob} : fzU m [] = [] := rfl
theorem fzU_cons {m : Nat → Ob} {k : Nat} {ks : List Nat} {es : List (List T)} {e : TypeId} {u : List (Nat × Ob)} (h : m k = .arr es e true) (h2 : fzU (upd m k (.arr es e false)) ks = u) : fzU m (k :: ks) = (k, .arr es e false) :: u := by
  rw [fzU, h]; simp only; rw [h2]
end Go.Abs
namespace Go.Abs
section
variable {P : Program} {n : Nat} {os : Nat → Ob} {K : Exit → St → Prop} {s : Nat → V} {m : Nat → Ob}
theorem weak_fz {C : Cx} {i k : Nat} {es : List (List T)} {e : TypeId} (hs : s i = .ar k) (hm : m k = .arr es e true) : Weak P C n ⟨s, m⟩ ⟨upd s i (.t (.sl es)), upd m k (.arr es e false)⟩ := by
  rintro a w ⟨G, X, hM, hd, hsz, ht⟩
  replace hM : Mem P C m w G X := hM
  replace ht : ∀ t, t < n → V.Is G X (s t) (a.eval (.tmp t)) := ht
  cases hX : X k with
  | none => rw [(hM.free k).1 hX] at hm; cases hm
  | some x =>
    obtain ⟨G', hG, hM'⟩ := hM.freeze hm hX
    refine ⟨G', X, hM', hd, hsz, fun t htn => ?_⟩
    simp only [upd]
    split
    · rename_i hti
      subst hti
      have h1 := V.Is.mono hG (Xle.refl X) _ _ (ht t htn)
      rw [hs] at h1
      rw [V.Is]
      refine toT_is hM' (v := .ar k) (by simp [toT, upd]) ?_ h1
      intro j hj
      simp [fz] at hj; subst hj
      intro es' e' he
      simp [upd] at he
    · exact V.Is.mono hG (Xle.refl X) _ _ (ht t htn)
theorem d_weak {c : Code} {st st' : St} (hw : ∀ C, Weak P C n st st') (h : DWP P os n c K st') : DWP P os n c K st := by
  obtain ⟨e, s1, hk, h1⟩ := h
  exact ⟨e, s1, hk, fun C hC => awp_weak (hw C) (h1 C hC)⟩
theorem d_fz {c : Code} (i k : Nat) {es : List (List T)} {e : TypeId} (hs : s i = .ar k) (hm : m k = .arr es e true) (h : DWP P os n c K ⟨upd s i (.t (.sl es)), upd m k (.arr es e false)⟩) : DWP P os n c K ⟨s, m⟩ := d_weak (fun _ => weak_fz hs hm) h
theorem awp_fz {C : Cx} {c : Code} {Q : Exit → St → Prop} (i k : Nat) {es : List (List T)} {e : TypeId} (hs : s i = .ar k) (hm : m k = .arr es e true) (h : AWP P C n c Q ⟨upd s i (.t (.sl es)), upd m k (.arr es e false)⟩) : AWP P C n c Q ⟨s, m⟩ := awp_weak (weak_fz hs hm) h
end
/-- A row of whole numbers that a loop may have taken over from its caller. -/
def vSc (new : Bool) (l : List (List T)) (k : Nat) : V := bif new then .ar k else .t (.sl l)
def oSc (new : Bool) (l : List (List T)) (e : TypeId) : Ob := bif new then .arr l e true else .no
end Go.Abs
