/- The effect of every operation, in one function, and that the model does just this. -/
import Derived.Test.YtgicgbokgmmgdaaAbsI
set_option linter.unusedSimpArgs false
set_option linter.unusedVariables false
namespace Go.Abs

def acall (P : Program) (id : Nat) (E : Operand → V) (m : Nat → Ob) (b : Builtin) : List Operand → List TypeId → Option (V × List (Nat × Ob))
  | [x], [t] =>
    match b with
    | .len => match P.underlying t with
      | some .string => match E x with
        | .t (.sc (.str s)) => some (.t (.sc (.int .i64 s.size)), [])
        | _ => none
      | some (.slice _) => match lenV m (E x) with
        | some n => some (.t (.sc (.int .i64 n)), [])
        | none => none
      | _ => none
    | _ => none
  | [x, y], [t, t'] =>
    match b with
    | .append => if t = t' then aappend P id m t (E x) (E y) else none
    | .max => match E x, E y with
      | .t (.sc (.int k a)), .t (.sc (.int _ b)) => some (.t (.sc (.int k (if b > a then b else a))), [])
      | _, _ => none
    | _ => none
  | _, _ => none

def abuildSlice (P : Program) (id : Nat) (m : Nat → Ob) (t : TypeId) (n : Nat) (parts : List (Nat × V)) : Option (V × List (Nat × Ob)) :=
  match apOf P t with
  | some (e, _, sz) => match zrow P e with
    | some zt => if zt.length = sz ∧ n * sz ≤ 16777216 ∧ isNo (m id) = true ∧ id ∉ parts.flatMap (fun p => (vcells p.2).flatMap fz) then
        match arows m sz (List.replicate n zt) parts with
        | some fs => some (.ar id, fzU m (parts.flatMap (fun p => (vcells p.2).flatMap fz)) ++ [(id, .arr fs e true)])
        | none => none
      else none
    | none => none
  | none => none

def aslice (P : Program) (m : Nat → Ob) (t : TypeId) (v : V) (lo hi : Option V) : Option (V × List (Nat × Ob)) :=
  match P.underlying t with
  | some .string => match v with
    | .t (.sc (.str s)) => match bnd 0 lo, bnd s.size hi with
      | some l, some h => if l ≤ h ∧ h ≤ s.size then some (.t (.sc (.str (s.extract l h))), []) else none
      | _, _ => none
    | _ => none
  | some (.slice _) => match elOf P t, toT m v with
    | some (e, sz), some (.sl es) => match bnd 0 lo, bnd es.length hi with
      | some l, some h => if l ≤ h ∧ h ≤ es.length ∧ es.all (fun r => decide (r.length = sz)) = true then some (.t (.sl ((es.take h).drop l)), fzU m (fz v)) else none
      | _, _ => none
    | _, _ => none
  | _ => none

def aconvert (P : Program) (m : Nat → Ob) (src dst : TypeId) (v : V) : Option (V × List (Nat × Ob)) :=
  match P.underlying src, P.underlying dst with
  | some (.int _), some (.int k) => match v with
    | .t (.sc (.int _ n)) => some (.t (.sc (.int k (k.wrap n))), [])
    | _ => none
  | some (.slice e), some .string => match elOf P src, P.underlying e, toT m v with
    | some (_, 1), some (.int .u8), some (.sl es) => match ints es with
      | some ns => some (.t (.sc (.str (strOf ns))), fzU m (fz v))
      | none => none
    | _, _, _ => none
  | _, _ => none

def amake (P : Program) (id : Nat) (m : Nat → Ob) (t : TypeId) : V → V → Option (V × List (Nat × Ob))
  | .t (.sc (.int _ a)), .t (.sc (.int _ b)) => match apOf P t with
    | some (e, by', sz) => match zrow P e with
      | some zt => if a = b ∧ 0 ≤ a ∧ zt.length = sz ∧ a.toNat * by' ≤ 140737488355328 ∧ isNo (m id) = true then some (.ar id, [(id, .arr (List.replicate a.toNat zt) e true)]) else none
      | none => none
    | none => none
  | _, _ => none

/-- What an operation answers, and which objects it turns; id: the name of the object that it makes. -/
def aeff (P : Program) (id : Nat) (E : Operand → V) (m : Nat → Ob) : Op → Option (V × List (Nat × Ob))
  | .move x => some (E x, [])
  | .assign x => some (E x, [])
  | .pick c a b => match E c with
    | .t (.sc (.bool c)) => some (if c = true then E a else E b, [])
    | _ => none
  | .alloc t => match zcells P t with
    | some zs => if isNo (m id) = true then some (.rf id 0, [(id, .box zs)]) else none
    | none => none
  | .box _ x => if isNo (m id) = true ∧ boxable (E x) = true then some (.rf id 0, [(id, .box (vcells (E x)))]) else none
  | .build t parts => match zcells P t, placesOf P t with
    | some zs, some pl => match afill (pl[·]?) zs (parts.toList.map fun p => (p.1, E p.2)) with
      | some us => some (.ag us, [])
      | none => none
    | _, _ => none
  | .buildSlice t n parts => abuildSlice P id m t n (parts.toList.map fun p => (p.1, E p.2))
  | .load t a => match cellsAt m (E a) with
    | some cells => match takeT P t cells with
      | some v => some (v, [])
      | none => none
    | none => none
  | .store t a x => match astore P m t (E a) (E x) with
    | some u => some (.jk, u)
    | none => none
  | .nilCheck x => match E x with
    | .rf k o => some (.rf k o, [])
    | .pe cs => some (.pe cs, [])
    | .re k i sz o => some (.re k i sz o, [])
    | _ => none
  | .binOp op t x y _ => match E x, E y with
    | .sn b _, .nl => match P.underlying t, op with
      | some (.slice _), .eql => some (.t (.sc (.bool b)), [])
      | some (.slice _), .neq => some (.t (.sc (.bool (!b))), [])
      | _, _ => none
    | .t (.sc a), .t (.sc b) => match abin op a b with
      | some s => some (.t (.sc s), [])
      | none => match abool P op t a b with
        | some s => some (.t (.sc s), [])
        | none => none
    | _, _ => none
  | .unOp op _ x => match E x with
    | .t (.sc a) => match aun op a with
      | some s => some (.t (.sc s), [])
      | none => none
    | _ => none
  | .convert src dst x => aconvert P m src dst (E x)
  | .makeFunc (.func f) first captured => if first.size = 0 then some (.fn f (captured.toList.map E), []) else none
  | .makeSlice t x y => amake P id m t (E x) (E y)
  | .slice t x lo hi none => aslice P m t (E x) (lo.map E) (hi.map E)
  | .slice t x none (some hi) (some mx) => match elOf P t, lenV m (E x), E hi, E mx with
    | some _, some _, .t (.sc (.int _ a)), .t (.sc (.int _ b)) => if a = 0 ∧ b = 0 then some (.ze, []) else none
    | _, _, _, _ => none
  | .fieldAddr s x f => match fldOf P s f with
    | some (off, _) => match fieldP off (E x) with
      | some v => some (v, [])
      | none => none
    | none => none
  | .field s x f => match fldOf P s f, E x with
    | some (off, ft), .ag cs => match takeT P ft (cs.drop off) with
      | some v => some (v, [])
      | none => none
    | _, _ => none
  | .indexAddr t x i => match elOf P t, E i with
    | some (_, sz), .t (.sc (.int _ i)) => if 0 ≤ i then match indexP m sz i.toNat (E x) with
        | some v => some (v, [])
        | none => none
      else none
    | _, _ => none
  | .index t x i => match P.underlying t, E x, E i with
    | some .string, .t (.sc (.str s)), .t (.sc (.int _ i)) => if 0 ≤ i ∧ i < s.size then some (.t (.sc (.int .u8 (byteAt s i.toNat).toNat)), []) else none
    | _, _, _ => none
  | .extract x i => match E x with
    | .tp vs => match vs[i]? with
      | some v => some (v, [])
      | none => none
    | _ => none
  | .call c => match c.callee with
    | .builtin b => acall P id E m b c.args.toList c.argTypes.toList
    | _ => none
  | _ => none

section ops
variable {P : Program} {C : Cx} {m : Nat → Ob} {w : World} {G : Im} {X : Xm}

theorem did_acall (hM : Mem P C m w G X) {id : Nat} {E : Operand → V} {ρ : Operand → Value} (hE : ∀ x, V.Is G X (E x) (ρ x)) {o : Oper} {c : Call} {b : Builtin} (hc : c.callee = .builtin b) (ho : o.op = .call c) {v : V} {ups : List (Nat × Ob)}
    (h : acall P id E m b c.args.toList c.argTypes.toList = some (v, ups)) : Did P C m G X ((execOp ρ o).run P w) v ups := by
  obtain ⟨cal, args, tys⟩ := c
  obtain ⟨args⟩ := args
  obtain ⟨tys⟩ := tys
  simp only at hc h
  subst hc
  unfold acall at h
  split at h
  · rename_i x t
    cases b <;> simp at h
    cases hu : P.underlying t with
    | none => rw [hu] at h; simp at h
    | some d =>
      rw [hu] at h
      cases d <;> simp at h
      · split at h
        · rename_i s hs
          simp at h; obtain ⟨rfl, rfl⟩ := h
          have hx := hE x
          rw [hs, V.Is, T.Is] at hx
          exact did_len_str hM hu ho hx
        · cases h
      · split at h
        · rename_i n hn
          simp at h; obtain ⟨rfl, rfl⟩ := h
          exact did_len hM hu hn ho (hE x)
        · cases h
  · rename_i x y t t'
    cases b <;> simp at h
    · obtain ⟨rfl, h⟩ := h
      unfold aappend at h
      split at h
      · rename_i e by' sz fs hap hfs
        split at h
        · rename_i hc
          obtain ⟨hall, hid, hid2, hf1, hf2⟩ := hc
          have hrow : ∀ r ∈ fs, r.length = sz := by simpa using hall
          split at h
          · rename_i k hk
            have hx := hE x
            rw [hk] at hx
            split at h
            · rename_i es e' md hm
              split at h
              · rename_i hb
                obtain ⟨rfl, hb⟩ := hb
                simp at h; obtain ⟨rfl, rfl⟩ := h
                exact did_append hM (isNo_eq hid) hap hfs hm (by rw [keep_fzU _ _ _ hf1]; exact isNo_eq hid) hrow hb ho hx (hE y)
              · cases h
            · cases h
          · rename_i hk
            have hx := hE x
            rw [hk] at hx
            split at h
            · rename_i hb
              simp at h; obtain ⟨rfl, rfl⟩ := h
              exact did_append_ze hM hap hfs hrow hb ho hx (hE y)
            · cases h
          · rename_i hk
            have hx := hE x
            rw [hk] at hx
            split at h
            · rename_i hb
              simp at h; obtain ⟨rfl, rfl⟩ := h
              exact did_append_nil hM (isNo_eq hid) (isNo_eq hid2) hap hfs hrow hb (fun k hk => ⟨fun e => hf1 (e ▸ hk), fun e => hf2 (e ▸ hk)⟩) ho hx (hE y)
            · cases h
          · cases h
        · cases h
      · cases h
    · split at h
      · rename_i k a k' b ha hb
        simp at h; obtain ⟨rfl, rfl⟩ := h
        have hx := hE x
        have hy := hE y
        rw [ha, V.Is, T.Is] at hx
        rw [hb, V.Is, T.Is] at hy
        have : (execOp ρ o).run P w = .ok (.value (.int k (if b > a then b else a))) w := by
          simp [execOp, ho, resolve, invoke, builtin, Builtin.max_, hx, hy, S.v, Builtin.max2]
        rw [this]
        exact did_value hM (by rw [V.Is, T.Is]; rfl)
      · cases h
  · cases h

theorem did_astore (hM : Mem P C m w G X) {E : Operand → V} {ρ : Operand → Value} (hE : ∀ x, V.Is G X (E x) (ρ x)) {o : Oper} {t : TypeId} {p x : Operand} (ho : o.op = .store t p x) {u : List (Nat × Ob)} (h : astore P m t (E p) (E x) = some u) :
    Did P C m G X ((execOp ρ o).run P w) .jk u := by
  unfold astore at h
  split at h
  · rename_i hc
    obtain ⟨hone, hsz⟩ := hc
    have hp := hE p
    split at h
    · rename_i k off hk
      rw [hk] at hp
      split at h
      · rename_i cs hm
        split at h
        · rename_i hfit
          simp at h; subst h
          exact did_store_box hM hm ho hp (hE x) hone hsz hfit
        · cases h
      · cases h
    · rename_i k i sz off hk
      rw [hk] at hp
      split at h
      · rename_i es e hm
        split at h
        · rename_i r ts hr hts
          split at h
          · rename_i hc
            obtain ⟨h1, h2, h3, h4⟩ := hc
            simp at h; subst h
            exact did_store_arr hM hm ho hp (hE x) hone hsz hr h1 h2 h3 hts h4
          · cases h
        · cases h
      · cases h
    · cases h
  · cases h

theorem aeff_sound (hM : Mem P C m w G X) {id : Nat} {E : Operand → V} {ρ : Operand → Value} (hE : ∀ x, V.Is G X (E x) (ρ x)) {o : Oper} {v : V} {ups : List (Nat × Ob)} (h : aeff P id E m o.op = some (v, ups)) :
    Did P C m G X ((execOp ρ o).run P w) v ups := by
  cases hop : o.op <;> rw [hop] at h <;> try (simp [aeff] at h; done)
  case move x =>
    simp [aeff] at h; obtain ⟨rfl, rfl⟩ := h
    rw [show (execOp ρ o).run P w = .ok (.value (ρ x)) w by simp [execOp, hop]]
    exact did_value hM (hE x)
  case assign x =>
    simp [aeff] at h; obtain ⟨rfl, rfl⟩ := h
    rw [show (execOp ρ o).run P w = .ok (.value (ρ x)) w by simp [execOp, hop]]
    exact did_value hM (hE x)
  case pick c a b =>
    simp only [aeff] at h
    split at h
    · rename_i c' hc
      simp only [Option.some.injEq, Prod.mk.injEq] at h; obtain ⟨rfl, rfl⟩ := h
      have hx := hE c
      rw [hc, V.Is, T.Is] at hx
      rw [show (execOp ρ o).run P w = .ok (.value (if c' = true then ρ a else ρ b)) w by simp [execOp, hop, hx, S.v, asBool]]
      refine did_value hM ?_
      split
      · exact hE a
      · exact hE b
    · cases h
  case alloc t =>
    simp only [aeff] at h
    split at h
    · rename_i zs hz
      split at h
      · rename_i hid; simp at h; obtain ⟨rfl, rfl⟩ := h; exact did_alloc hM (isNo_eq hid) hz hop
      · cases h
    · cases h
  case box t x =>
    simp only [aeff] at h
    split at h
    · rename_i hc; simp at h; obtain ⟨rfl, rfl⟩ := h; exact did_box hM (isNo_eq hc.1) hop (hE x) hc.2
    · cases h
  case build t parts =>
    simp only [aeff] at h
    split at h
    · rename_i zs pl hz hpl
      split at h
      · rename_i us hf; simp at h; obtain ⟨rfl, rfl⟩ := h; exact did_build hM hz hpl hf hop hE
      · cases h
    · cases h
  case buildSlice t n parts =>
    simp only [aeff, abuildSlice] at h
    split at h
    · rename_i e by' sz hap
      split at h
      · rename_i zt hz
        split at h
        · rename_i hc
          obtain ⟨h1, h2, h3, h4⟩ := hc
          split at h
          · rename_i fs hf; simp only [Option.some.injEq, Prod.mk.injEq] at h; obtain ⟨rfl, rfl⟩ := h
            exact did_buildSlice hM (isNo_eq h3) hap hz h1 h2 hf h4 hop hE
          · cases h
        · cases h
      · cases h
    · cases h
  case load t a =>
    simp only [aeff] at h
    split at h
    · rename_i cells hc
      split at h
      · rename_i v' hv; simp at h; obtain ⟨rfl, rfl⟩ := h; exact did_load hM hc hv hop (hE a)
      · cases h
    · cases h
  case store t a x =>
    simp only [aeff] at h
    split at h
    · rename_i u hu; simp at h; obtain ⟨rfl, rfl⟩ := h; exact did_astore hM hE hop hu
    · cases h
  case nilCheck x =>
    simp only [aeff] at h
    have hx := hE x
    split at h
    · rename_i k off hk
      simp at h; obtain ⟨rfl, rfl⟩ := h
      rw [hk] at hx
      have hx2 := hx
      rw [V.Is] at hx2
      obtain ⟨b, _, hb⟩ := hx2
      rw [show (execOp ρ o).run P w = .ok (.value (ρ x)) w by simp [execOp, hop, hb]]
      exact did_value hM hx
    · rename_i cs hk
      simp at h; obtain ⟨rfl, rfl⟩ := h
      rw [hk] at hx
      have hx2 := hx
      rw [V.Is] at hx2
      obtain ⟨b, off, row, hb, _⟩ := hx2
      rw [show (execOp ρ o).run P w = .ok (.value (ρ x)) w by simp [execOp, hop, hb]]
      exact did_value hM hx
    · rename_i k i sz off hk
      simp at h; obtain ⟨rfl, rfl⟩ := h
      rw [hk] at hx
      have hx2 := hx
      rw [V.Is] at hx2
      obtain ⟨b, n, c, _, hb⟩ := hx2
      rw [show (execOp ρ o).run P w = .ok (.value (ρ x)) w by simp [execOp, hop, hb]]
      exact did_value hM hx
    · cases h
  case binOp op xt x y yt =>
    simp only [aeff] at h
    split at h
    · rename_i b yy ha hb
      have hx := hE x
      have hy := hE y
      rw [ha, V.Is] at hx
      rw [hb, V.Is] at hy
      obtain ⟨_, A, nn, cc, hx, hA⟩ := hx
      have key : ∀ el, P.underlying xt = some (.slice el) → (Op.equal xt (.slice A nn cc) (.slice none 0 0)).run P w = .ok b w := fun el hu => by
        have : ∀ d : Nat, (Op.equalIn (d + 1) xt (.slice A nn cc) (.slice none 0 0)).run P w = .ok b w := fun d => by
          cases A <;> simp [Op.equalIn, run_underlying hu] <;> simpa using hA
        exact this 9999
      split at h
      · rename_i el hu
        simp only [Option.some.injEq, Prod.mk.injEq] at h; obtain ⟨rfl, rfl⟩ := h
        rw [show (execOp ρ o).run P w = .ok (.value (.bool b)) w by simp [execOp, hop, hx, hy, eqGuard, binOp, key el hu]]
        exact did_value hM (by rw [V.Is, T.Is]; rfl)
      · rename_i el hu
        simp only [Option.some.injEq, Prod.mk.injEq] at h; obtain ⟨rfl, rfl⟩ := h
        rw [show (execOp ρ o).run P w = .ok (.value (.bool (!b))) w by simp [execOp, hop, hx, hy, eqGuard, binOp, key el hu]]
        exact did_value hM (by rw [V.Is, T.Is]; rfl)
      · cases h
    · rename_i a b ha hb
      split at h
      · rename_i s hs
        simp at h; obtain ⟨rfl, rfl⟩ := h
        have hx := hE x
        have hy := hE y
        rw [ha, V.Is, T.Is] at hx
        rw [hb, V.Is, T.Is] at hy
        have hr := abin_sound (P := P) hs xt x y w
        rw [show (execOp ρ o).run P w = .ok (.value s.v) w by simp only [execOp, hop, hx, hy, Sem.run_bind, Result.andThen] at hr ⊢; rw [hr]; rfl]
        exact did_value hM (by rw [V.Is, T.Is])
      · split at h
        · rename_i s hs
          simp at h; obtain ⟨rfl, rfl⟩ := h
          have hx := hE x
          have hy := hE y
          rw [ha, V.Is, T.Is] at hx
          rw [hb, V.Is, T.Is] at hy
          have hr := abool_sound (P := P) hs x y w
          rw [show (execOp ρ o).run P w = .ok (.value s.v) w by simp only [execOp, hop, hx, hy, Sem.run_bind, Result.andThen] at hr ⊢; rw [hr]; rfl]
          exact did_value hM (by rw [V.Is, T.Is])
        · cases h
    · cases h
  case unOp op xt x =>
    simp only [aeff] at h
    split at h
    · rename_i a ha
      split at h
      · rename_i s hs
        simp at h; obtain ⟨rfl, rfl⟩ := h
        have hx := hE x
        rw [ha, V.Is, T.Is] at hx
        rw [show (execOp ρ o).run P w = .ok (.value s.v) w by simp [execOp, hop, hx, aun_sound hs]]
        exact did_value hM (by rw [V.Is, T.Is])
      · cases h
    · cases h
  case convert src dst x =>
    simp only [aeff, aconvert] at h
    split at h
    · rename_i k0 k hs hd
      split at h
      · rename_i k1 n hn
        simp at h; obtain ⟨rfl, rfl⟩ := h
        have hx := hE x
        rw [hn, V.Is, T.Is] at hx
        rw [show (execOp ρ o).run P w = .ok (.value (.int k (k.wrap n))) w by simp [execOp, hop, hx, convert, run_underlying hs, run_underlying hd, S.v, Conv.intToInt]]
        exact did_value hM (by rw [V.Is, T.Is]; rfl)
      · cases h
    · rename_i e hs hd
      split at h
      · rename_i e2 es hel hu8 hT
        split at h
        · rename_i ns hns
          simp at h; obtain ⟨rfl, rfl⟩ := h
          obtain ⟨h3, _⟩ := elOf_spec hel
          rw [hs] at h3; cases h3
          exact did_bytes_str (sz := 1) hM hel hu8 hd hT hns hop (hE x)
        · cases h
      · cases h
    · cases h
  case makeFunc fn first captured =>
    cases fn <;> try (simp [aeff] at h; done)
    rename_i f
    simp only [aeff] at h
    split at h
    · rename_i h0
      simp at h; obtain ⟨rfl, rfl⟩ := h
      have hf0 : first = #[] := Array.eq_empty_of_size_eq_zero h0
      subst hf0
      rw [show (execOp ρ o).run P w = .ok (.value (.func (.func f) #[] (captured.map ρ))) w by simp [execOp, hop, Instr.makeFunc]]
      refine did_value hM ?_
      rw [V.Is]
      refine ⟨captured.map ρ, rfl, V.IsL.of_get (by simp) fun j v hj => ?_⟩
      rw [List.getElem?_map] at hj
      cases hq : captured.toList[j]? with
      | none => rw [hq] at hj; simp at hj
      | some y => rw [hq] at hj; simp at hj; subst hj; exact ⟨ρ y, by simp at hq ⊢; exact ⟨y, hq, rfl⟩, hE y⟩
    · cases h
  case makeSlice t x y =>
    simp only [aeff] at h
    unfold amake at h
    split at h
    · rename_i k a k' b ha hb
      split at h
      · rename_i e by' sz hap
        split at h
        · rename_i zt hz
          split at h
          · rename_i hc
            obtain ⟨rfl, h0, h1, h2, h3⟩ := hc
            simp at h; obtain ⟨rfl, rfl⟩ := h
            have hx := hE x
            have hy := hE y
            rw [ha, V.Is, T.Is] at hx
            rw [hb, V.Is, T.Is] at hy
            have e1 : (a.toNat : Int) = a := by omega
            exact did_makeSlice hM (isNo_eq h3) hap hz h1 (k := k) (k' := k') h2 hop (by rw [hx, e1]; rfl) (by rw [hy, e1]; rfl)
          · cases h
        · cases h
      · cases h
    · cases h
  case slice t x lo hi mx =>
    cases mx with
    | some mx =>
      cases lo with
      | some _ => simp [aeff] at h
      | none =>
        cases hi with
        | none => simp [aeff] at h
        | some hi =>
          simp only [aeff] at h
          split at h
          · rename_i el n k1 a k2 b hel hln hhi hmx
            split at h
            · rename_i hab
              obtain ⟨rfl, rfl⟩ := hab
              simp only [Option.some.injEq, Prod.mk.injEq] at h; obtain ⟨rfl, rfl⟩ := h
              obtain ⟨e, sz⟩ := el
              exact did_slice0 hM hel hE hop hln hhi hmx
            · cases h
          · cases h
    | none =>
      simp only [aeff, aslice] at h
      split at h
      · rename_i hu
        split at h
        · rename_i s hs
          split at h
          · rename_i l hh hl hhh
            split at h
            · rename_i hc
              simp at h; obtain ⟨rfl, rfl⟩ := h
              have hx := hE x
              rw [hs, V.Is, T.Is] at hx
              exact did_slice_str hM hu hE hop hx hl hhh hc.1 hc.2
            · cases h
          · cases h
        · cases h
      · rename_i e hu
        split at h
        · rename_i e2 sz es hel hT
          split at h
          · rename_i l hh hl hhh
            split at h
            · rename_i hc
              simp only [Option.some.injEq, Prod.mk.injEq] at h; obtain ⟨rfl, rfl⟩ := h
              exact did_slice hM hel hE hop hT (by simpa using hc.2.2) hl hhh hc.1 hc.2.1
            · cases h
          · cases h
        · cases h
      · cases h
  case fieldAddr s x f =>
    simp only [aeff] at h
    split at h
    · rename_i off ft hf
      split at h
      · rename_i v' hv; simp at h; obtain ⟨rfl, rfl⟩ := h; exact did_fieldAddr hM hf hv hop (hE x)
      · cases h
    · cases h
  case field s x f =>
    simp only [aeff] at h
    split at h
    · rename_i off ft cs hf hcs
      split at h
      · rename_i v' hv; simp at h; obtain ⟨rfl, rfl⟩ := h
        have hx := hE x
        rw [hcs] at hx
        exact did_field hM hf hv hop hx
      · cases h
    · cases h
  case indexAddr t x i =>
    simp only [aeff] at h
    split at h
    · rename_i e sz k n hel hn
      split at h
      · rename_i h0
        split at h
        · rename_i v' hv; simp at h; obtain ⟨rfl, rfl⟩ := h
          have hi := hE i
          rw [hn, V.Is, T.Is] at hi
          exact did_indexAddr hM hel h0 hv hop (hE x) hi
        · cases h
      · cases h
    · cases h
  case index t x i =>
    simp only [aeff] at h
    split at h
    · rename_i s k n hu hs hn
      split at h
      · rename_i hc; simp at h; obtain ⟨rfl, rfl⟩ := h
        have hx := hE x
        have hi := hE i
        rw [hs, V.Is, T.Is] at hx
        rw [hn, V.Is, T.Is] at hi
        exact did_index_str hM hu hc.1 hc.2 hop hx hi
      · cases h
    · cases h
  case extract x i =>
    simp only [aeff] at h
    split at h
    · rename_i vs hvs
      split at h
      · rename_i v' hv; simp at h; obtain ⟨rfl, rfl⟩ := h
        have hx := hE x
        rw [hvs, V.Is] at hx
        obtain ⟨xs, hxx, hl⟩ := hx
        obtain ⟨y, hy, hi⟩ := hl.get i v' hv
        simp at hy
        rw [show (execOp ρ o).run P w = .ok (.value y) w by simp [execOp, hop, Instr.extract, hxx, hy]]
        exact did_value hM hi
      · cases h
    · cases h
  case call c =>
    simp only [aeff] at h
    split at h
    · rename_i b hb; exact did_acall hM hE hb hop h
    · cases h
end ops
end Go.Abs
