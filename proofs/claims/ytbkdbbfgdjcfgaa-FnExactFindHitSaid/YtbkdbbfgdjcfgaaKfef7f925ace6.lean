/- A part of the proof: what the functions that the law calls answer, as pure values. -/
import Derived.Test.YtbkdbbfgdjcfgaaK69d18407424d
import Derived.Test.YtbkdbbfgdjcfgaaK85a8d2422f81
import Derived.Test.YtbkdbbfgdjcfgaaKe767321a63d3
import Derived.Test.YtbkdbbfgdjcfgaaKfd1ac0d337e1
set_option linter.unusedSimpArgs false
set_option linter.unusedVariables false
section
set_option linter.unusedVariables false
set_option linter.unusedSimpArgs false
namespace Go.Abs
def HitD : Nat → Hit → Prop
  | 0, h => h.depth = 0 ∧ h.one.valid = true ∧ h.many = []
  | d + 1, h => h.depth = (d : Int) + 1 ∧ h.one = form0 ∧ h.many.length ≤ 400 ∧ ∀ x ∈ h.many, x.name = h.name ∧ HitD d x
def nameG (f : Form) : Bool := isNm f && (!decide (f.name = dotsN) && !decide (f.name = underN))
theorem HitD.depth {d : Nat} {h : Hit} (hd : HitD d h) : h.depth = (d : Int) := by
  cases d with
  | zero => exact hd.1
  | succ d => rw [hd.1]; omega
theorem HitD.isOk : ∀ (d : Nat) (h : Hit), d ≤ 3 → HitD d h → nameG h.name = true → h.isOk = true
  | 0, h, hd, hh, hn => by
    obtain ⟨h1, h2, h3⟩ := hh
    unfold nameG at hn
    simp only [Bool.and_eq_true] at hn
    rw [Hit.isOk_eq, hn.1, hn.2.1, hn.2.2, h1, h2, h3]; rfl
  | d + 1, h, hd, hh, hn => by
    obtain ⟨h1, h2, h3, h4⟩ := hh
    have hn0 := hn
    unfold nameG at hn
    simp only [Bool.and_eq_true] at hn
    rw [Hit.isOk_eq, hn.1, hn.2.1, hn.2.2, h1, h2, same_self, decide_eq_false (show ¬ (d : Int) + 1 = 0 by omega), decide_eq_true (show (0 : Int) ≤ (d : Int) + 1 by omega), decide_eq_true (show (d : Int) + 1 ≤ 3 by omega), decide_eq_true (show (h.many.length : Int) ≤ 400 by omega)]
    simp only [Bool.true_and, cond_false]
    rw [alls_iff]
    intro x hx
    obtain ⟨e1, e2⟩ := h4 x hx
    rw [e1, same_self, e2.depth, decide_eq_true (show (d : Int) = (d : Int) + 1 - 1 by omega), HitD.isOk d x (by omega) e2 (by rw [e1]; exact hn0)]
    rfl
end Go.Abs
end
section
set_option linter.unusedVariables false
set_option linter.unusedSimpArgs false
namespace Go.Abs
def oR (o : Option (List Hit)) : List Hit × Bool := (o.getD [], o.isSome)
structure MatS (bs : List Bind) (lits : List Form) (P F : Form) : Prop where
  kid : ∀ x ∈ P.kids, KidS x
  ih : ∀ x ∈ P.kids, isDots x = false → ∀ f ∈ F.kids, Tr (fun m => m_impl_match m bs x lits f) (oR (x.mt bs lits f))
  wp : Form.ws P.kids ≤ 2 ^ 17
  wf : Form.ws F.kids ≤ 2 ^ 17
section
variable {bs : List Bind} {lits : List Form} {P F : Form}
structure RowS (P F : Form) (xs : List Form) (pr dd : Form) (tail : List Form) : Prop where
  eq : P.kids = xs ++ pr :: dd :: tail
  pre : ∀ x ∈ xs, isDots x = false
  row : isDots pr = false
  dots : isDots dd = true
  post : ∀ x ∈ tail, isDots x = false
  len : xs.length + tail.length ≤ F.kids.length
def RowS.many (F : Form) (xs tail : List Form) : Nat := F.kids.length - (xs.length + tail.length)
variable {xs tail : List Form} {pr dd : Form}
theorem RowS.plen (hR : RowS P F xs pr dd tail) : P.kids.length = xs.length + 2 + tail.length := by rw [hR.eq]; simp; omega
theorem RowS.lens (hS : MatS bs lits P F) (hR : RowS P F xs pr dd tail) : P.kids.length ≤ 2 ^ 17 ∧ F.kids.length ≤ 2 ^ 17 := ⟨Nat.le_trans (Form.ws_len _) hS.wp, Nat.le_trans (Form.ws_len _) hS.wf⟩
theorem RowS.row_eq (hS : MatS bs lits P F) (hR : RowS P F xs pr dd tail) : w64 ((((xs.length + 1 : Nat) : Int)) - 1) = ((xs.length : Nat) : Int) := by
  have h1 := RowS.lens hS hR
  have h2 := hR.plen
  rw [w64_in (by omega)]; omega
end
end Go.Abs
end
section
set_option linter.unusedVariables false
set_option linter.unusedSimpArgs false
namespace Go.Abs
theorem PatS.kind {p : Form} (h : PatS p) (h1 : ¬ p.kind = 1) (h2 : ¬ p.kind = 2) : p.kind = 3 := by
  obtain ⟨d, hd⟩ := h.ok
  rw [Form.isOk_eq] at hd
  cases hd0 : decide (d = 0) with
  | true => rw [hd0] at hd; cases hd
  | false =>
    rw [hd0, cond_false, decide_eq_false h1, cond_false, decide_eq_false h2, cond_false, Bool.and_eq_true, decide_eq_true_eq] at hd
    exact hd.1
theorem cnt_eq (f : Form) : f.cnt = 1 + Form.cnts f.kids := by obtain ⟨a, b, c, d, e⟩ := f; rw [Form.cnt]; rfl
end Go.Abs
end
section
set_option linter.unusedVariables false
set_option linter.unusedSimpArgs false
namespace Go.Abs
theorem eqForm_self (f : Form) : Tr (fun m => m_laws_eqForm m f f) true := by have := eqForm_tr f f; rwa [same_self] at this
end Go.Abs
end
section
set_option linter.unusedVariables false
set_option linter.unusedSimpArgs false
namespace Go.Abs
theorem eqHit_tr (a b : Hit) : Tr (fun m => m_laws_eqHit m a b) (same a b) := eqHit_n _ a b (Nat.le_refl _)
theorem eqHit_self (a : Hit) : Tr (fun m => m_laws_eqHit m a a) true := by have := eqHit_tr a a; rwa [same_self] at this
theorem eqHitS_self (a : List Hit) : Tr (fun m => m_laws_eqHitS m a a) true := by have := eqHitS_tr a a; rwa [same_self] at this
theorem findH_w (l : List Hit) (f : Form) : (findH l f).1.w ≤ Hit.ws l + 3 := by
  rcases findH_cases l f with ⟨h, _⟩ | ⟨_, i, x, _, h2, h3, _⟩
  · rw [h]; exact Nat.le_trans (by decide : hit0.w ≤ 3) (by omega)
  · rw [h3]
    have := Hit.ws_mem (List.mem_of_getElem? h2)
    show x.w ≤ _; omega
theorem FnExactFindHit_law (l : List Hit) (f : Form) (hll : l.length ≤ 9223372036854775807) (hl : Hit.fits l) (hf : f.fit) : TQ (fun m => m_laws_FnExactFindHit m l f) (fun r => r = true) := by
  refine TQ.eq (fun m => by unfold m_laws_FnExactFindHit; rfl) (TQ.bind (szHitS_tq l 1048576 hll hl (by omega) (by omega)) (fun v hv => ?_))
  rcases hv with rfl | ⟨h0, rfl⟩
  · exact TQ.cond (fun _ => TQ.val rfl) (fun h => absurd h (by decide))
  refine TQ.cond (fun h => absurd h (by rw [geZ h0]; decide)) (fun _ => TQ.bind (szForm_tq f _ hf h0 (by omega)) (fun v hv => ?_))
  rcases hv with rfl | ⟨h1, rfl⟩
  · exact TQ.cond (fun _ => TQ.val rfl) (fun h => absurd h (by decide))
  refine TQ.cond (fun h => absurd h (by rw [geZ h1]; decide)) (fun _ => ?_)
  have hw := f.w_wt
  have hws := Hit.ws_wts l
  have hb : f.w ≤ 2 ^ 36 := by omega
  have hlb : Hit.ws l ≤ 2 ^ 36 := by omega
  have hr := findH_w l f
  refine ⟨true, ?_, rfl⟩
  obtain ⟨v1, ms, m1, m2, m3, m4⟩ := mhHits l 1 (by omega) (by omega)
  obtain ⟨v2, a, b, n1, n2, n3, n4⟩ := mhForm f v1 (by omega) (by omega)
  obtain ⟨v, p1, p2, p3, p4, p5, a1, a2, a3, a4⟩ := mhHit (findH l f).1 1 (by omega) (by omega)
  have tl := toHitS_tr l hlb
  have tf := toForm_tr f hb
  have ti := implFindHit_tr l f hl hlb
  have eh := eqHit_self (findH l f).1
  refine Tr.bind tl (Tr.bind tf (Tr.bind (specFindHit_tr l f hl hlb) (Tr.bind tl (Tr.bind tf (Tr.bind ti (Tr.bind eh (Tr.ff rfl ?_)))))))
  refine Tr.eq (fun m => by rw [mk_ne_self_f]) ?_
  refine Tr.step (fun m => by rw [m_laws_FnExactFindHit_j1]) ?_
  refine Tr.ff rfl ?_
  refine Tr.bind tl (Tr.bind (eqHitS_self l) (Tr.ff rfl (Tr.bind tf (Tr.bind (eqForm_self f) (Tr.ff rfl (Tr.bind m1 (Tr.bind n1 (Tr.ff (mk_not_neg (by show 0 ≤ v2; omega)) (Tr.bind eh (Tr.ff rfl ?_))))))))))
  refine Tr.eq (fun m => by rw [mk_ne_self_f]) ?_
  refine Tr.step (fun m => by rw [m_laws_FnExactFindHit_j2]) ?_
  refine Tr.ff rfl ?_
  refine Tr.bind a1 (Tr.bind (a4 _ _ _ _ _ _ _) (Tr.ff (mk_not_neg (by omega)) (Tr.ff (mk_ne_self_f v) ?_)))
  refine Tr.bind tl (Tr.bind tf (Tr.bind ti (Tr.bind eh (Tr.ff rfl ?_))))
  refine Tr.eq (fun m => by rw [mk_ne_self_f]) ?_
  refine Tr.step (fun m => by rw [m_laws_FnExactFindHit_j3]) ?_
  refine Tr.ff rfl ?_
  exact Tr.bind (a4 _ _ _ _ _ _ _) (Tr.ff (mk_not_neg (by omega)) (Tr.ff (mk_ne_self_f v) Tr.val))
end Go.Abs
end
