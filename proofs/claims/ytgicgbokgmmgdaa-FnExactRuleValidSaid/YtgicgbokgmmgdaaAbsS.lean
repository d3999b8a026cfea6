/- The values that the laws speak of, and what they weigh. -/
import Derived.Test.YtgicgbokgmmgdaaAbsR
set_option linter.unusedVariables false
set_option linter.unusedSimpArgs false
namespace Go.Abs
abbrev vi (n : Int) : V := .t (.sc (.int .i64 n))
abbrev vb (b : Bool) : V := .t (.sc (.bool b))
abbrev ti (n : Int) : T := .sc (.int .i64 n)
abbrev tstr (s : ByteArray) : T := .sc (.str s)
abbrev ints64 (l : List Int) : T := .sl (l.map fun n => [ti n])
def S.wt : S → Nat
  | .str b => b.size
  | .int _ _ => 0
  | .bool _ => 0
  | .nip => 0
  | .nii => 0
  | .nif => 0
  | .nim => 0
def S.ok : S → Prop
  | .str b => b.size ≤ 2 ^ 63 - 1
  | .int k n => (Lit.int k n).wf = true
  | .bool _ => True
  | .nip => True
  | .nii => True
  | .nif => True
  | .nim => True
mutual
def T.wt : T → Nat
  | .sc s => s.wt
  | .sl es => es.length + T.wtR es
def T.wtL : List T → Nat
  | [] => 0
  | t :: ts => t.wt + T.wtL ts
def T.wtR : List (List T) → Nat
  | [] => 0
  | r :: rs => T.wtL r + T.wtR rs
end
mutual
def T.ok : T → Prop
  | .sc s => s.ok
  | .sl es => es.length ≤ 2 ^ 63 - 1 ∧ T.okR es
def T.okL : List T → Prop
  | [] => True
  | t :: ts => t.ok ∧ T.okL ts
def T.okR : List (List T) → Prop
  | [] => True
  | r :: rs => T.okL r ∧ T.okR rs
end
theorem T.okR_mem : ∀ {l : List (List T)} {r : List T}, T.okR l → r ∈ l → T.okL r
  | x :: xs, r, h, hm => by
    rw [T.okR] at h
    rcases List.mem_cons.1 hm with rfl | hm
    · exact h.1
    · exact T.okR_mem h.2 hm
theorem T.wtR_append (a b : List (List T)) : T.wtR (a ++ b) = T.wtR a + T.wtR b := by
  induction a with
  | nil => simp [T.wtR]
  | cons x a ih => simp [T.wtR, ih]; omega
theorem T.wtR_succ {α : Type} (row : α → List T) (l : List α) (j : Nat) (h : j < l.length) : T.wtR ((l.take (j + 1)).map row) = T.wtR ((l.take j).map row) + T.wtL (row l[j]) := by
  rw [List.take_succ_eq_append_getElem h, List.map_append, T.wtR_append]; simp [T.wtR]
theorem T.wtR_le {α : Type} (row : α → List T) (l : List α) (j : Nat) : T.wtR ((l.take j).map row) ≤ T.wtR (l.map row) := by
  have := T.wtR_append ((l.take j).map row) ((l.drop j).map row)
  rw [← List.map_append, List.take_append_drop] at this; omega
theorem T.wtR_ints (l : List Int) : T.wtR (l.map fun n => [ti n]) = 0 := by
  induction l with
  | nil => rfl
  | cons x l ih => simp [T.wtR, T.wtL, T.wt, S.wt, ih]
def szr (w : Nat) (left : Int) : Int := if (w : Int) ≤ left then left - w else -1
theorem szr_pos {w : Nat} {left : Int} (h : (w : Int) ≤ left) : szr w left = left - w := if_pos h
theorem szr_neg {w : Nat} {left : Int} (h : left < (w : Int)) : szr w left = -1 := if_neg (by omega)
theorem map_get {α : Type} (row : α → List T) (l : List α) (j : Nat) (h : j < l.length) : (l.map row)[((j : Int)).toNat]? = some (row l[j]) := by simp [h]
open Classical in
noncomputable def eqb {α : Type} (a b : α) : Bool := decide (a = b)
theorem eqb_iff {α : Type} (a b : α) : (eqb a b = true) ↔ a = b := by simp [eqb]
theorem eqb_not {α : Type} (a b : α) : (eqb a b = false) ↔ a ≠ b := by simp [eqb]
theorem eqb_self {α : Type} (a : α) : eqb a a = true := by simp [eqb]
def mid {α : Type} (row : α → List T) (z : List T) (l : List α) (j : Nat) : List (List T) := (l.take j).map row ++ List.replicate (l.length - j) z
theorem mid_len {α : Type} (row : α → List T) (z : List T) (l : List α) (j : Nat) (h : j ≤ l.length) : (mid row z l j).length = l.length := by simp [mid]; omega
theorem mid_zero {α : Type} (row : α → List T) (z : List T) (l : List α) : mid row z l 0 = List.replicate l.length z := by simp [mid]
theorem mid_all {α : Type} (row : α → List T) (z : List T) (l : List α) : mid row z l l.length = l.map row := by simp [mid]
theorem mid_lt {α : Type} (row : α → List T) (z : List T) (l : List α) (j : Nat) (h : j < l.length) : (((j : Int)).toNat < (mid row z l j).length) = True := by rw [mid_len _ _ _ _ (by omega)]; simp [h]
theorem mid_get {α : Type} (row : α → List T) (z : List T) (l : List α) (j : Nat) (h : j < l.length) : (mid row z l j)[((j : Int)).toNat]? = some z := by
  have h1 : ((l.take j).map row).length = j := by simp; omega
  rw [Int.toNat_natCast, mid, List.getElem?_append_right (by omega), h1, Nat.sub_self, List.getElem?_replicate, if_pos (by omega)]
theorem mid_set {α : Type} (row : α → List T) (z : List T) (l : List α) (j : Nat) (h : j < l.length) : (mid row z l j).set ((j : Int)).toNat (row l[j]) = mid row z l (j + 1) := by
  have h1 : ((l.take j).map row).length = j := by simp; omega
  rw [Int.toNat_natCast, mid, List.set_append, if_neg (by rw [h1]; omega), h1, Nat.sub_self, mid, List.take_succ_eq_append_getElem h]
  rw [show l.length - j = (l.length - (j + 1)) + 1 by omega, List.replicate_succ, List.set_cons_zero, List.map_append, List.append_assoc]
  rfl
inductive Form where
  | mk (kind : Int) (name : ByteArray) (n : Int) (scopes : List Int) (kids : List Form)
def Form.kind : Form → Int | .mk kind _ _ _ _ => kind
def Form.name : Form → ByteArray | .mk _ name _ _ _ => name
def Form.n : Form → Int | .mk _ _ n _ _ => n
def Form.scopes : Form → List Int | .mk _ _ _ scopes _ => scopes
def Form.kids : Form → List Form | .mk _ _ _ _ kids => kids
mutual
def Form.row : Form → List T
  | .mk kind name n scopes kids => [ti kind] ++ [tstr name] ++ [ti n] ++ [ints64 scopes] ++ [.sl (Form.rows kids)]
def Form.rows : List Form → List (List T)
  | [] => []
  | x :: xs => x.row :: Form.rows xs
end
theorem Form.rows_eq : ∀ (l : List Form), Form.rows l = l.map Form.row
  | [] => rfl
  | x :: xs => by rw [Form.rows, Form.rows_eq xs, List.map_cons]
theorem Form.row_mk (kind : Int) (name : ByteArray) (n : Int) (scopes : List Int) (kids : List Form) : Form.row (Form.mk kind name n scopes kids) = [ti kind, tstr name, ti n, ints64 scopes, .sl (kids.map Form.row)] := by simp only [Form.row, Form.rows_eq, List.nil_append, List.cons_append]
theorem Form.row_len (x : Form) : x.row.length = 5 := by obtain ⟨kind, name, n, scopes, kids⟩ := x; rw [Form.row_mk]; rfl
theorem Form.take (x : Form) : (x.row.map V.t).take 5 = x.row.map V.t := take_all (by simp [Form.row_len])
inductive Step where
  | mk (id : Int) (rule : Int) (scope : Int) (use : Form) (result : Form)
def Step.id : Step → Int | .mk id _ _ _ _ => id
def Step.rule : Step → Int | .mk _ rule _ _ _ => rule
def Step.scope : Step → Int | .mk _ _ scope _ _ => scope
def Step.use : Step → Form | .mk _ _ _ use _ => use
def Step.result : Step → Form | .mk _ _ _ _ result => result
def Step.row : Step → List T
  | .mk id rule scope use result => [ti id] ++ [ti rule] ++ [ti scope] ++ use.row ++ result.row
theorem Step.row_mk (id : Int) (rule : Int) (scope : Int) (use_kind : Int) (use_name : ByteArray) (use_n : Int) (use_scopes : List Int) (use_kids : List Form) (result_kind : Int) (result_name : ByteArray) (result_n : Int) (result_scopes : List Int) (result_kids : List Form) : Step.row (Step.mk id rule scope (Form.mk use_kind use_name use_n use_scopes use_kids) (Form.mk result_kind result_name result_n result_scopes result_kids)) = [ti id, ti rule, ti scope, ti use_kind, tstr use_name, ti use_n, ints64 use_scopes, .sl (use_kids.map Form.row), ti result_kind, tstr result_name, ti result_n, ints64 result_scopes, .sl (result_kids.map Form.row)] := by simp only [Step.row, Form.row_mk, Form.row_mk, List.nil_append, List.cons_append]
theorem Step.row_len (x : Step) : x.row.length = 13 := by obtain ⟨id, rule, scope, ⟨use_kind, use_name, use_n, use_scopes, use_kids⟩, ⟨result_kind, result_name, result_n, result_scopes, result_kids⟩⟩ := x; rw [Step.row_mk]; rfl
theorem Step.take (x : Step) : (x.row.map V.t).take 13 = x.row.map V.t := take_all (by simp [Step.row_len])
inductive Core where
  | mk (kind : Int) (id : Int) (name : ByteArray) (n : Int) (ids : List Int) (data : Form) (kids : List Core)
def Core.kind : Core → Int | .mk kind _ _ _ _ _ _ => kind
def Core.id : Core → Int | .mk _ id _ _ _ _ _ => id
def Core.name : Core → ByteArray | .mk _ _ name _ _ _ _ => name
def Core.n : Core → Int | .mk _ _ _ n _ _ _ => n
def Core.ids : Core → List Int | .mk _ _ _ _ ids _ _ => ids
def Core.data : Core → Form | .mk _ _ _ _ _ data _ => data
def Core.kids : Core → List Core | .mk _ _ _ _ _ _ kids => kids
mutual
def Core.row : Core → List T
  | .mk kind id name n ids data kids => [ti kind] ++ [ti id] ++ [tstr name] ++ [ti n] ++ [ints64 ids] ++ data.row ++ [.sl (Core.rows kids)]
def Core.rows : List Core → List (List T)
  | [] => []
  | x :: xs => x.row :: Core.rows xs
end
theorem Core.rows_eq : ∀ (l : List Core), Core.rows l = l.map Core.row
  | [] => rfl
  | x :: xs => by rw [Core.rows, Core.rows_eq xs, List.map_cons]
theorem Core.row_mk (kind : Int) (id : Int) (name : ByteArray) (n : Int) (ids : List Int) (data_kind : Int) (data_name : ByteArray) (data_n : Int) (data_scopes : List Int) (data_kids : List Form) (kids : List Core) : Core.row (Core.mk kind id name n ids (Form.mk data_kind data_name data_n data_scopes data_kids) kids) = [ti kind, ti id, tstr name, ti n, ints64 ids, ti data_kind, tstr data_name, ti data_n, ints64 data_scopes, .sl (data_kids.map Form.row), .sl (kids.map Core.row)] := by simp only [Core.row, Core.rows_eq, Form.row_mk, List.nil_append, List.cons_append]
theorem Core.row_len (x : Core) : x.row.length = 11 := by obtain ⟨kind, id, name, n, ids, ⟨data_kind, data_name, data_n, data_scopes, data_kids⟩, kids⟩ := x; rw [Core.row_mk]; rfl
theorem Core.take (x : Core) : (x.row.map V.t).take 11 = x.row.map V.t := take_all (by simp [Core.row_len])
inductive Bind where
  | mk (name : ByteArray) (scopes : List Int) (id : Int)
def Bind.name : Bind → ByteArray | .mk name _ _ => name
def Bind.scopes : Bind → List Int | .mk _ scopes _ => scopes
def Bind.id : Bind → Int | .mk _ _ id => id
def Bind.row : Bind → List T
  | .mk name scopes id => [tstr name] ++ [ints64 scopes] ++ [ti id]
theorem Bind.row_mk (name : ByteArray) (scopes : List Int) (id : Int) : Bind.row (Bind.mk name scopes id) = [tstr name, ints64 scopes, ti id] := by simp only [Bind.row, List.nil_append, List.cons_append]
theorem Bind.row_len (x : Bind) : x.row.length = 3 := by obtain ⟨name, scopes, id⟩ := x; rw [Bind.row_mk]; rfl
theorem Bind.take (x : Bind) : (x.row.map V.t).take 3 = x.row.map V.t := take_all (by simp [Bind.row_len])
inductive Hit where
  | mk (name : Form) (depth : Int) (one : Form) (many : List Hit)
def Hit.name : Hit → Form | .mk name _ _ _ => name
def Hit.depth : Hit → Int | .mk _ depth _ _ => depth
def Hit.one : Hit → Form | .mk _ _ one _ => one
def Hit.many : Hit → List Hit | .mk _ _ _ many => many
mutual
def Hit.row : Hit → List T
  | .mk name depth one many => name.row ++ [ti depth] ++ one.row ++ [.sl (Hit.rows many)]
def Hit.rows : List Hit → List (List T)
  | [] => []
  | x :: xs => x.row :: Hit.rows xs
end
theorem Hit.rows_eq : ∀ (l : List Hit), Hit.rows l = l.map Hit.row
  | [] => rfl
  | x :: xs => by rw [Hit.rows, Hit.rows_eq xs, List.map_cons]
theorem Hit.row_mk (name_kind : Int) (name_name : ByteArray) (name_n : Int) (name_scopes : List Int) (name_kids : List Form) (depth : Int) (one_kind : Int) (one_name : ByteArray) (one_n : Int) (one_scopes : List Int) (one_kids : List Form) (many : List Hit) : Hit.row (Hit.mk (Form.mk name_kind name_name name_n name_scopes name_kids) depth (Form.mk one_kind one_name one_n one_scopes one_kids) many) = [ti name_kind, tstr name_name, ti name_n, ints64 name_scopes, .sl (name_kids.map Form.row), ti depth, ti one_kind, tstr one_name, ti one_n, ints64 one_scopes, .sl (one_kids.map Form.row), .sl (many.map Hit.row)] := by simp only [Hit.row, Hit.rows_eq, Form.row_mk, Form.row_mk, List.nil_append, List.cons_append]
theorem Hit.row_len (x : Hit) : x.row.length = 12 := by obtain ⟨⟨name_kind, name_name, name_n, name_scopes, name_kids⟩, depth, ⟨one_kind, one_name, one_n, one_scopes, one_kids⟩, many⟩ := x; rw [Hit.row_mk]; rfl
theorem Hit.take (x : Hit) : (x.row.map V.t).take 12 = x.row.map V.t := take_all (by simp [Hit.row_len])
inductive Rule where
  | mk (pattern : Form) (template : Form)
def Rule.pattern : Rule → Form | .mk pattern _ => pattern
def Rule.template : Rule → Form | .mk _ template => template
def Rule.row : Rule → List T
  | .mk pattern template => pattern.row ++ template.row
theorem Rule.row_mk (pattern_kind : Int) (pattern_name : ByteArray) (pattern_n : Int) (pattern_scopes : List Int) (pattern_kids : List Form) (template_kind : Int) (template_name : ByteArray) (template_n : Int) (template_scopes : List Int) (template_kids : List Form) : Rule.row (Rule.mk (Form.mk pattern_kind pattern_name pattern_n pattern_scopes pattern_kids) (Form.mk template_kind template_name template_n template_scopes template_kids)) = [ti pattern_kind, tstr pattern_name, ti pattern_n, ints64 pattern_scopes, .sl (pattern_kids.map Form.row), ti template_kind, tstr template_name, ti template_n, ints64 template_scopes, .sl (template_kids.map Form.row)] := by simp only [Rule.row, Form.row_mk, Form.row_mk, List.nil_append, List.cons_append]
theorem Rule.row_len (x : Rule) : x.row.length = 10 := by obtain ⟨⟨pattern_kind, pattern_name, pattern_n, pattern_scopes, pattern_kids⟩, ⟨template_kind, template_name, template_n, template_scopes, template_kids⟩⟩ := x; rw [Rule.row_mk]; rfl
theorem Rule.take (x : Rule) : (x.row.map V.t).take 10 = x.row.map V.t := take_all (by simp [Rule.row_len])
inductive Macro where
  | mk (id : Int) (literals : List Form) (rules : List Rule)
def Macro.id : Macro → Int | .mk id _ _ => id
def Macro.literals : Macro → List Form | .mk _ literals _ => literals
def Macro.rules : Macro → List Rule | .mk _ _ rules => rules
def Macro.row : Macro → List T
  | .mk id literals rules => [ti id] ++ [.sl (literals.map Form.row)] ++ [.sl (rules.map Rule.row)]
theorem Macro.row_mk (id : Int) (literals : List Form) (rules : List Rule) : Macro.row (Macro.mk id literals rules) = [ti id, .sl (literals.map Form.row), .sl (rules.map Rule.row)] := by simp only [Macro.row, List.nil_append, List.cons_append]
theorem Macro.row_len (x : Macro) : x.row.length = 3 := by obtain ⟨id, literals, rules⟩ := x; rw [Macro.row_mk]; rfl
theorem Macro.take (x : Macro) : (x.row.map V.t).take 3 = x.row.map V.t := take_all (by simp [Macro.row_len])
inductive Expansion where
  | mk (binds : List Bind) (macros : List Macro) (scope : Int) (id : Int) (steps : Int)
def Expansion.binds : Expansion → List Bind | .mk binds _ _ _ _ => binds
def Expansion.macros : Expansion → List Macro | .mk _ macros _ _ _ => macros
def Expansion.scope : Expansion → Int | .mk _ _ scope _ _ => scope
def Expansion.id : Expansion → Int | .mk _ _ _ id _ => id
def Expansion.steps : Expansion → Int | .mk _ _ _ _ steps => steps
def Expansion.row : Expansion → List T
  | .mk binds macros scope id steps => [.sl (binds.map Bind.row)] ++ [.sl (macros.map Macro.row)] ++ [ti scope] ++ [ti id] ++ [ti steps]
theorem Expansion.row_mk (binds : List Bind) (macros : List Macro) (scope : Int) (id : Int) (steps : Int) : Expansion.row (Expansion.mk binds macros scope id steps) = [.sl (binds.map Bind.row), .sl (macros.map Macro.row), ti scope, ti id, ti steps] := by simp only [Expansion.row, List.nil_append, List.cons_append]
theorem Expansion.row_len (x : Expansion) : x.row.length = 5 := by obtain ⟨binds, macros, scope, id, steps⟩ := x; rw [Expansion.row_mk]; rfl
theorem Expansion.take (x : Expansion) : (x.row.map V.t).take 5 = x.row.map V.t := take_all (by simp [Expansion.row_len])
end Go.Abs
