/- Rows told by their fields. -/
import Derived.Test.YtgicgbokgmmgdaaAbsX
set_option linter.unusedVariables false
set_option linter.unusedSimpArgs false
namespace Go.Abs
structure l15Rd where
  b : List Int
  p : Int
structure scan where
  s : ByteArray
  bad : Bool
abbrev rI (n : Int) : List T := [.sc (.int .i64 n)]
abbrev rB (n : Int) : List T := [.sc (.int .u8 n)]
abbrev rS (s : ByteArray) : List T := [.sc (.str s)]
abbrev rT (b : Bool) : List T := [.sc (.bool b)]
def rL {α : Type} (row : α → List T) (l : List α) : List T := [.sl (l.map row)]
theorem rL_eq {α : Type} (row : α → List T) (l : List α) : rL row l = [.sl (l.map row)] := rfl
theorem Form.row_eq (x : Form) : x.row = [.sc (.int .i64 (x.kind)), .sc (.str (x.name)), .sc (.int .i64 (x.n)), .sl ((x.scopes).map rI), .sl ((x.kids).map Form.row)] := by obtain ⟨kind, name, n, scopes, kids⟩ := x; rw [Form.row_mk]; rfl
theorem Step.row_eq (x : Step) : x.row = [.sc (.int .i64 (x.id)), .sc (.int .i64 (x.rule)), .sc (.int .i64 (x.scope)), .sc (.int .i64 (x.use.kind)), .sc (.str (x.use.name)), .sc (.int .i64 (x.use.n)), .sl ((x.use.scopes).map rI), .sl ((x.use.kids).map Form.row), .sc (.int .i64 (x.result.kind)), .sc (.str (x.result.name)), .sc (.int .i64 (x.result.n)), .sl ((x.result.scopes).map rI), .sl ((x.result.kids).map Form.row)] := by obtain ⟨id, rule, scope, ⟨use_kind, use_name, use_n, use_scopes, use_kids⟩, ⟨result_kind, result_name, result_n, result_scopes, result_kids⟩⟩ := x; rw [Step.row_mk]; rfl
theorem Core.row_eq (x : Core) : x.row = [.sc (.int .i64 (x.kind)), .sc (.int .i64 (x.id)), .sc (.str (x.name)), .sc (.int .i64 (x.n)), .sl ((x.ids).map rI), .sc (.int .i64 (x.data.kind)), .sc (.str (x.data.name)), .sc (.int .i64 (x.data.n)), .sl ((x.data.scopes).map rI), .sl ((x.data.kids).map Form.row), .sl ((x.kids).map Core.row)] := by obtain ⟨kind, id, name, n, ids, ⟨data_kind, data_name, data_n, data_scopes, data_kids⟩, kids⟩ := x; rw [Core.row_mk]; rfl
theorem Bind.row_eq (x : Bind) : x.row = [.sc (.str (x.name)), .sl ((x.scopes).map rI), .sc (.int .i64 (x.id))] := by obtain ⟨name, scopes, id⟩ := x; rw [Bind.row_mk]; rfl
theorem Hit.row_eq (x : Hit) : x.row = [.sc (.int .i64 (x.name.kind)), .sc (.str (x.name.name)), .sc (.int .i64 (x.name.n)), .sl ((x.name.scopes).map rI), .sl ((x.name.kids).map Form.row), .sc (.int .i64 (x.depth)), .sc (.int .i64 (x.one.kind)), .sc (.str (x.one.name)), .sc (.int .i64 (x.one.n)), .sl ((x.one.scopes).map rI), .sl ((x.one.kids).map Form.row), .sl ((x.many).map Hit.row)] := by obtain ⟨⟨name_kind, name_name, name_n, name_scopes, name_kids⟩, depth, ⟨one_kind, one_name, one_n, one_scopes, one_kids⟩, many⟩ := x; rw [Hit.row_mk]; rfl
theorem Rule.row_eq (x : Rule) : x.row = [.sc (.int .i64 (x.pattern.kind)), .sc (.str (x.pattern.name)), .sc (.int .i64 (x.pattern.n)), .sl ((x.pattern.scopes).map rI), .sl ((x.pattern.kids).map Form.row), .sc (.int .i64 (x.template.kind)), .sc (.str (x.template.name)), .sc (.int .i64 (x.template.n)), .sl ((x.template.scopes).map rI), .sl ((x.template.kids).map Form.row)] := by obtain ⟨⟨pattern_kind, pattern_name, pattern_n, pattern_scopes, pattern_kids⟩, ⟨template_kind, template_name, template_n, template_scopes, template_kids⟩⟩ := x; rw [Rule.row_mk]; rfl
theorem Macro.row_eq (x : Macro) : x.row = [.sc (.int .i64 (x.id)), .sl ((x.literals).map Form.row), .sl ((x.rules).map Rule.row)] := by obtain ⟨id, literals, rules⟩ := x; rw [Macro.row_mk]; rfl
theorem Expansion.row_eq (x : Expansion) : x.row = [.sl ((x.binds).map Bind.row), .sl ((x.macros).map Macro.row), .sc (.int .i64 (x.scope)), .sc (.int .i64 (x.id)), .sc (.int .i64 (x.steps))] := by obtain ⟨binds, macros, scope, id, steps⟩ := x; rw [Expansion.row_mk]; rfl
end Go.Abs
