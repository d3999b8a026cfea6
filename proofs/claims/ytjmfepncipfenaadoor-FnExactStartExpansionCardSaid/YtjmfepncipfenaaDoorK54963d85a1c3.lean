/- A part of the proof: what the functions that the law calls answer, as pure values. -/
import Derived.KernelRfl
import Derived.Test.YtjmfepncipfenaaDoorK10e2c01bef4a
import Derived.Test.YtjmfepncipfenaaDoorK9aa6ab23cd97
set_option linter.unusedSimpArgs false
set_option linter.unusedVariables false
section
set_option linter.unusedVariables false
namespace Go.Abs
def Got {α : Type} (F : Nat → Option α) (v : α) : Prop := ∃ n, F n = some v
theorem Got.get {α : Type} {F : Nat → Option α} {v : α} (h : Got F v) : ∃ n, F n = some v := h
theorem FnExactStartExpansion_law : ∃ r, Got (fun m => m_laws_FnExactStartExpansion m) r ∧ r = true := ⟨true, ⟨24, by kernel_rfl⟩, rfl⟩
end Go.Abs
end
