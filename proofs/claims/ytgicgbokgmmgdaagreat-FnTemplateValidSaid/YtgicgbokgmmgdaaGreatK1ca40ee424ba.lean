/- A part of the proof: what the functions that the law calls answer, as pure values. -/
import Derived.KernelRfl
import Derived.Test.YtgicgbokgmmgdaaGreatK85dec96727f6
import Derived.Test.YtgicgbokgmmgdaaGreatK9755d113d921
import Derived.Test.YtgicgbokgmmgdaaGreatKbdf8494f7d88
import Derived.Test.YtgicgbokgmmgdaaGreatKcf6e923ba96b
import Derived.Test.YtgicgbokgmmgdaaGreatKe81f2be66cad
set_option linter.unusedSimpArgs false
set_option linter.unusedVariables false
section
set_option linter.unusedVariables false
set_option maxRecDepth 100000
namespace Go.Abs
def t5F0 : Form := (Form.mk 3 (⟨#[]⟩ : ByteArray) 0 ([] : List Int) [(Form.mk 1 (⟨#[114, 117, 108, 101, 115]⟩ : ByteArray) 0 ([] : List Int) ([] : List Form)), (Form.mk 3 (⟨#[]⟩ : ByteArray) 0 ([] : List Int) ([] : List Form)), (Form.mk 3 (⟨#[]⟩ : ByteArray) 0 ([] : List Int) [(Form.mk 3 (⟨#[]⟩ : ByteArray) 0 ([] : List Int) [(Form.mk 1 (⟨#[95]⟩ : ByteArray) 0 ([] : List Int) ([] : List Form)), (Form.mk 1 (⟨#[97]⟩ : ByteArray) 0 ([] : List Int) ([] : List Form)), (Form.mk 1 (⟨#[98]⟩ : ByteArray) 0 ([] : List Int) ([] : List Form))]), (Form.mk 3 (⟨#[]⟩ : ByteArray) 0 ([] : List Int) [(Form.mk 1 (⟨#[108, 101, 116]⟩ : ByteArray) 0 ([] : List Int) ([] : List Form)), (Form.mk 3 (⟨#[]⟩ : ByteArray) 0 ([] : List Int) [(Form.mk 3 (⟨#[]⟩ : ByteArray) 0 ([] : List Int) [(Form.mk 1 (⟨#[116, 109, 112]⟩ : ByteArray) 0 ([] : List Int) ([] : List Form)), (Form.mk 1 (⟨#[97]⟩ : ByteArray) 0 ([] : List Int) ([] : List Form))])]), (Form.mk 3 (⟨#[]⟩ : ByteArray) 0 ([] : List Int) [(Form.mk 1 (⟨#[108, 105, 115, 116]⟩ : ByteArray) 0 ([] : List Int) ([] : List Form)), (Form.mk 1 (⟨#[98]⟩ : ByteArray) 0 ([] : List Int) ([] : List Form)), (Form.mk 1 (⟨#[116, 109, 112]⟩ : ByteArray) 0 ([] : List Int) ([] : List Form))])])])])
theorem t5P0 : Parsed (⟨#[40, 114, 117, 108, 101, 115, 32, 40, 41, 32, 40, 40, 95, 32, 97, 32, 98, 41, 32, 40, 108, 101, 116, 32, 40, 40, 116, 109, 112, 32, 97, 41, 41, 32, 40, 108, 105, 115, 116, 32, 98, 32, 116, 109, 112, 41, 41, 41, 41]⟩ : ByteArray) t5F0 := ⟨Tr.add 100 (fun m => by kernel_rfl), of_decide_eq_true (by kernel_rfl), Form.fitB_fit (by kernel_rfl)⟩
def t5F1 : Form := (Form.mk 3 (⟨#[]⟩ : ByteArray) 0 ([] : List Int) [(Form.mk 1 (⟨#[115, 119, 97, 112]⟩ : ByteArray) 0 ([] : List Int) ([] : List Form)), (Form.mk 1 (⟨#[120]⟩ : ByteArray) 0 ([] : List Int) ([] : List Form)), (Form.mk 1 (⟨#[121]⟩ : ByteArray) 0 ([] : List Int) ([] : List Form))])
theorem t5P1 : Parsed (⟨#[40, 115, 119, 97, 112, 32, 120, 32, 121, 41]⟩ : ByteArray) t5F1 := ⟨Tr.add 100 (fun m => by kernel_rfl), of_decide_eq_true (by kernel_rfl), Form.fitB_fit (by kernel_rfl)⟩
def t5F2 : Form := (Form.mk 3 (⟨#[]⟩ : ByteArray) 0 ([] : List Int) [(Form.mk 1 (⟨#[114, 117, 108, 101, 115]⟩ : ByteArray) 0 ([] : List Int) ([] : List Form)), (Form.mk 3 (⟨#[]⟩ : ByteArray) 0 ([] : List Int) ([] : List Form)), (Form.mk 3 (⟨#[]⟩ : ByteArray) 0 ([] : List Int) [(Form.mk 3 (⟨#[]⟩ : ByteArray) 0 ([] : List Int) [(Form.mk 1 (⟨#[95]⟩ : ByteArray) 0 ([] : List Int) ([] : List Form))]), (Form.mk 2 (⟨#[]⟩ : ByteArray) 0 ([] : List Int) ([] : List Form))]), (Form.mk 3 (⟨#[]⟩ : ByteArray) 0 ([] : List Int) [(Form.mk 3 (⟨#[]⟩ : ByteArray) 0 ([] : List Int) [(Form.mk 1 (⟨#[95]⟩ : ByteArray) 0 ([] : List Int) ([] : List Form)), (Form.mk 1 (⟨#[97]⟩ : ByteArray) 0 ([] : List Int) ([] : List Form))]), (Form.mk 1 (⟨#[97]⟩ : ByteArray) 0 ([] : List Int) ([] : List Form))]), (Form.mk 3 (⟨#[]⟩ : ByteArray) 0 ([] : List Int) [(Form.mk 3 (⟨#[]⟩ : ByteArray) 0 ([] : List Int) [(Form.mk 1 (⟨#[95]⟩ : ByteArray) 0 ([] : List Int) ([] : List Form)), (Form.mk 1 (⟨#[97]⟩ : ByteArray) 0 ([] : List Int) ([] : List Form)), (Form.mk 1 (⟨#[98]⟩ : ByteArray) 0 ([] : List Int) ([] : List Form)), (Form.mk 1 (⟨#[46, 46, 46]⟩ : ByteArray) 0 ([] : List Int) ([] : List Form))]), (Form.mk 3 (⟨#[]⟩ : ByteArray) 0 ([] : List Int) [(Form.mk 1 (⟨#[105, 102]⟩ : ByteArray) 0 ([] : List Int) ([] : List Form)), (Form.mk 1 (⟨#[97]⟩ : ByteArray) 0 ([] : List Int) ([] : List Form)), (Form.mk 2 (⟨#[]⟩ : ByteArray) 1 ([] : List Int) ([] : List Form)), (Form.mk 3 (⟨#[]⟩ : ByteArray) 0 ([] : List Int) [(Form.mk 1 (⟨#[111, 114]⟩ : ByteArray) 0 ([] : List Int) ([] : List Form)), (Form.mk 1 (⟨#[98]⟩ : ByteArray) 0 ([] : List Int) ([] : List Form)), (Form.mk 1 (⟨#[46, 46, 46]⟩ : ByteArray) 0 ([] : List Int) ([] : List Form))])])])])
theorem t5P2 : Parsed (⟨#[40, 114, 117, 108, 101, 115, 32, 40, 41, 32, 40, 40, 95, 41, 32, 48, 41, 32, 40, 40, 95, 32, 97, 41, 32, 97, 41, 32, 40, 40, 95, 32, 97, 32, 98, 32, 46, 46, 46, 41, 32, 40, 105, 102, 32, 97, 32, 49, 32, 40, 111, 114, 32, 98, 32, 46, 46, 46, 41, 41, 41, 41]⟩ : ByteArray) t5F2 := ⟨Tr.add 100 (fun m => by kernel_rfl), of_decide_eq_true (by kernel_rfl), Form.fitB_fit (by kernel_rfl)⟩
def t5F3 : Form := (Form.mk 3 (⟨#[]⟩ : ByteArray) 0 ([] : List Int) [(Form.mk 1 (⟨#[111, 114]⟩ : ByteArray) 0 ([] : List Int) ([] : List Form)), (Form.mk 1 (⟨#[120]⟩ : ByteArray) 0 ([] : List Int) ([] : List Form)), (Form.mk 1 (⟨#[121]⟩ : ByteArray) 0 ([] : List Int) ([] : List Form)), (Form.mk 1 (⟨#[122]⟩ : ByteArray) 0 ([] : List Int) ([] : List Form))])
theorem t5P3 : Parsed (⟨#[40, 111, 114, 32, 120, 32, 121, 32, 122, 41]⟩ : ByteArray) t5F3 := ⟨Tr.add 100 (fun m => by kernel_rfl), of_decide_eq_true (by kernel_rfl), Form.fitB_fit (by kernel_rfl)⟩
def t5F4 : Form := (Form.mk 3 (⟨#[]⟩ : ByteArray) 0 ([] : List Int) [(Form.mk 1 (⟨#[114, 117, 108, 101, 115]⟩ : ByteArray) 0 ([] : List Int) ([] : List Form)), (Form.mk 3 (⟨#[]⟩ : ByteArray) 0 ([] : List Int) ([] : List Form)), (Form.mk 3 (⟨#[]⟩ : ByteArray) 0 ([] : List Int) [(Form.mk 3 (⟨#[]⟩ : ByteArray) 0 ([] : List Int) [(Form.mk 1 (⟨#[95]⟩ : ByteArray) 0 ([] : List Int) ([] : List Form)), (Form.mk 3 (⟨#[]⟩ : ByteArray) 0 ([] : List Int) [(Form.mk 3 (⟨#[]⟩ : ByteArray) 0 ([] : List Int) [(Form.mk 1 (⟨#[120]⟩ : ByteArray) 0 ([] : List Int) ([] : List Form)), (Form.mk 1 (⟨#[118]⟩ : ByteArray) 0 ([] : List Int) ([] : List Form))]), (Form.mk 1 (⟨#[46, 46, 46]⟩ : ByteArray) 0 ([] : List Int) ([] : List Form))]), (Form.mk 1 (⟨#[98, 111, 100, 121]⟩ : ByteArray) 0 ([] : List Int) ([] : List Form))]), (Form.mk 3 (⟨#[]⟩ : ByteArray) 0 ([] : List Int) [(Form.mk 3 (⟨#[]⟩ : ByteArray) 0 ([] : List Int) [(Form.mk 1 (⟨#[108, 97, 109, 98, 100, 97]⟩ : ByteArray) 0 ([] : List Int) ([] : List Form)), (Form.mk 3 (⟨#[]⟩ : ByteArray) 0 ([] : List Int) [(Form.mk 1 (⟨#[120]⟩ : ByteArray) 0 ([] : List Int) ([] : List Form)), (Form.mk 1 (⟨#[46, 46, 46]⟩ : ByteArray) 0 ([] : List Int) ([] : List Form))]), (Form.mk 1 (⟨#[98, 111, 100, 121]⟩ : ByteArray) 0 ([] : List Int) ([] : List Form))]), (Form.mk 1 (⟨#[118]⟩ : ByteArray) 0 ([] : List Int) ([] : List Form)), (Form.mk 1 (⟨#[46, 46, 46]⟩ : ByteArray) 0 ([] : List Int) ([] : List Form))])])])
theorem t5P4 : Parsed (⟨#[40, 114, 117, 108, 101, 115, 32, 40, 41, 32, 40, 40, 95, 32, 40, 40, 120, 32, 118, 41, 32, 46, 46, 46, 41, 32, 98, 111, 100, 121, 41, 32, 40, 40, 108, 97, 109, 98, 100, 97, 32, 40, 120, 32, 46, 46, 46, 41, 32, 98, 111, 100, 121, 41, 32, 118, 32, 46, 46, 46, 41, 41, 41]⟩ : ByteArray) t5F4 := ⟨Tr.add 100 (fun m => by kernel_rfl), of_decide_eq_true (by kernel_rfl), Form.fitB_fit (by kernel_rfl)⟩
def t5F5 : Form := (Form.mk 3 (⟨#[]⟩ : ByteArray) 0 ([] : List Int) [(Form.mk 1 (⟨#[109, 121, 108, 101, 116]⟩ : ByteArray) 0 ([] : List Int) ([] : List Form)), (Form.mk 3 (⟨#[]⟩ : ByteArray) 0 ([] : List Int) [(Form.mk 3 (⟨#[]⟩ : ByteArray) 0 ([] : List Int) [(Form.mk 1 (⟨#[112]⟩ : ByteArray) 0 ([] : List Int) ([] : List Form)), (Form.mk 2 (⟨#[]⟩ : ByteArray) 1 ([] : List Int) ([] : List Form))]), (Form.mk 3 (⟨#[]⟩ : ByteArray) 0 ([] : List Int) [(Form.mk 1 (⟨#[113]⟩ : ByteArray) 0 ([] : List Int) ([] : List Form)), (Form.mk 2 (⟨#[]⟩ : ByteArray) 2 ([] : List Int) ([] : List Form))])]), (Form.mk 3 (⟨#[]⟩ : ByteArray) 0 ([] : List Int) [(Form.mk 1 (⟨#[102]⟩ : ByteArray) 0 ([] : List Int) ([] : List Form)), (Form.mk 1 (⟨#[112]⟩ : ByteArray) 0 ([] : List Int) ([] : List Form)), (Form.mk 1 (⟨#[113]⟩ : ByteArray) 0 ([] : List Int) ([] : List Form))])])
theorem t5P5 : Parsed (⟨#[40, 109, 121, 108, 101, 116, 32, 40, 40, 112, 32, 49, 41, 32, 40, 113, 32, 50, 41, 41, 32, 40, 102, 32, 112, 32, 113, 41, 41]⟩ : ByteArray) t5F5 := ⟨Tr.add 100 (fun m => by kernel_rfl), of_decide_eq_true (by kernel_rfl), Form.fitB_fit (by kernel_rfl)⟩
def t5F6 : Form := (Form.mk 3 (⟨#[]⟩ : ByteArray) 0 ([] : List Int) [(Form.mk 1 (⟨#[114, 117, 108, 101, 115]⟩ : ByteArray) 0 ([] : List Int) ([] : List Form)), (Form.mk 3 (⟨#[]⟩ : ByteArray) 0 ([] : List Int) [(Form.mk 1 (⟨#[101, 108, 115, 101]⟩ : ByteArray) 0 ([] : List Int) ([] : List Form))]), (Form.mk 3 (⟨#[]⟩ : ByteArray) 0 ([] : List Int) [(Form.mk 3 (⟨#[]⟩ : ByteArray) 0 ([] : List Int) [(Form.mk 1 (⟨#[95]⟩ : ByteArray) 0 ([] : List Int) ([] : List Form)), (Form.mk 1 (⟨#[101, 108, 115, 101]⟩ : ByteArray) 0 ([] : List Int) ([] : List Form)), (Form.mk 1 (⟨#[101]⟩ : ByteArray) 0 ([] : List Int) ([] : List Form))]), (Form.mk 1 (⟨#[101]⟩ : ByteArray) 0 ([] : List Int) ([] : List Form))]), (Form.mk 3 (⟨#[]⟩ : ByteArray) 0 ([] : List Int) [(Form.mk 3 (⟨#[]⟩ : ByteArray) 0 ([] : List Int) [(Form.mk 1 (⟨#[95]⟩ : ByteArray) 0 ([] : List Int) ([] : List Form)), (Form.mk 1 (⟨#[99]⟩ : ByteArray) 0 ([] : List Int) ([] : List Form)), (Form.mk 1 (⟨#[101]⟩ : ByteArray) 0 ([] : List Int) ([] : List Form)), (Form.mk 1 (⟨#[114]⟩ : ByteArray) 0 ([] : List Int) ([] : List Form)), (Form.mk 1 (⟨#[46, 46, 46]⟩ : ByteArray) 0 ([] : List Int) ([] : List Form))]), (Form.mk 3 (⟨#[]⟩ : ByteArray) 0 ([] : List Int) [(Form.mk 1 (⟨#[105, 102]⟩ : ByteArray) 0 ([] : List Int) ([] : List Form)), (Form.mk 1 (⟨#[99]⟩ : ByteArray) 0 ([] : List Int) ([] : List Form)), (Form.mk 1 (⟨#[101]⟩ : ByteArray) 0 ([] : List Int) ([] : List Form)), (Form.mk 3 (⟨#[]⟩ : ByteArray) 0 ([] : List Int) [(Form.mk 1 (⟨#[99, 111, 110, 100]⟩ : ByteArray) 0 ([] : List Int) ([] : List Form)), (Form.mk 1 (⟨#[114]⟩ : ByteArray) 0 ([] : List Int) ([] : List Form)), (Form.mk 1 (⟨#[46, 46, 46]⟩ : ByteArray) 0 ([] : List Int) ([] : List Form))])])])])
theorem t5P6 : Parsed (⟨#[40, 114, 117, 108, 101, 115, 32, 40, 101, 108, 115, 101, 41, 32, 40, 40, 95, 32, 101, 108, 115, 101, 32, 101, 41, 32, 101, 41, 32, 40, 40, 95, 32, 99, 32, 101, 32, 114, 32, 46, 46, 46, 41, 32, 40, 105, 102, 32, 99, 32, 101, 32, 40, 99, 111, 110, 100, 32, 114, 32, 46, 46, 46, 41, 41, 41, 41]⟩ : ByteArray) t5F6 := ⟨Tr.add 100 (fun m => by kernel_rfl), of_decide_eq_true (by kernel_rfl), Form.fitB_fit (by kernel_rfl)⟩
def t5F7 : Form := (Form.mk 3 (⟨#[]⟩ : ByteArray) 0 ([] : List Int) [(Form.mk 1 (⟨#[99, 111, 110, 100]⟩ : ByteArray) 0 ([] : List Int) ([] : List Form)), (Form.mk 1 (⟨#[112]⟩ : ByteArray) 0 ([] : List Int) ([] : List Form)), (Form.mk 2 (⟨#[]⟩ : ByteArray) 1 ([] : List Int) ([] : List Form)), (Form.mk 1 (⟨#[101, 108, 115, 101]⟩ : ByteArray) 0 ([] : List Int) ([] : List Form)), (Form.mk 2 (⟨#[]⟩ : ByteArray) 2 ([] : List Int) ([] : List Form))])
theorem t5P7 : Parsed (⟨#[40, 99, 111, 110, 100, 32, 112, 32, 49, 32, 101, 108, 115, 101, 32, 50, 41]⟩ : ByteArray) t5F7 := ⟨Tr.add 100 (fun m => by kernel_rfl), of_decide_eq_true (by kernel_rfl), Form.fitB_fit (by kernel_rfl)⟩
def t5F8 : Form := (Form.mk 3 (⟨#[]⟩ : ByteArray) 0 ([] : List Int) [(Form.mk 1 (⟨#[114, 117, 108, 101, 115]⟩ : ByteArray) 0 ([] : List Int) ([] : List Form)), (Form.mk 3 (⟨#[]⟩ : ByteArray) 0 ([] : List Int) ([] : List Form)), (Form.mk 3 (⟨#[]⟩ : ByteArray) 0 ([] : List Int) [(Form.mk 3 (⟨#[]⟩ : ByteArray) 0 ([] : List Int) [(Form.mk 1 (⟨#[95]⟩ : ByteArray) 0 ([] : List Int) ([] : List Form)), (Form.mk 3 (⟨#[]⟩ : ByteArray) 0 ([] : List Int) [(Form.mk 1 (⟨#[97]⟩ : ByteArray) 0 ([] : List Int) ([] : List Form)), (Form.mk 1 (⟨#[98]⟩ : ByteArray) 0 ([] : List Int) ([] : List Form)), (Form.mk 1 (⟨#[46, 46, 46]⟩ : ByteArray) 0 ([] : List Int) ([] : List Form))]), (Form.mk 1 (⟨#[46, 46, 46]⟩ : ByteArray) 0 ([] : List Int) ([] : List Form))]), (Form.mk 3 (⟨#[]⟩ : ByteArray) 0 ([] : List Int) [(Form.mk 1 (⟨#[109]⟩ : ByteArray) 0 ([] : List Int) ([] : List Form)), (Form.mk 3 (⟨#[]⟩ : ByteArray) 0 ([] : List Int) [(Form.mk 1 (⟨#[97]⟩ : ByteArray) 0 ([] : List Int) ([] : List Form)), (Form.mk 1 (⟨#[46, 46, 46]⟩ : ByteArray) 0 ([] : List Int) ([] : List Form))]), (Form.mk 3 (⟨#[]⟩ : ByteArray) 0 ([] : List Int) [(Form.mk 3 (⟨#[]⟩ : ByteArray) 0 ([] : List Int) [(Form.mk 1 (⟨#[97]⟩ : ByteArray) 0 ([] : List Int) ([] : List Form)), (Form.mk 1 (⟨#[98]⟩ : ByteArray) 0 ([] : List Int) ([] : List Form)), (Form.mk 1 (⟨#[46, 46, 46]⟩ : ByteArray) 0 ([] : List Int) ([] : List Form))]), (Form.mk 1 (⟨#[46, 46, 46]⟩ : ByteArray) 0 ([] : List Int) ([] : List Form))]), (Form.mk 2 (⟨#[]⟩ : ByteArray) 1 ([] : List Int) ([] : List Form))])])])
theorem t5P8 : Parsed (⟨#[40, 114, 117, 108, 101, 115, 32, 40, 41, 32, 40, 40, 95, 32, 40, 97, 32, 98, 32, 46, 46, 46, 41, 32, 46, 46, 46, 41, 32, 40, 109, 32, 40, 97, 32, 46, 46, 46, 41, 32, 40, 40, 97, 32, 98, 32, 46, 46, 46, 41, 32, 46, 46, 46, 41, 32, 49, 41, 41, 41]⟩ : ByteArray) t5F8 := ⟨Tr.add 100 (fun m => by kernel_rfl), of_decide_eq_true (by kernel_rfl), Form.fitB_fit (by kernel_rfl)⟩
def t5F9 : Form := (Form.mk 3 (⟨#[]⟩ : ByteArray) 0 ([] : List Int) [(Form.mk 1 (⟨#[109]⟩ : ByteArray) 0 ([] : List Int) ([] : List Form)), (Form.mk 3 (⟨#[]⟩ : ByteArray) 0 ([] : List Int) [(Form.mk 1 (⟨#[120]⟩ : ByteArray) 0 ([] : List Int) ([] : List Form)), (Form.mk 2 (⟨#[]⟩ : ByteArray) 1 ([] : List Int) ([] : List Form)), (Form.mk 2 (⟨#[]⟩ : ByteArray) 2 ([] : List Int) ([] : List Form))]), (Form.mk 3 (⟨#[]⟩ : ByteArray) 0 ([] : List Int) [(Form.mk 1 (⟨#[121]⟩ : ByteArray) 0 ([] : List Int) ([] : List Form))])])
theorem t5P9 : Parsed (⟨#[40, 109, 32, 40, 120, 32, 49, 32, 50, 41, 32, 40, 121, 41, 41]⟩ : ByteArray) t5F9 := ⟨Tr.add 100 (fun m => by kernel_rfl), of_decide_eq_true (by kernel_rfl), Form.fitB_fit (by kernel_rfl)⟩
def t5F10 : Form := (Form.mk 3 (⟨#[]⟩ : ByteArray) 0 ([] : List Int) [(Form.mk 1 (⟨#[114, 117, 108, 101, 115]⟩ : ByteArray) 0 ([] : List Int) ([] : List Form)), (Form.mk 3 (⟨#[]⟩ : ByteArray) 0 ([] : List Int) ([] : List Form)), (Form.mk 3 (⟨#[]⟩ : ByteArray) 0 ([] : List Int) [(Form.mk 3 (⟨#[]⟩ : ByteArray) 0 ([] : List Int) [(Form.mk 1 (⟨#[95]⟩ : ByteArray) 0 ([] : List Int) ([] : List Form)), (Form.mk 1 (⟨#[97]⟩ : ByteArray) 0 ([] : List Int) ([] : List Form)), (Form.mk 1 (⟨#[46, 46, 46]⟩ : ByteArray) 0 ([] : List Int) ([] : List Form))]), (Form.mk 3 (⟨#[]⟩ : ByteArray) 0 ([] : List Int) [(Form.mk 1 (⟨#[108, 105, 115, 116]⟩ : ByteArray) 0 ([] : List Int) ([] : List Form)), (Form.mk 1 (⟨#[97]⟩ : ByteArray) 0 ([] : List Int) ([] : List Form)), (Form.mk 1 (⟨#[46, 46, 46]⟩ : ByteArray) 0 ([] : List Int) ([] : List Form)), (Form.mk 1 (⟨#[97]⟩ : ByteArray) 0 ([] : List Int) ([] : List Form)), (Form.mk 1 (⟨#[46, 46, 46]⟩ : ByteArray) 0 ([] : List Int) ([] : List Form))])])])
theorem t5P10 : Parsed (⟨#[40, 114, 117, 108, 101, 115, 32, 40, 41, 32, 40, 40, 95, 32, 97, 32, 46, 46, 46, 41, 32, 40, 108, 105, 115, 116, 32, 97, 32, 46, 46, 46, 32, 97, 32, 46, 46, 46, 41, 41, 41]⟩ : ByteArray) t5F10 := ⟨Tr.add 100 (fun m => by kernel_rfl), of_decide_eq_true (by kernel_rfl), Form.fitB_fit (by kernel_rfl)⟩
def t5F11 : Form := (Form.mk 3 (⟨#[]⟩ : ByteArray) 0 ([] : List Int) [(Form.mk 1 (⟨#[116, 119, 105, 99, 101]⟩ : ByteArray) 0 ([] : List Int) ([] : List Form)), (Form.mk 2 (⟨#[]⟩ : ByteArray) 1 ([] : List Int) ([] : List Form)), (Form.mk 2 (⟨#[]⟩ : ByteArray) 2 ([] : List Int) ([] : List Form))])
theorem t5P11 : Parsed (⟨#[40, 116, 119, 105, 99, 101, 32, 49, 32, 50, 41]⟩ : ByteArray) t5F11 := ⟨Tr.add 100 (fun m => by kernel_rfl), of_decide_eq_true (by kernel_rfl), Form.fitB_fit (by kernel_rfl)⟩
def t5F12 : Form := (Form.mk 3 (⟨#[]⟩ : ByteArray) 0 ([] : List Int) [(Form.mk 1 (⟨#[114, 117, 108, 101, 115]⟩ : ByteArray) 0 ([] : List Int) ([] : List Form)), (Form.mk 3 (⟨#[]⟩ : ByteArray) 0 ([] : List Int) ([] : List Form)), (Form.mk 3 (⟨#[]⟩ : ByteArray) 0 ([] : List Int) [(Form.mk 3 (⟨#[]⟩ : ByteArray) 0 ([] : List Int) [(Form.mk 1 (⟨#[95]⟩ : ByteArray) 0 ([] : List Int) ([] : List Form)), (Form.mk 1 (⟨#[97]⟩ : ByteArray) 0 ([] : List Int) ([] : List Form)), (Form.mk 1 (⟨#[46, 46, 46]⟩ : ByteArray) 0 ([] : List Int) ([] : List Form))]), (Form.mk 3 (⟨#[]⟩ : ByteArray) 0 ([] : List Int) [(Form.mk 3 (⟨#[]⟩ : ByteArray) 0 ([] : List Int) [(Form.mk 1 (⟨#[97]⟩ : ByteArray) 0 ([] : List Int) ([] : List Form)), (Form.mk 2 (⟨#[]⟩ : ByteArray) 1 ([] : List Int) ([] : List Form))]), (Form.mk 1 (⟨#[46, 46, 46]⟩ : ByteArray) 0 ([] : List Int) ([] : List Form))])]), (Form.mk 3 (⟨#[]⟩ : ByteArray) 0 ([] : List Int) [(Form.mk 3 (⟨#[]⟩ : ByteArray) 0 ([] : List Int) [(Form.mk 1 (⟨#[95]⟩ : ByteArray) 0 ([] : List Int) ([] : List Form)), (Form.mk 1 (⟨#[98]⟩ : ByteArray) 0 ([] : List Int) ([] : List Form))]), (Form.mk 1 (⟨#[98]⟩ : ByteArray) 0 ([] : List Int) ([] : List Form))])])
theorem t5P12 : Parsed (⟨#[40, 114, 117, 108, 101, 115, 32, 40, 41, 32, 40, 40, 95, 32, 97, 32, 46, 46, 46, 41, 32, 40, 40, 97, 32, 49, 41, 32, 46, 46, 46, 41, 41, 32, 40, 40, 95, 32, 98, 41, 32, 98, 41, 41]⟩ : ByteArray) t5F12 := ⟨Tr.add 100 (fun m => by kernel_rfl), of_decide_eq_true (by kernel_rfl), Form.fitB_fit (by kernel_rfl)⟩
def t5F13 : Form := (Form.mk 3 (⟨#[]⟩ : ByteArray) 0 ([] : List Int) [(Form.mk 1 (⟨#[112, 97, 105, 114, 115]⟩ : ByteArray) 0 ([] : List Int) ([] : List Form)), (Form.mk 1 (⟨#[112]⟩ : ByteArray) 0 ([] : List Int) ([] : List Form)), (Form.mk 1 (⟨#[113]⟩ : ByteArray) 0 ([] : List Int) ([] : List Form))])
theorem t5P13 : Parsed (⟨#[40, 112, 97, 105, 114, 115, 32, 112, 32, 113, 41]⟩ : ByteArray) t5F13 := ⟨Tr.add 100 (fun m => by kernel_rfl), of_decide_eq_true (by kernel_rfl), Form.fitB_fit (by kernel_rfl)⟩
def t5F14 : Form := (Form.mk 3 (⟨#[]⟩ : ByteArray) 0 ([] : List Int) [(Form.mk 1 (⟨#[114, 117, 108, 101, 115]⟩ : ByteArray) 0 ([] : List Int) ([] : List Form)), (Form.mk 3 (⟨#[]⟩ : ByteArray) 0 ([] : List Int) ([] : List Form)), (Form.mk 3 (⟨#[]⟩ : ByteArray) 0 ([] : List Int) [(Form.mk 3 (⟨#[]⟩ : ByteArray) 0 ([] : List Int) [(Form.mk 1 (⟨#[95]⟩ : ByteArray) 0 ([] : List Int) ([] : List Form)), (Form.mk 1 (⟨#[97]⟩ : ByteArray) 0 ([] : List Int) ([] : List Form))]), (Form.mk 1 (⟨#[97]⟩ : ByteArray) 0 ([] : List Int) ([] : List Form))]), (Form.mk 3 (⟨#[]⟩ : ByteArray) 0 ([] : List Int) [(Form.mk 3 (⟨#[]⟩ : ByteArray) 0 ([] : List Int) [(Form.mk 1 (⟨#[95]⟩ : ByteArray) 0 ([] : List Int) ([] : List Form)), (Form.mk 2 (⟨#[]⟩ : ByteArray) 5 ([] : List Int) ([] : List Form))]), (Form.mk 2 (⟨#[]⟩ : ByteArray) 6 ([] : List Int) ([] : List Form))]), (Form.mk 3 (⟨#[]⟩ : ByteArray) 0 ([] : List Int) [(Form.mk 3 (⟨#[]⟩ : ByteArray) 0 ([] : List Int) [(Form.mk 1 (⟨#[95]⟩ : ByteArray) 0 ([] : List Int) ([] : List Form)), (Form.mk 1 (⟨#[97]⟩ : ByteArray) 0 ([] : List Int) ([] : List Form)), (Form.mk 1 (⟨#[98]⟩ : ByteArray) 0 ([] : List Int) ([] : List Form))]), (Form.mk 1 (⟨#[98]⟩ : ByteArray) 0 ([] : List Int) ([] : List Form))])])
theorem t5P14 : Parsed (⟨#[40, 114, 117, 108, 101, 115, 32, 40, 41, 32, 40, 40, 95, 32, 97, 41, 32, 97, 41, 32, 40, 40, 95, 32, 53, 41, 32, 54, 41, 32, 40, 40, 95, 32, 97, 32, 98, 41, 32, 98, 41, 41]⟩ : ByteArray) t5F14 := ⟨Tr.add 100 (fun m => by kernel_rfl), of_decide_eq_true (by kernel_rfl), Form.fitB_fit (by kernel_rfl)⟩
def t5F15 : Form := (Form.mk 3 (⟨#[]⟩ : ByteArray) 0 ([] : List Int) [(Form.mk 1 (⟨#[107]⟩ : ByteArray) 0 ([] : List Int) ([] : List Form)), (Form.mk 2 (⟨#[]⟩ : ByteArray) 5 ([] : List Int) ([] : List Form))])
theorem t5P15 : Parsed (⟨#[40, 107, 32, 53, 41]⟩ : ByteArray) t5F15 := ⟨Tr.add 100 (fun m => by kernel_rfl), of_decide_eq_true (by kernel_rfl), Form.fitB_fit (by kernel_rfl)⟩
def t5T : List (List ByteArray) := [[(⟨#[40, 114, 117, 108, 101, 115, 32, 40, 41, 32, 40, 40, 95, 32, 97, 32, 98, 41, 32, 40, 108, 101, 116, 32, 40, 40, 116, 109, 112, 32, 97, 41, 41, 32, 40, 108, 105, 115, 116, 32, 98, 32, 116, 109, 112, 41, 41, 41, 41]⟩ : ByteArray), (⟨#[40, 115, 119, 97, 112, 32, 120, 32, 121, 41]⟩ : ByteArray)], [(⟨#[40, 114, 117, 108, 101, 115, 32, 40, 41, 32, 40, 40, 95, 41, 32, 48, 41, 32, 40, 40, 95, 32, 97, 41, 32, 97, 41, 32, 40, 40, 95, 32, 97, 32, 98, 32, 46, 46, 46, 41, 32, 40, 105, 102, 32, 97, 32, 49, 32, 40, 111, 114, 32, 98, 32, 46, 46, 46, 41, 41, 41, 41]⟩ : ByteArray), (⟨#[40, 111, 114, 32, 120, 32, 121, 32, 122, 41]⟩ : ByteArray)], [(⟨#[40, 114, 117, 108, 101, 115, 32, 40, 41, 32, 40, 40, 95, 32, 40, 40, 120, 32, 118, 41, 32, 46, 46, 46, 41, 32, 98, 111, 100, 121, 41, 32, 40, 40, 108, 97, 109, 98, 100, 97, 32, 40, 120, 32, 46, 46, 46, 41, 32, 98, 111, 100, 121, 41, 32, 118, 32, 46, 46, 46, 41, 41, 41]⟩ : ByteArray), (⟨#[40, 109, 121, 108, 101, 116, 32, 40, 40, 112, 32, 49, 41, 32, 40, 113, 32, 50, 41, 41, 32, 40, 102, 32, 112, 32, 113, 41, 41]⟩ : ByteArray)], [(⟨#[40, 114, 117, 108, 101, 115, 32, 40, 101, 108, 115, 101, 41, 32, 40, 40, 95, 32, 101, 108, 115, 101, 32, 101, 41, 32, 101, 41, 32, 40, 40, 95, 32, 99, 32, 101, 32, 114, 32, 46, 46, 46, 41, 32, 40, 105, 102, 32, 99, 32, 101, 32, 40, 99, 111, 110, 100, 32, 114, 32, 46, 46, 46, 41, 41, 41, 41]⟩ : ByteArray), (⟨#[40, 99, 111, 110, 100, 32, 112, 32, 49, 32, 101, 108, 115, 101, 32, 50, 41]⟩ : ByteArray)], [(⟨#[40, 114, 117, 108, 101, 115, 32, 40, 41, 32, 40, 40, 95, 32, 40, 97, 32, 98, 32, 46, 46, 46, 41, 32, 46, 46, 46, 41, 32, 40, 109, 32, 40, 97, 32, 46, 46, 46, 41, 32, 40, 40, 97, 32, 98, 32, 46, 46, 46, 41, 32, 46, 46, 46, 41, 32, 49, 41, 41, 41]⟩ : ByteArray), (⟨#[40, 109, 32, 40, 120, 32, 49, 32, 50, 41, 32, 40, 121, 41, 41]⟩ : ByteArray)], [(⟨#[40, 114, 117, 108, 101, 115, 32, 40, 41, 32, 40, 40, 95, 32, 97, 32, 46, 46, 46, 41, 32, 40, 108, 105, 115, 116, 32, 97, 32, 46, 46, 46, 32, 97, 32, 46, 46, 46, 41, 41, 41]⟩ : ByteArray), (⟨#[40, 116, 119, 105, 99, 101, 32, 49, 32, 50, 41]⟩ : ByteArray)], [(⟨#[40, 114, 117, 108, 101, 115, 32, 40, 41, 32, 40, 40, 95, 32, 97, 32, 46, 46, 46, 41, 32, 40, 40, 97, 32, 49, 41, 32, 46, 46, 46, 41, 41, 32, 40, 40, 95, 32, 98, 41, 32, 98, 41, 41]⟩ : ByteArray), (⟨#[40, 112, 97, 105, 114, 115, 32, 112, 32, 113, 41]⟩ : ByteArray)], [(⟨#[40, 114, 117, 108, 101, 115, 32, 40, 41, 32, 40, 40, 95, 32, 97, 41, 32, 97, 41, 32, 40, 40, 95, 32, 53, 41, 32, 54, 41, 32, 40, 40, 95, 32, 97, 32, 98, 41, 32, 98, 41, 41]⟩ : ByteArray), (⟨#[40, 107, 32, 53, 41]⟩ : ByteArray)]]
theorem t5T_tr : Tr (fun m => m_spec_l5Texts m) t5T := Tr.of (fun m => rfl)
theorem t5T_all : Pairs [(t5F0, t5F1), (t5F2, t5F3), (t5F4, t5F5), (t5F6, t5F7), (t5F8, t5F9), (t5F10, t5F11), (t5F12, t5F13), (t5F14, t5F15)] t5T := ⟨_, _, rfl, ⟨_, _, rfl, t5P0, t5P1⟩, ⟨_, _, rfl, ⟨_, _, rfl, t5P2, t5P3⟩, ⟨_, _, rfl, ⟨_, _, rfl, t5P4, t5P5⟩, ⟨_, _, rfl, ⟨_, _, rfl, t5P6, t5P7⟩, ⟨_, _, rfl, ⟨_, _, rfl, t5P8, t5P9⟩, ⟨_, _, rfl, ⟨_, _, rfl, t5P10, t5P11⟩, ⟨_, _, rfl, ⟨_, _, rfl, t5P12, t5P13⟩, ⟨_, _, rfl, ⟨_, _, rfl, t5P14, t5P15⟩, rfl⟩⟩⟩⟩⟩⟩⟩⟩
end Go.Abs
end
section
set_option linter.unusedVariables false
set_option linter.unusedSimpArgs false
namespace Go.Abs
theorem Tr.uniq {α : Type} {F : Nat → Option α} {v w : α} (h1 : Tr F v) (h2 : Tr F w) : v = w := by
  obtain ⟨n1, h1⟩ := h1
  obtain ⟨n2, h2⟩ := h2
  have a := h1 (n1 + n2) (by omega)
  rw [h2 (n1 + n2) (by omega)] at a
  exact (Option.some.inj a).symm
theorem TQ.and {α : Type} {F : Nat → Option α} {Q R : α → Prop} (h1 : TQ F Q) (h2 : TQ F R) : TQ F (fun r => Q r ∧ R r) := by
  obtain ⟨v, h1, q⟩ := h1
  obtain ⟨w, h2, r⟩ := h2
  obtain rfl := h1.uniq h2
  exact ⟨v, h1, q, r⟩
theorem TQ.of_tr {α : Type} {F : Nat → Option α} {Q : α → Prop} {v : α} (h : Tr F v) (hq : TQ F Q) : Q v := by
  obtain ⟨w, h2, q⟩ := hq
  obtain rfl := h.uniq h2
  exact q
theorem l1Mutate_len (c : Form) (o : l15Rd) (K : Int) (ho : OkRd o K) (hb : c.w ≤ 2 ^ 30) (hf : c.fit) (hK : K + 3 * c.w ≤ 1000000000) : TQ (fun m => m_spec_l1Mutate m o c) (fun r => r.1.kids.length = c.kids.length) := by
  have hw := c.w_kids
  obtain ⟨f1, f2, f3, f4⟩ := hf.parts
  have leaf : ∀ (o : l15Rd) (K : Int), OkRd o K → K + 2 ≤ 1000000000 → TQ (mutF c o) (fun r => r.1.kids.length = c.kids.length) := by
    intro o K ho hK
    unfold mutF
    refine TQ.bind (pick_tq o 14 _ ho (by omega)) (fun v hv => ?_)
    refine TQ.cond (fun _ => ?_) (fun _ => TQ.cond (fun _ => ?_) (fun _ => TQ.cond (fun _ => ?_) (fun _ => TQ.cond (fun _ => ?_) (fun _ => ?_))))
    · exact TQ.bind (num_tq _ _ _ hv.1 (by omega) (by decide)) (fun w hw => TQ.val rfl)
    · exact TQ.bind (of_tq _ _ _ hv.1 (by omega) (by decide)) (fun w hw => TQ.val rfl)
    · exact TQ.bind (num_tq _ _ _ hv.1 (by omega) (by decide)) (fun w hw => TQ.val rfl)
    · exact TQ.bind (num_tq _ _ _ hv.1 (by omega) (by decide)) (fun w hw => TQ.chk (by simp; omega) (TQ.val rfl))
    · exact TQ.val rfl
  refine TQ.step (fun m => by rw [m_spec_l1Mutate]) ?_
  refine TQ.ev (l1Copy_tr _ c (Nat.le_refl _) (by omega)) ?_
  refine TQ.cond (fun hc => ?_) (fun _ => leaf o K ho (by omega))
  have hpos : 0 < c.kids.length := by simpa using hc
  have hl := Form.ws_len c.kids
  refine TQ.bind (pick_tq o 2 _ ho (by omega)) (fun v hv => ?_)
  refine TQ.cond (fun _ => ?_) (fun _ => leaf _ _ hv.1 (by omega))
  refine TQ.bind (pick_tq _ _ _ hv.1 (by omega)) (fun w hw2 => ?_)
  obtain ⟨h1, _, h2, _⟩ := hw2
  obtain ⟨h2, h3⟩ := h2 (by omega)
  obtain ⟨x, hx, hm⟩ := idx_int h2 h3
  have hxw := Form.ws_mem hm
  obtain ⟨r, hr, _⟩ := l1Mutate_tq _ x w.2 _ (Nat.le_refl _) h1 (by omega) (Form.fits_mem f4 hm) (by omega)
  exact ⟨_, Tr.idx hx (Tr.bind hr (Tr.idx hx Tr.val)), by show (c.kids.set _ _).length = _; rw [List.length_set]⟩
theorem mutate2_len (c : Form) (o : l15Rd) (K : Int) (ho : OkRd o K) (hc : Dr 1000 c) (hK : K ≤ 1000000) {β : Type} {g : Form → l15Rd → Nat → Option β} {R : β → Prop}
    (h : ∀ f o', OkRd o' (K + 7000) → Dr (c.w + 2) f → f.kids.length = c.kids.length → TQ (fun m => g f o' m) R) : TQ (fun m => (m_spec_l1Mutate m o c).bind fun v => (m_spec_l1Mutate m v.2 v.1).bind fun u => g u.1 u.2 m) R := by
  have h1 := hc.w
  refine TQ.bind (TQ.and (l1Mutate_tq _ c o K (Nat.le_refl _) ho (by omega) hc.fit (by omega)) (l1Mutate_len c o K ho (by omega) hc.fit (by omega))) (fun v hv => ?_)
  obtain ⟨⟨v1, v2, v3⟩, v4⟩ := hv
  refine TQ.bind (TQ.and (l1Mutate_tq _ v.1 v.2 _ (Nat.le_refl _) v1 (by omega) v3 (by omega)) (l1Mutate_len v.1 v.2 _ v1 (by omega) v3 (by omega))) (fun u hu => ?_)
  obtain ⟨⟨u1, u2, u3⟩, u4⟩ := hu
  exact h _ _ (u1.mono (by omega)) ⟨by omega, u3⟩ (by omega)
noncomputable def rulesOkB (rules : List Rule) (lits : List Form) : Bool := alls (fun r => ruleOk r lits) rules && (decide ((rules.length : Int) ≤ 9) && litOk lits)
structure DrR (n : Nat) (r : Rule) : Prop where
  p : Dr n r.pattern
  t : Dr n r.template
theorem l5Rules_tr (rules : List Rule) (lits : List Form) (hr : ∀ r ∈ rules, DrR (2 ^ 36) r) (hl : Form.fits lits) (hlb : Form.ws lits ≤ 2 ^ 36) : Tr (fun m => m_spec_l5Rules m rules lits) (rulesOkB rules lits) := by
  refine Tr.eq (fun m => by unfold m_spec_l5Rules; rfl) ?_
  have key := drop_ind rules (fun k zs => (∀ z ∈ zs, z ∈ rules) → Tr (fun m => m_spec_l5Rules_l1 m rules lits (k : Int)) (alls (fun r => ruleOk r lits) zs && (decide ((rules.length : Int) ≤ 9) && litOk lits))) ?_ ?_ 0 (Nat.zero_le _) (fun z hz => by simpa using hz)
  · exact key
  · intro _
    refine Tr.step (fun m => by rw [m_spec_l5Rules_l1, ltN_self, cond_false]) (Tr.step (fun m => by rw [m_spec_l5Rules_j2, cond_false]) ?_)
    rw [alls, Bool.true_and]
    by_cases h9 : (rules.length : Int) ≤ 9
    · rw [decide_eq_true h9, Bool.true_and]
      exact Tr.tt (decide_eq_true (by omega)) (Tr.bind (specLit_tr lits hl hlb) Tr.val)
    · rw [decide_eq_false h9, Bool.false_and]
      exact Tr.ff (decide_eq_false (by omega)) Tr.val
  · intro k x zs hk hx hd ih hz
    have hxr := hr x (hz x (by simp))
    refine Tr.step (fun m => by rw [m_spec_l5Rules_l1, ltN hk, cond_true]) ?_
    by_cases h10 : (k : Int) < 10
    · refine Tr.step (fun m => by rw [m_spec_l5Rules_j2, decide_eq_true h10, cond_true, idx_nat hx, Option.bind_some]) ?_
      have hsr := specRuleValid_tr x lits hxr.p.fit hxr.p.w hxr.t.fit hxr.t.w hl hlb
      have hsr2 : Tr (fun m => m_spec_l5Rule m x lits) (ruleOk x lits) := by
        obtain ⟨n, h⟩ := hsr
        refine ⟨n, fun m hm => ?_⟩
        have := h m hm
        unfold m_spec_RuleValid at this
        show m_spec_l5Rule m x lits = _
        replace this : (m_spec_l5Rule m x lits).bind (fun v1 => some v1) = some (ruleOk x lits) := this
        cases h5 : m_spec_l5Rule m x lits with
        | none => rw [h5] at this; cases this
        | some b => rw [h5] at this; exact this
      refine Tr.bind hsr2 ?_
      rw [alls]
      cases ruleOk x lits with
      | false => exact Tr.tt rfl Tr.val
      | true => exact Tr.ff rfl (Tr.eq (fun m => by rw [w64_in (by omega), succN]) (ih (fun z h => hz z (by simp [h]))))
    · refine Tr.step (fun m => by rw [m_spec_l5Rules_j2, decide_eq_false h10, cond_false]) ?_
      rw [decide_eq_false (show ¬ (rules.length : Int) ≤ 9 by omega), Bool.false_and, Bool.and_false]
      exact Tr.ff (decide_eq_false (by omega)) Tr.val
def ruleOf (x : Form) : Rule := Rule.mk (x.kids.getD 0 form0) (x.kids.getD 1 form0)
def ruleShape (x : Form) : Bool := decide (x.kind = 3) && decide (x.kids.length = 2)
def rulesN : ByteArray := ⟨#[114, 117, 108, 101, 115]⟩
def isRules (f : Form) : Bool := f.valid && (decide (f.kind = 3) && (decide (2 ≤ f.kids.length) && (decide ((f.kids.getD 0 form0).name = rulesN) && decide ((f.kids.getD 1 form0).kind = 3))))
noncomputable def parseR (f : Form) : List Form × List Rule × Bool :=
  bif isRules f then
    bif alls ruleShape (f.kids.drop 2) then
      bif rulesOkB ((f.kids.drop 2).map ruleOf) (f.kids.getD 1 form0).kids then ((f.kids.getD 1 form0).kids, (f.kids.drop 2).map ruleOf, true) else ([], [], false)
    else ([], [], false)
  else ([], [], false)
theorem getD_mem {α : Type} {l : List α} {k : Nat} {d : α} (h : k < l.length) : l[k]? = some (l.getD k d) ∧ l.getD k d ∈ l := by
  have : l[k]? = some (l.getD k d) := by rw [List.getD_eq_getElem?_getD, List.getElem?_eq_getElem h]; rfl
  exact ⟨this, List.mem_of_getElem? this⟩
theorem kid_dr {n : Nat} {f x : Form} (h : Dr n f) (hx : x ∈ f.kids) : Dr n x := ⟨by have := Form.ws_mem hx; have := f.w_kids; have := h.w; omega, Form.fits_mem h.fit.parts.2.2.2 hx⟩
theorem ruleOf_dr {n : Nat} {x : Form} (h : Dr n x) (hs : ruleShape x = true) : DrR n (ruleOf x) := by
  unfold ruleShape at hs
  rw [Bool.and_eq_true, decide_eq_true_eq, decide_eq_true_eq] at hs
  exact ⟨kid_dr h (getD_mem (by omega)).2, kid_dr h (getD_mem (by omega)).2⟩
theorem specParseRules_tr (f : Form) (hf : Dr (2 ^ 30) f) : Tr (fun m => m_spec_ParseRules m f) (parseR f) := by
  have hw := f.w_kids
  have hfw := hf.w
  have hfl := Form.ws_len f.kids
  refine Tr.eq (fun m => by unfold m_spec_ParseRules; rfl) (Tr.bind (specFormValid_tr f hf.fit (by omega)) ?_)
  have no : Tr (fun m => m_spec_ParseRules_j1 m f true) (([] : List Form), ([] : List Rule), false) := Tr.step (fun m => by rw [m_spec_ParseRules_j1]; rfl) Tr.val
  unfold parseR isRules
  cases f.valid with
  | false => exact Tr.tt rfl no
  | true =>
  refine Tr.ff rfl ?_
  by_cases h3 : f.kind = 3
  case neg => rw [decide_eq_false h3]; exact Tr.tt (by simpa using h3) no
  rw [decide_eq_true h3]
  refine Tr.ff (by simpa using h3) ?_
  by_cases h2 : 2 ≤ f.kids.length
  case neg => rw [decide_eq_false h2]; exact Tr.tt (decide_eq_true (by omega)) no
  rw [decide_eq_true h2]
  obtain ⟨g0, m0⟩ := getD_mem (l := f.kids) (k := 0) (d := form0) (by omega)
  obtain ⟨g1, m1⟩ := getD_mem (l := f.kids) (k := 1) (d := form0) (by omega)
  generalize hk0 : f.kids.getD 0 form0 = k0 at g0 m0
  generalize hk1 : f.kids.getD 1 form0 = k1 at g1 m1
  have i0 : idx f.kids 0 = some k0 := idx_nat g0
  have i1 : idx f.kids 1 = some k1 := idx_nat g1
  refine Tr.ff (decide_eq_false (by omega)) (Tr.eq (fun m => by rw [i0, Option.bind_some]) ?_)
  by_cases hn : k0.name = rulesN
  case neg => rw [decide_eq_false hn]; exact Tr.tt (decide_eq_true hn) no
  rw [decide_eq_true hn]
  refine Tr.ff (decide_eq_false (not_not_intro hn)) (Tr.eq (fun m => by rw [i1, Option.bind_some]) ?_)
  by_cases hk : k1.kind = 3
  case neg => rw [decide_eq_false hk]; exact Tr.eq (fun m => by rw [decide_eq_true (show k1.kind ≠ 3 from hk)]) no
  rw [decide_eq_true hk]
  refine Tr.step (fun m => by rw [m_spec_ParseRules_j1, decide_eq_false (show ¬ k1.kind ≠ 3 by simp [hk]), cond_false]) ?_
  rw [Bool.and_true, Bool.and_true, Bool.and_true, Bool.and_true, cond_true]
  have d1 := kid_dr hf m1
  have d1w := d1.w
  have k1w := k1.w_kids
  have k1l := Form.ws_len k1.kids
  -- what comes behind the literals
  have tail : Tr (fun m => m_spec_ParseRules_j2 m f k1.kids) (bif alls ruleShape (f.kids.drop 2) then
      bif rulesOkB ((f.kids.drop 2).map ruleOf) k1.kids then (k1.kids, (f.kids.drop 2).map ruleOf, true) else ([], [], false)
    else ([], [], false)) := by
    refine Tr.step (fun m => by rw [m_spec_ParseRules_j2]) ?_
    have key : ∀ (zs : List Form) (k : Nat) (rs : List Rule), f.kids.drop k = zs → rs.length ≤ k → alls ruleShape zs = alls ruleShape (f.kids.drop 2) → (alls ruleShape zs = true → rs ++ zs.map ruleOf = (f.kids.drop 2).map ruleOf) → Tr (fun m => m_spec_ParseRules_l5 m f k1.kids rs (k : Int)) (bif alls ruleShape (f.kids.drop 2) then
      bif rulesOkB ((f.kids.drop 2).map ruleOf) k1.kids then (k1.kids, (f.kids.drop 2).map ruleOf, true) else ([], [], false)
    else ([], [], false)) := by
      intro zs
      induction zs with
      | nil =>
        intro k rs hd hr ha he
        have hk' : ¬ k < f.kids.length := by have := congrArg List.length hd; rw [List.length_drop] at this; simp at this; omega
        rw [← ha]
        have he2 := he rfl
        rw [List.map_nil, List.append_nil] at he2
        rw [alls, cond_true]
        refine Tr.step (fun m => by rw [m_spec_ParseRules_l5, geN hk', cond_false]) (Tr.step (fun m => by rw [m_spec_ParseRules_j4]) ?_)
        rw [he2]
        have hall : alls ruleShape (f.kids.drop 2) = true := by rw [← ha]; rfl
        refine Tr.bind (l5Rules_tr _ k1.kids (fun r hr => ?_) d1.fit.parts.2.2.2 (by omega)) ?_
        · obtain ⟨x, hx, rfl⟩ := List.mem_map.1 hr
          have := ruleOf_dr (kid_dr hf (List.mem_of_mem_drop hx)) (alls_iff.1 hall x hx)
          exact ⟨this.p.mono (by omega), this.t.mono (by omega)⟩
        · cases rulesOkB ((f.kids.drop 2).map ruleOf) k1.kids with
          | false => exact Tr.tt rfl Tr.val
          | true => exact Tr.ff rfl Tr.val
      | cons x xs ih =>
        intro k rs hd hr ha he
        have hk' : k < f.kids.length := by have := congrArg List.length hd; rw [List.length_drop] at this; simp at this; omega
        have hx : f.kids[k]? = some x := by
          have := congrArg (fun l => l[0]?) hd
          simpa using this
        have hd2 : f.kids.drop (k + 1) = xs := by rw [← List.drop_drop, hd]; rfl
        have hxm := List.mem_of_getElem? hx
        rw [alls] at ha he
        have j6 : ∀ b : Bool, ruleShape x = !b → Tr (fun m => m_spec_ParseRules_j6 m f k1.kids rs (k : Int) b) (bif alls ruleShape (f.kids.drop 2) then
      bif rulesOkB ((f.kids.drop 2).map ruleOf) k1.kids then (k1.kids, (f.kids.drop 2).map ruleOf, true) else ([], [], false)
    else ([], [], false)) := by
          intro b hb
          cases b with
          | true =>
            rw [hb, Bool.not_true, Bool.false_and] at ha
            rw [← ha]
            exact Tr.step (fun m => by rw [m_spec_ParseRules_j6, cond_true]; rfl) Tr.val
          | false =>
            rw [hb, Bool.not_false, Bool.true_and] at ha he
            have hs2 : ruleShape x = true := hb
            have hs := hs2
            unfold ruleShape at hs
            rw [Bool.and_eq_true, decide_eq_true_eq, decide_eq_true_eq] at hs
            obtain ⟨e0, _⟩ := getD_mem (l := x.kids) (k := 0) (d := form0) (by omega)
            obtain ⟨e1, _⟩ := getD_mem (l := x.kids) (k := 1) (d := form0) (by omega)
            have q0 : idx x.kids 0 = some (x.kids.getD 0 form0) := idx_nat e0
            have q1 : idx x.kids 1 = some (x.kids.getD 1 form0) := idx_nat e1
            have dr := ruleOf_dr (kid_dr hf hxm) hs2
            refine Tr.step (fun m => by rw [m_spec_ParseRules_j6, cond_false, idx_nat hx, Option.bind_some, q0, Option.bind_some]) ?_
            refine Tr.bind (l1Copy_tr _ _ (Nat.le_refl _) (by have h := dr.p.w; have h2 : (x.kids.getD 0 form0).w ≤ 2 ^ 30 := h; omega)) (Tr.eq (fun m => by rw [Option.bind_some, q1, Option.bind_some]) ?_)
            refine Tr.bind (l1Copy_tr _ _ (Nat.le_refl _) (by have h := dr.t.w; have h2 : (x.kids.getD 1 form0).w ≤ 2 ^ 30 := h; omega)) ?_
            refine Tr.chk (decide_eq_true (by simp; omega)) (Tr.eq (fun m => by rw [succN]; rfl) (ih (k + 1) (rs ++ [ruleOf x]) hd2 (by simp; omega) ha (fun h => ?_)))
            have := he h
            rw [List.map_cons] at this
            rw [List.append_assoc]
            exact this
        refine Tr.step (fun m => by rw [m_spec_ParseRules_l5, ltN hk', cond_true, idx_nat hx, Option.bind_some, Option.bind_some]) ?_
        unfold ruleShape at j6
        by_cases h3 : x.kind = 3
        · refine Tr.ff (by simpa using h3) (j6 _ ?_)
          rw [decide_eq_true h3, Bool.true_and]
          by_cases h2 : x.kids.length = 2
          · rw [decide_eq_true h2, decide_eq_false (by omega)]; rfl
          · rw [decide_eq_false h2, decide_eq_true (by omega)]; rfl
        · refine Tr.tt (by simpa using h3) (j6 true ?_)
          rw [decide_eq_false h3]; rfl
    exact key (f.kids.drop 2) 2 [] rfl (by simp) rfl (fun _ => by simp)
  have lits := drop_ind k1.kids (fun k zs => ∀ g : List Form, g ++ zs = k1.kids → g.length = k → Tr (fun m => m_spec_ParseRules_l3 m f g (k : Int)) (bif alls ruleShape (f.kids.drop 2) then
      bif rulesOkB ((f.kids.drop 2).map ruleOf) k1.kids then (k1.kids, (f.kids.drop 2).map ruleOf, true) else ([], [], false)
    else ([], [], false))) ?_ ?_ 0 (Nat.zero_le _) [] (by simp) rfl
  · exact lits
  · intro g hg _
    rw [List.append_nil] at hg
    subst hg
    exact Tr.step (fun m => by rw [m_spec_ParseRules_l3, i1, Option.bind_some, ltN_self, cond_false]) tail
  · intro k x zs hk' hx hd ih g hg hgl
    have hxm := List.mem_of_getElem? hx
    have := Form.ws_mem hxm
    refine Tr.step (fun m => by rw [m_spec_ParseRules_l3, i1, Option.bind_some, ltN hk', cond_true, Option.bind_some, idx_nat hx, Option.bind_some, succN]) ?_
    refine Tr.bind (l1Copy_tr _ x (Nat.le_refl _) (by omega)) (Tr.chk (decide_eq_true (by simp; omega)) (ih (g ++ [x]) (by rw [List.append_assoc]; exact hg) (by simp [hgl])))
structure Dr5 (lits : List Form) (rules : List Rule) (f : Form) : Prop where
  lw : Form.ws lits ≤ 400
  lf : Form.fits lits
  ne : 0 < rules.length
  len : rules.length ≤ 400
  r : ∀ r ∈ rules, DrR 200 r
  f : Dr 400 f
theorem parseR_dr {f : Form} (hf : Dr 102 f) (h3 : 3 ≤ f.kids.length) (hok : (parseR f).2.2 = true) : Form.ws (parseR f).1 ≤ 400 ∧ Form.fits (parseR f).1 ∧ 0 < (parseR f).2.1.length ∧ (parseR f).2.1.length ≤ 400 ∧ ∀ r ∈ (parseR f).2.1, DrR 200 r := by
  have hw := f.w_kids
  have hl := Form.ws_len f.kids
  have hfw := hf.w
  unfold parseR at hok ⊢
  cases h1 : isRules f with
  | false => rw [h1] at hok; cases hok
  | true =>
  rw [h1, cond_true] at hok; rw [cond_true]
  cases h2 : alls ruleShape (f.kids.drop 2) with
  | false => rw [h2] at hok; cases hok
  | true =>
  rw [h2, cond_true] at hok; rw [cond_true]
  cases h4 : rulesOkB ((f.kids.drop 2).map ruleOf) (f.kids.getD 1 form0).kids with
  | false => rw [h4] at hok; cases hok
  | true =>
  rw [cond_true]
  have d1 := kid_dr hf (getD_mem (l := f.kids) (k := 1) (d := form0) (by omega)).2
  have d1w := d1.w
  have k1w := (f.kids.getD 1 form0).w_kids
  refine ⟨by dsimp only; omega, d1.fit.parts.2.2.2, by simp; omega, by simp; omega, fun r hr => ?_⟩
  obtain ⟨x, hx, rfl⟩ := List.mem_map.1 hr
  have := ruleOf_dr (kid_dr hf (List.mem_of_mem_drop hx)) (alls_iff.1 h2 x hx)
  exact ⟨this.p.mono (by omega), this.t.mono (by omega)⟩
theorem t5_kids : ∀ p ∈ [(t5F0, t5F1), (t5F2, t5F3), (t5F4, t5F5), (t5F6, t5F7), (t5F8, t5F9), (t5F10, t5F11), (t5F12, t5F13), (t5F14, t5F15)], 3 ≤ p.1.kids.length := by
  intro p hp
  simp only [List.mem_cons, List.not_mem_nil, or_false] at hp
  rcases hp with rfl | rfl | rfl | rfl | rfl | rfl | rfl | rfl <;> exact of_decide_eq_true (by kernel_rfl)
theorem t5_first : ∃ b, Abs.idx t5T 0 = some [(⟨#[40, 114, 117, 108, 101, 115, 32, 40, 41, 32, 40, 40, 95, 32, 97, 32, 98, 41, 32, 40, 108, 101, 116, 32, 40, 40, 116, 109, 112, 32, 97, 41, 41, 32, 40, 108, 105, 115, 116, 32, 98, 32, 116, 109, 112, 41, 41, 41, 41]⟩ : ByteArray), b] := ⟨_, rfl⟩
theorem t5_ok : (parseR t5F0).2.2 = true := by
  have h1 := specParseRules_tr t5F0 (t5P0.dr.mono (by omega))
  have h2 : TQ (fun m => m_spec_ParseRules m t5F0) (fun r => r.2.2 = true) := by
    refine ⟨_, Tr.add 200 (v := ([], [ruleOf (t5F0.kids.getD 2 form0)], true)) (fun m => by kernel_rfl), rfl⟩
  exact TQ.of_tr (Q := fun r => r.2.2 = true) h1 h2
theorem l5Case_tq (code : List Int) (hc : ∀ x ∈ code, 0 ≤ x ∧ x < 256) : TQ (fun m => m_spec_l5Case m code) (fun r => Dr5 r.1 r.2.1 r.2.2) := by
  refine TQ.eq (fun m => by unfold m_spec_l5Case; rfl) ?_
  refine TQ.bind (open_tq code hc) (fun o ho => TQ.ev t5T_tr (TQ.bind (pick_tq o _ _ ho (by omega)) (fun v hv => ?_)))
  obtain ⟨h1, _, h2, _⟩ := hv
  obtain ⟨h2, h3⟩ := h2 (by decide)
  obtain ⟨p, hp, a, b, hi, pa, pb⟩ := pairs_tq t5T_all h2 h3
  have hp3 := t5_kids p hp
  refine TQ.at hi (TQ.at (idx2_0 _ _) (TQ.ev pa.tr (TQ.bind (pick_tq _ 10 _ h1 (by omega)) (fun w hw => ?_))))
  -- the second part
  have j2 : ∀ (o : l15Rd) (K : Int) (lits : List Form) (rules : List Rule), OkRd o K → K ≤ 100000 → (Form.ws lits ≤ 400 ∧ Form.fits lits ∧ 0 < rules.length ∧ rules.length ≤ 400 ∧ ∀ r ∈ rules, DrR 200 r) → TQ (fun m => m_spec_l5Case_j2 m t5T v o.b o.p lits rules) (fun r => Dr5 r.1 r.2.1 r.2.2) := by
    intro o K lits rules ho hK hd
    obtain ⟨d1, d2, d3, d4, d5⟩ := hd
    refine TQ.step (fun m => by rw [m_spec_l5Case_j2]) (TQ.at hi (TQ.at (idx2_1 a b) (TQ.ev pb.tr (TQ.bind (pick_tq _ 8 _ ho.mk' (by omega)) (fun u hu => ?_)))))
    have u1 := hu.1
    have db := pb.dr
    refine TQ.cond (fun _ => ?_) (fun _ => TQ.cond (fun _ => ?_) (fun _ => TQ.cond (fun _ => ?_) (fun _ => ?_)))
    · refine TQ.bind (pick_tq _ _ _ u1 (by omega)) (fun z hz => ?_)
      obtain ⟨_, _, z2, _⟩ := hz
      obtain ⟨z2, z3⟩ := z2 (by decide)
      obtain ⟨q, _, a', b', hi', qa, qb⟩ := pairs_tq t5T_all z2 z3
      exact TQ.at hi' (TQ.at (idx2_1 _ _) (TQ.ev qb.tr (TQ.val ⟨d1, d2, d3, d4, d5, qb.dr.mono (by omega)⟩)))
    · exact mutate2_tq _ _ _ u1 (db.mono (by omega)) (by omega) (g := fun f _ _ => some (lits, rules, f)) (fun f o' _ hf => TQ.val ⟨d1, d2, d3, d4, d5, hf.mono (by have := db.w; omega)⟩)
    · refine TQ.bind (l1Dress_tq _ p.2 _ _ (Nat.le_refl _) u1 (by have := db.w; omega) db.fit (by have := db.w; omega)) (fun z hz => TQ.val ⟨d1, d2, d3, d4, d5, ⟨?_, hz.2.2⟩⟩)
      have := db.w; have := hz.2.1; dsimp only; omega
    · exact TQ.val ⟨d1, d2, d3, d4, d5, db.mono (by omega)⟩
  have j1 : ∀ (o : l15Rd) (K : Int) (f : Form), OkRd o K → K ≤ 100000 → Dr 102 f → 3 ≤ f.kids.length → TQ (fun m => m_spec_l5Case_j1 m t5T v o.b o.p f.kind f.name f.n f.scopes f.kids) (fun r => Dr5 r.1 r.2.1 r.2.2) := by
    intro o K f ho hK hf h3
    have e : Form.mk f.kind f.name f.n f.scopes f.kids = f := by obtain ⟨a, b, c, d, e⟩ := f; rfl
    refine TQ.step (fun m => by rw [m_spec_l5Case_j1, e]) (TQ.ev (specParseRules_tr f (hf.mono (by omega))) ?_)
    cases hok : (parseR f).2.2 with
    | true => exact TQ.cond (fun h => by cases h) (fun _ => j2 o K _ _ ho hK (parseR_dr hf h3 hok))
    | false =>
      obtain ⟨b0, hb0⟩ := t5_first
      refine TQ.cond (fun _ => TQ.at hb0 (TQ.at (idx2_0 _ _) (TQ.ev t5P0.tr (TQ.ev (specParseRules_tr t5F0 (t5P0.dr.mono (by omega))) (j2 o K _ _ ho hK (parseR_dr (t5P0.dr.mono (by omega)) (t5_kids (t5F0, t5F1) (by simp)) t5_ok)))))) (fun h => by cases h)
  have da := pa.dr
  refine TQ.cond (fun _ => ?_) (fun _ => ?_)
  · exact mutate2_len _ _ _ hw.1 (da.mono (by omega)) (by omega) (g := fun f o m => m_spec_l5Case_j1 m t5T v o.b o.p f.kind f.name f.n f.scopes f.kids) (fun f o' ho' hf hk => j1 o' _ f ho' (by omega) (hf.mono (by have := da.w; omega)) (by omega))
  · exact j1 w.2 _ p.1 hw.1 (by omega) (da.mono (by omega)) hp3
end Go.Abs
end
section
set_option linter.unusedVariables false
set_option linter.unusedSimpArgs false
namespace Go.Abs
structure Rule.fit (r : Rule) : Prop where
  p : r.pattern.fit
  t : r.template.fit
structure Macro.fit (m : Macro) : Prop where
  ll : m.literals.length ≤ 9223372036854775807
  l : Form.fits m.literals
  rl : m.rules.length ≤ 9223372036854775807
  r : ∀ r ∈ m.rules, r.fit
structure Expansion.fit (x : Expansion) : Prop where
  bl : x.binds.length ≤ 9223372036854775807
  b : ∀ b ∈ x.binds, b.fit
  ml : x.macros.length ≤ 9223372036854775807
  m : ∀ m ∈ x.macros, m.fit
end Go.Abs
end
section
set_option linter.unusedVariables false
set_option linter.unusedSimpArgs false
namespace Go.Abs
theorem fnd_any {α : Type} {D : α → Bool} {l : List α} {k : Nat} : decide (0 ≤ fnd D l k) = anys D l := by
  rw [Bool.eq_iff_iff, decide_eq_true_iff, fnd_ge, anys_iff]
end Go.Abs
end
section
set_option linter.unusedVariables false
set_option linter.unusedSimpArgs false
namespace Go.Abs
def HitD : Nat → Hit → Prop
  | 0, h => h.depth = 0 ∧ h.one.valid = true ∧ h.many = []
  | d + 1, h => h.depth = (d : Int) + 1 ∧ h.one = form0 ∧ h.many.length ≤ 400 ∧ ∀ x ∈ h.many, x.name = h.name ∧ HitD d x
def nameG (f : Form) : Bool := isNm f && (!decide (f.name = dotsN) && !decide (f.name = underN))
theorem HitD.depth {d : Nat} {h : Hit} (hd : HitD d h) : h.depth = (d : Int) := by
  cases d with
  | zero => exact hd.1
  | succ d => rw [hd.1]; omega
theorem HitD.isOk : ∀ (d : Nat) (h : Hit), d ≤ 3 → HitD d h → nameG h.name = true → h.isOk = true
  | 0, h, hd, hh, hn => by
    obtain ⟨h1, h2, h3⟩ := hh
    unfold nameG at hn
    simp only [Bool.and_eq_true] at hn
    rw [Hit.isOk_eq, hn.1, hn.2.1, hn.2.2, h1, h2, h3]; rfl
  | d + 1, h, hd, hh, hn => by
    obtain ⟨h1, h2, h3, h4⟩ := hh
    have hn0 := hn
    unfold nameG at hn
    simp only [Bool.and_eq_true] at hn
    rw [Hit.isOk_eq, hn.1, hn.2.1, hn.2.2, h1, h2, same_self, decide_eq_false (show ¬ (d : Int) + 1 = 0 by omega), decide_eq_true (show (0 : Int) ≤ (d : Int) + 1 by omega), decide_eq_true (show (d : Int) + 1 ≤ 3 by omega), decide_eq_true (show (h.many.length : Int) ≤ 400 by omega)]
    simp only [Bool.true_and, cond_false]
    rw [alls_iff]
    intro x hx
    obtain ⟨e1, e2⟩ := h4 x hx
    rw [e1, same_self, e2.depth, decide_eq_true (show (d : Int) = (d : Int) + 1 - 1 by omega), HitD.isOk d x (by omega) e2 (by rw [e1]; exact hn0)]
    rfl
end Go.Abs
end
section
set_option linter.unusedVariables false
set_option maxRecDepth 100000
namespace Go.Abs
def t6F0 : Form := (Form.mk 3 (⟨#[]⟩ : ByteArray) 0 ([] : List Int) [(Form.mk 1 (⟨#[97]⟩ : ByteArray) 0 ([] : List Int) ([] : List Form)), (Form.mk 1 (⟨#[46, 46, 46]⟩ : ByteArray) 0 ([] : List Int) ([] : List Form))])
theorem t6P0 : Parsed (⟨#[40, 97, 32, 46, 46, 46, 41]⟩ : ByteArray) t6F0 := ⟨Tr.add 100 (fun m => by kernel_rfl), of_decide_eq_true (by kernel_rfl), Form.fitB_fit (by kernel_rfl)⟩
def t6F1 : Form := (Form.mk 3 (⟨#[]⟩ : ByteArray) 0 ([] : List Int) [(Form.mk 1 (⟨#[120]⟩ : ByteArray) 0 ([] : List Int) ([] : List Form)), (Form.mk 1 (⟨#[46, 46, 46]⟩ : ByteArray) 0 ([] : List Int) ([] : List Form)), (Form.mk 1 (⟨#[46, 46, 46]⟩ : ByteArray) 0 ([] : List Int) ([] : List Form))])
theorem t6P1 : Parsed (⟨#[40, 120, 32, 46, 46, 46, 32, 46, 46, 46, 41]⟩ : ByteArray) t6F1 := ⟨Tr.add 100 (fun m => by kernel_rfl), of_decide_eq_true (by kernel_rfl), Form.fitB_fit (by kernel_rfl)⟩
def t6F2 : Form := (Form.mk 1 (⟨#[46, 46, 46]⟩ : ByteArray) 0 ([] : List Int) ([] : List Form))
theorem t6P2 : Parsed (⟨#[46, 46, 46]⟩ : ByteArray) t6F2 := ⟨Tr.add 100 (fun m => by kernel_rfl), of_decide_eq_true (by kernel_rfl), Form.fitB_fit (by kernel_rfl)⟩
def t6F3 : Form := (Form.mk 3 (⟨#[]⟩ : ByteArray) 0 ([] : List Int) [(Form.mk 2 (⟨#[]⟩ : ByteArray) 1 ([] : List Int) ([] : List Form)), (Form.mk 1 (⟨#[46, 46, 46]⟩ : ByteArray) 0 ([] : List Int) ([] : List Form))])
theorem t6P3 : Parsed (⟨#[40, 49, 32, 46, 46, 46, 41]⟩ : ByteArray) t6F3 := ⟨Tr.add 100 (fun m => by kernel_rfl), of_decide_eq_true (by kernel_rfl), Form.fitB_fit (by kernel_rfl)⟩
def t6F4 : Form := (Form.mk 3 (⟨#[]⟩ : ByteArray) 0 ([] : List Int) [(Form.mk 1 (⟨#[113]⟩ : ByteArray) 0 ([] : List Int) ([] : List Form)), (Form.mk 3 (⟨#[]⟩ : ByteArray) 0 ([] : List Int) [(Form.mk 1 (⟨#[97]⟩ : ByteArray) 0 ([] : List Int) ([] : List Form)), (Form.mk 1 (⟨#[98]⟩ : ByteArray) 0 ([] : List Int) ([] : List Form))]), (Form.mk 1 (⟨#[46, 46, 46]⟩ : ByteArray) 0 ([] : List Int) ([] : List Form))])
theorem t6P4 : Parsed (⟨#[40, 113, 32, 40, 97, 32, 98, 41, 32, 46, 46, 46, 41]⟩ : ByteArray) t6F4 := ⟨Tr.add 100 (fun m => by kernel_rfl), of_decide_eq_true (by kernel_rfl), Form.fitB_fit (by kernel_rfl)⟩
end Go.Abs
end
section
set_option linter.unusedVariables false
set_option linter.unusedSimpArgs false
namespace Go.Abs
def bS : Nat → Nat
  | 0 => 10
  | d + 1 => 4 * bS d
theorem bS_ge : ∀ d, 10 ≤ bS d
  | 0 => Nat.le_refl _
  | d + 1 => by have := bS_ge d; rw [bS]; omega
theorem leaf_num (n : Int) : Dr 1 (Form.mk 2 (⟨#[]⟩ : ByteArray) n ([] : List Int) ([] : List Form)) := ⟨by simp [Form.w, Form.ws], by simp only [Form.fit, Form.fits, List.length_nil]; exact ⟨by decide, by decide, by decide, trivial⟩⟩
theorem leaf_name (s : ByteArray) (h : s.size ≤ 100) : Dr 1 (Form.mk 1 s 0 ([] : List Int) ([] : List Form)) := ⟨by simp [Form.w, Form.ws], by simp only [Form.fit, Form.fits, List.length_nil]; exact ⟨by omega, by decide, by decide, trivial⟩⟩
theorem l1Some_leaf (o : l15Rd) (K : Int) (ho : OkRd o K) (hK : K ≤ 1000000000) {R : Form × l15Rd → Prop} (hR : ∀ f o', Dr 1 f → OkRd o' (K + 2) → R (f, o')) :
    TQ (fun m => (m_spec_l15Rd_pick m o 4).bind fun v2 => bif decide (v2.1 = 0) then (m_spec_l15Rd_num m v2.2 [0, 1, 2, 7, 42, 999]).bind fun v4 => some ((Form.mk 2 (⟨#[]⟩ : ByteArray) v4.1 ([] : List Int) ([] : List Form)), v4.2)
      else (m_spec_l15Rd_of m v2.2 [(⟨#[97]⟩ : ByteArray), (⟨#[98]⟩ : ByteArray), (⟨#[120]⟩ : ByteArray), (⟨#[121]⟩ : ByteArray), (⟨#[102]⟩ : ByteArray), (⟨#[105, 102]⟩ : ByteArray), (⟨#[108, 101, 116]⟩ : ByteArray), (⟨#[43]⟩ : ByteArray)]).bind fun v5 => (m_spec_l1Name m v5.1).bind fun v6 => some (v6, v5.2)) R := by
  refine TQ.bind (pick_tq o 4 K ho (by omega)) (fun v hv => TQ.cond (fun _ => ?_) (fun _ => ?_))
  · refine TQ.bind (num_tq _ _ _ hv.1 (by omega) (by decide)) (fun w hw => TQ.val (hR _ _ (leaf_num _) (hw.1.mono (by omega))))
  · refine TQ.bind (of_tq _ _ _ hv.1 (by omega) (by decide)) (fun w hw => TQ.ev (nameForm_tr _) (TQ.val (hR _ _ (leaf_name _ ?_) (hw.1.mono (by omega)))))
    have h2 := hw.2
    simp only [List.mem_cons, List.not_mem_nil, or_false] at h2
    rcases h2 with h2 | h2 | h2 | h2 | h2 | h2 | h2 | h2 <;> rw [h2] <;> decide
theorem l1Some_tq : ∀ (d : Nat), d ≤ 10 → ∀ (o : l15Rd) (K : Int), OkRd o K → K + bS d ≤ 1000000000 → TQ (fun m => m_spec_l1Some m o (d : Int)) (fun r => Dr (bS d) r.1 ∧ OkRd r.2 (K + bS d)) := by
  intro d
  induction d with
  | zero =>
    intro _ o K ho hK
    rw [bS] at hK ⊢
    refine TQ.step (fun m => by rw [m_spec_l1Some]) (TQ.eq (fun m => by rw [decide_eq_true (show ((0 : Nat) : Int) = 0 from rfl), cond_true]) ?_)
    exact l1Some_leaf o K ho (by omega) (fun f o' hf ho' => ⟨hf.mono (by omega), ho'.mono (by omega)⟩)
  | succ d ih =>
    intro hd o K ho hK
    have hb := bS_ge d
    rw [bS] at hK ⊢
    refine TQ.step (fun m => by rw [m_spec_l1Some]) (TQ.eq (fun m => by rw [decide_eq_false (show ¬ ((d + 1 : Nat) : Int) = 0 by omega), cond_false]) ?_)
    refine TQ.bind (pick_tq o 3 K ho (by omega)) (fun v hv => TQ.cond (fun _ => ?_) (fun _ => ?_))
    · exact l1Some_leaf v.2 _ hv.1 (by omega) (fun f o' hf ho' => ⟨hf.mono (by omega), ho'.mono (by omega)⟩)
    refine TQ.bind (pick_tq v.2 4 _ hv.1 (by omega)) (fun w hw => ?_)
    obtain ⟨w1, _, w2, _⟩ := hw
    obtain ⟨w2, w3⟩ := w2 (by decide)
    have loop : ∀ (c : Nat), c ≤ 3 → ∀ (o' : l15Rd) (K' : Int) (acc : List Form) (T : Nat), OkRd o' K' → T = c * (bS d + 1) → K' + T ≤ 1000000000 → acc.length + c ≤ 3 → Form.fits acc → TQ (fun m => m_spec_l1Some_l1 m ((d + 1 : Nat) : Int) (c : Int) o'.b o'.p acc) (fun r => Dr (1 + Form.ws acc + T) r.1 ∧ OkRd r.2 (K' + T)) := by
      intro c
      induction c with
      | zero =>
        intro _ o' K' acc T ho' hT hK' _ hfit
        rw [Nat.zero_mul] at hT
        subst hT
        refine TQ.step (fun m => by rw [m_spec_l1Some_l1, decide_eq_false (show ¬ (0 : Int) < ((0 : Nat) : Int) by decide), cond_false]) (TQ.val ⟨⟨?_, ?_⟩, ho'.mk'.mono (K' := K' + ((0 : Nat) : Int)) (by omega)⟩)
        · simp [Form.w]
        · simp only [Form.fit, List.length_nil]; exact ⟨by decide, by decide, by omega, hfit⟩
      | succ c ihc =>
        intro hc o' K' acc T ho' hT hK' hlen hfit
        rw [Nat.succ_mul] at hT
        refine TQ.step (fun m => by rw [m_spec_l1Some_l1, decide_eq_true (show (0 : Int) < ((c + 1 : Nat) : Int) by omega), cond_true, show w64 (((d + 1 : Nat) : Int) - 1) = (d : Int) by rw [w64_in (by omega)]; omega, show w64 (((c + 1 : Nat) : Int) - 1) = (c : Int) by rw [w64_in (by omega)]; omega]) ?_
        refine TQ.bind (ih (by omega) _ K' ho'.mk' (by omega)) (fun z hz => ?_)
        have zw := hz.1.w
        have hws : Form.ws (acc ++ [z.1]) = Form.ws acc + (z.1.w + 1) := by rw [Form.ws_append]; simp [Form.ws]; omega
        refine TQ.chk (decide_eq_true (by simp; omega)) (TQ.mono (ihc (by omega) z.2 (K' + bS d) (acc ++ [z.1]) (c * (bS d + 1)) hz.2 rfl (by omega) (by simp; omega) ?_) (fun r hr => ⟨hr.1.mono (by omega), hr.2.mono (by omega)⟩))
        have : ∀ l : List Form, Form.fits l → Form.fits (l ++ [z.1]) := by
          intro l
          induction l with
          | nil => intro _; rw [List.nil_append, Form.fits]; exact ⟨hz.1.fit, by rw [Form.fits]; trivial⟩
          | cons y l ihl => intro h; rw [Form.fits] at h; rw [List.cons_append, Form.fits]; exact ⟨h.1, ihl h.2⟩
        exact this acc hfit
    obtain ⟨c, hc⟩ := Int.eq_ofNat_of_zero_le w2
    rw [hc]
    have hc3 : c ≤ 3 := by omega
    have hT : c * (bS d + 1) ≤ 3 * (bS d + 1) := Nat.mul_le_mul_right _ hc3
    refine TQ.mono (loop c hc3 w.2 _ [] _ w1 rfl (by omega) (by simp; omega) (by rw [Form.fits]; trivial)) (fun r hr => ⟨hr.1.mono (by rw [Form.ws]; omega), hr.2.mono (by omega)⟩)
theorem FirstRule_tq (rules : List Rule) (lits : List Form) (f : Form) (hr : ∀ r ∈ rules, DrR 200 r) (hl : Form.fits lits) (hlw : Form.ws lits ≤ 400) (hf : Dr 400 f) : TQ (fun m => m_spec_FirstRule m ([] : List Bind) rules lits f) (fun r => r.2 = true → 0 ≤ r.1 ∧ r.1 < rules.length) := by
  have hfw := hf.w
  refine TQ.eq (fun m => by unfold m_spec_FirstRule; rfl) (TQ.ev (specBindsValid_tr [] (fun b hb => by cases hb)) ?_)
  have no : TQ (fun m => m_spec_FirstRule_j1 m ([] : List Bind) rules lits f true) (fun r => r.2 = true → 0 ≤ r.1 ∧ r.1 < rules.length) := TQ.step (fun m => by rw [m_spec_FirstRule_j1]; rfl) (TQ.val (fun h => by cases h))
  refine TQ.cond (fun _ => no) (fun _ => TQ.ev (l5Rules_tr rules lits (fun r h => ⟨(hr r h).p.mono (by omega), (hr r h).t.mono (by omega)⟩) hl (by omega)) ?_)
  cases hro : rulesOkB rules lits with
  | false => exact TQ.cond (fun _ => no) (fun h => by cases h)
  | true =>
  refine TQ.cond (fun h => by cases h) (fun _ => TQ.ev (specFormValid_tr f hf.fit (by omega)) ?_)
  cases f.valid with
  | false => exact no
  | true =>
  have hall : ∀ r ∈ rules, ruleOk r lits = true := by
    unfold rulesOkB at hro
    rw [Bool.and_eq_true] at hro
    exact alls_iff.1 hro.1
  refine TQ.step (fun m => by rw [m_spec_FirstRule_j1, Bool.not_true, cond_false]) ?_
  have key := drop_ind rules (fun k zs => TQ (fun m => m_spec_FirstRule_l2 m ([] : List Bind) rules lits f (k : Int)) (fun r => r.2 = true → 0 ≤ r.1 ∧ r.1 < rules.length)) ?_ ?_ 0 (Nat.zero_le _)
  · exact key
  · exact TQ.step (fun m => by rw [m_spec_FirstRule_l2, ltN_self, cond_false]) (TQ.val (fun h => by cases h))
  · intro k x zs hk hx hd ih
    have hxm := List.mem_of_getElem? hx
    have hok := hall x hxm
    unfold ruleOk at hok
    rw [Bool.and_eq_true] at hok
    have hpw := (hr x hxm).p.w
    refine TQ.step (fun m => by rw [m_spec_FirstRule_l2, ltN hk, cond_true, idx_nat hx, Option.bind_some, succN]) ?_
    refine TQ.bind (l4Match_n [] lits (by simp) _ x.pattern (Nat.le_refl _) (patOk_S hok.1) (by omega) f (by omega)) (fun r _ => TQ.cond (fun _ => TQ.val (fun _ => ⟨by dsimp only; omega, by dsimp only; omega⟩)) (fun _ => ih))
theorem l5Hits_tq (code : List Int) (hc : ∀ x ∈ code, 0 ≤ x ∧ x < 256) : TQ (fun m => m_spec_l5Hits m code) (fun r => Dr 1000 r.1 ∧ DrH 2000000 r.2) := by
  refine TQ.eq (fun m => by unfold m_spec_l5Hits; rfl) ?_
  refine TQ.bind (l5Case_tq code hc) (fun c hcc => TQ.bind (open_tq code hc) (fun o ho => TQ.bind (FirstRule_tq c.2.1 c.1 c.2.2 hcc.r hcc.lf hcc.lw hcc.f) (fun v hv => ?_)))
  have hlw := hcc.lw
  have hfw := hcc.f.w
  refine TQ.cond (fun _ => ?_) (fun hvt => ?_)
  · refine TQ.bind (l1Some_tq 2 (by omega) o 0 ho (by decide)) (fun z hz => TQ.val ⟨hz.1.mono (by decide), ⟨by rw [Hit.ws]; omega, by rw [Hit.fits]; trivial⟩⟩)
  · obtain ⟨v0, v1⟩ := hv (bool_ff hvt)
    refine TQ.idx v0 v1 (fun x hx => ?_)
    have dx := hcc.r x hx
    have xpw := dx.p.w
    refine TQ.ev (specMatchPattern_tr [] x.pattern c.1 c.2.2 (fun b hb => by cases hb) (by simp) dx.p.fit (by omega) hcc.lf (by omega) hcc.f.fit (by omega)) ?_
    have hD := matchP_dr (bs := []) (lits := c.1) (dx.p.mono (show 200 ≤ 400 by omega)) hcc.f
    generalize (matchP [] x.pattern c.1 c.2.2) = mp at hD
    have hD2 : DrH 2000000 mp.1 := ⟨by have := hD.w; omega, hD.fit⟩
    refine TQ.idx v0 v1 (fun y hy => ?_)
    have dy := (hcc.r y hy).t
    have dyw := dy.w
    refine TQ.ev (l1Copy_tr _ y.template (Nat.le_refl _) (by omega)) (TQ.bind (pick_tq o 12 _ ho (by omega)) (fun w hw => TQ.cond (fun _ => ?_) (fun _ => TQ.cond (fun _ => ?_) (fun _ => TQ.val ⟨dy.mono (by omega), hD2⟩))))
    · exact mutate2_tq _ _ _ hw.1 (dy.mono (by omega)) (by omega) (g := fun f _ _ => some (f, mp.1)) (fun f o' _ hf => TQ.val ⟨hf.mono (by omega), hD2⟩)
    · refine TQ.bind (of_tq _ _ _ hw.1 (by omega) (by decide)) (fun u hu => ?_)
      have hp : ∃ f, Parsed u.1 f := by
        have h2 := hu.2
        simp only [List.mem_cons, List.not_mem_nil, or_false] at h2
        rcases h2 with h2 | h2 | h2 | h2 | h2 <;> rw [h2]
        · exact ⟨_, t6P0⟩
        · exact ⟨_, t6P1⟩
        · exact ⟨_, t6P2⟩
        · exact ⟨_, t6P3⟩
        · exact ⟨_, t6P4⟩
      obtain ⟨f, hp⟩ := hp
      exact TQ.ev hp.tr (TQ.val ⟨hp.dr.mono (by omega), hD2⟩)
mutual
def Form.hasD : Form → Bool
  | .mk k nm n sc kids => isDots (.mk k nm n sc kids) || Form.hasDs kids
def Form.hasDs : List Form → Bool
  | [] => false
  | x :: xs => x.hasD || Form.hasDs xs
end
theorem Form.hasD_eq (f : Form) : f.hasD = (isDots f || Form.hasDs f.kids) := by obtain ⟨a, b, c, d, e⟩ := f; rw [Form.hasD]; rfl
theorem hasT_tr (l : List ByteArray) (s : ByteArray) : Tr (fun m => m_slices_Contains_string m l s) (anys (fun y => decide (s = y)) l) := by
  refine Tr.eq (fun m => by unfold m_slices_Contains_string; rfl) (Tr.bind (v := fnd (fun y => decide (s = y)) l 0) ?_ (Tr.of fun m => by rw [fnd_any]))
  refine Tr.eq (fun m => by unfold m_slices_Index_string; rfl) ?_
  exact loop_find (L := fun m j => m_slices_Index_string_l1 m l s j) (E := fun m y => some (decide (s = y))) (fun m j => by rw [m_slices_Index_string_l1]; rfl) (fun y _ => Tr.val)
theorem namesOf1_tq (f : Form) (acc : List ByteArray) (ha : acc.length ≤ 2 ^ 38) : TQ (fun m => m_impl_NamesOf_1 m f acc) (fun r => (dotsN ∈ r ↔ dotsN ∈ acc ∨ isDots f = true) ∧ r.length ≤ acc.length + 1) := by
  refine TQ.eq (fun m => by unfold m_impl_NamesOf_1; rfl) ?_
  have hd : isDots f = (decide (f.kind = 1) && decide (f.name = dotsN)) := rfl
  rw [hd]
  by_cases h1 : f.kind = 1
  case neg =>
    rw [decide_eq_false h1]
    exact TQ.val ⟨by simp, by omega⟩
  rw [decide_eq_true h1, Bool.true_and]
  refine TQ.eq (fun m => by rw [cond_true]) (TQ.ev (hasT_tr _ _) ?_)
  cases hh : anys (fun y => decide (f.name = y)) acc with
  | true =>
    obtain ⟨y, hy, he⟩ := anys_iff.1 hh
    have he2 : f.name = y := by simpa using he
    refine TQ.cond (fun h => by cases h) (fun _ => TQ.val ⟨⟨fun h => .inl h, fun h => ?_⟩, by omega⟩)
    rcases h with h | h
    · exact h
    · have : f.name = dotsN := by simpa using h
      rw [← this, he2]; exact hy
  | false =>
    refine TQ.cond (fun _ => TQ.chk (decide_eq_true (by simp; omega)) (TQ.val ⟨?_, by simp⟩)) (fun h => by cases h)
    rw [List.mem_append, List.mem_singleton, decide_eq_true_eq]
    exact ⟨fun h => h.imp id Eq.symm, fun h => h.imp id Eq.symm⟩
theorem eachNames_n : ∀ (n : Nat) (f : Form) (acc : List ByteArray), f.w ≤ n → acc.length + f.w ≤ 2 ^ 37 → TQ (fun m => m_impl_eachForm_NamesOf_1 m f acc) (fun r => (dotsN ∈ r ↔ dotsN ∈ acc ∨ f.hasD = true) ∧ r.length ≤ acc.length + f.w) := by
  intro n
  induction n with
  | zero => intro f acc h; have := f.w_kids; omega
  | succ n ih =>
    intro f acc h ha
    have hw := f.w_kids
    refine TQ.step (fun m => by rw [m_impl_eachForm_NamesOf_1]) (TQ.bind (namesOf1_tq f acc (by omega)) (fun a1 h1 => ?_))
    have key := drop_ind f.kids (fun k zs => (∀ z ∈ zs, z ∈ f.kids) → ∀ a : List ByteArray, a.length + Form.ws zs ≤ 2 ^ 37 → TQ (fun m => m_impl_eachForm_NamesOf_1_l1 m f (k : Int) a) (fun r => (dotsN ∈ r ↔ dotsN ∈ a ∨ Form.hasDs zs = true) ∧ r.length ≤ a.length + Form.ws zs)) ?_ ?_ 0 (Nat.zero_le _) (fun z hz => by simpa using hz) a1 (by rw [List.drop_zero]; omega)
    · refine TQ.mono key (fun r hr => ?_)
      rw [List.drop_zero] at hr
      refine ⟨?_, by omega⟩
      rw [hr.1, h1.1, Form.hasD_eq, Bool.or_eq_true, or_assoc]
    · intro _ a _
      exact TQ.step (fun m => by rw [m_impl_eachForm_NamesOf_1_l1, ltN_self, cond_false]) (TQ.val ⟨by rw [Form.hasDs]; simp, by omega⟩)
    · intro k x zs hk hx hd ihk hz a hal
      rw [Form.ws] at hal
      have hxm := Form.ws_mem (List.mem_of_getElem? hx)
      refine TQ.step (fun m => by rw [m_impl_eachForm_NamesOf_1_l1, ltN hk, cond_true, idx_nat hx, Option.bind_some, succN]) ?_
      refine TQ.bind (ih x a (by omega) (by omega)) (fun b hb => ?_)
      refine TQ.mono (ihk (fun z h => hz z (by simp [h])) b (by omega)) (fun r hr => ⟨?_, by rw [Form.ws]; omega⟩)
      rw [hr.1, hb.1, Form.hasDs, Bool.or_eq_true, or_assoc]
mutual
theorem dotsOk_none : ∀ f : Form, f.hasD = false → f.dotsOk false = true
  | .mk k nm n sc kids, h => by
    rw [Form.hasD, Bool.or_eq_false_iff] at h
    rw [Form.dotsOk]; exact kD_none kids true false h.2
theorem kD_none : ∀ (l : List Form) (pd sn : Bool), Form.hasDs l = false → Form.kD false pd sn l = true
  | [], _, _, _ => by rw [Form.kD]
  | x :: xs, pd, sn, h => by
    rw [Form.hasDs, Bool.or_eq_false_iff] at h
    have hx : isDots x = false := by have := h.1; rw [Form.hasD_eq, Bool.or_eq_false_iff] at this; exact this.1
    rw [Form.kD, hx, cond_false, dotsOk_none x h.1, kD_none xs _ _ h.2]; rfl
end
theorem nextD_none {l : List Form} (h : Form.hasDs l = false) : nextD l = false := by
  cases l with
  | nil => rfl
  | cons x xs =>
    rw [Form.hasDs, Bool.or_eq_false_iff] at h
    have := h.1; rw [Form.hasD_eq, Bool.or_eq_false_iff] at this
    exact this.1
mutual
theorem rws_none (l : List (Form × Int)) : ∀ f : Form, f.hasD = false → f.rws l 0 = !f.anyD l 0
  | .mk k nm n sc kids, h => by
    rw [Form.hasD, Bool.or_eq_false_iff] at h
    rw [Form.rws, Form.anyD, kR_none l kids h.2, Bool.not_or]; rfl
theorem kR_none (l : List (Form × Int)) : ∀ zs : List Form, Form.hasDs zs = false → Form.kR l 0 zs = !Form.anyDs l 0 zs
  | [], _ => by rw [Form.kR, Form.anyDs]; rfl
  | x :: xs, h => by
    rw [Form.hasDs, Bool.or_eq_false_iff] at h
    have hx : isDots x = false := by have := h.1; rw [Form.hasD_eq, Bool.or_eq_false_iff] at this; exact this.1
    rw [Form.kR, Form.anyDs, hx, cond_false, nextD_none h.2, cond_false, rws_none l x h.1, kR_none l xs h.2, Bool.not_or]
end
theorem hvF_apart : ∀ {l ps : List Hit}, hvF ps l = true → ∀ h ∈ l, ∀ p ∈ ps, same p.name h.name = false
  | x :: xs, ps, hv, h, hh, p, hp => by
    rw [hvF, Bool.and_eq_true, Bool.and_eq_true] at hv
    rcases List.mem_cons.1 hh with rfl | hh
    · have := alls_iff.1 hv.2.1 p hp
      simpa using this
    · exact hvF_apart hv.2.2 h hh p (List.mem_append_left _ hp)
theorem hv_dep : ∀ {l ps : List Hit}, hvF ps l = true → ∀ h ∈ l, depF (nd l) h.name = h.depth
  | x :: xs, ps, hv, h, hh => by
    have hv' := hv
    rw [hvF, Bool.and_eq_true, Bool.and_eq_true] at hv
    show depF ((x.name, x.depth) :: nd xs) h.name = h.depth
    rw [depF]
    rcases List.mem_cons.1 hh with rfl | hh
    · rw [same_self, cond_true]
    · rw [hvF_apart hv.2.2 h hh x (by simp), cond_false]
      exact hv_dep hv.2.2 h hh
theorem depF_mem {f : Form} : ∀ {l : List Hit}, 0 < depF (nd l) f → ∃ h ∈ l, 0 < h.depth ∧ h.name = f
  | [], h => by simp [nd, depF] at h
  | x :: xs, h => by
    replace h : 0 < depF ((x.name, x.depth) :: nd xs) f := h
    rw [depF] at h
    cases hs : same x.name f with
    | true => rw [hs, cond_true] at h; exact ⟨x, by simp, h, same_iff.1 hs⟩
    | false =>
      rw [hs, cond_false] at h
      obtain ⟨y, hy, h1, h2⟩ := depF_mem h
      exact ⟨y, by simp [hy], h1, h2⟩
theorem dep_iff {l : List Hit} (hv : hvOk l = true) (f : Form) : 0 < dep (nd l) f ↔ ∃ h ∈ l, 0 < h.depth ∧ h.name = f := by
  unfold hvOk at hv
  rw [Bool.and_eq_true] at hv
  constructor
  · intro h
    unfold dep at h
    cases hk : decide (f.kind ≠ 1) with
    | true => rw [hk, cond_true] at h; omega
    | false => rw [hk, cond_false] at h; exact depF_mem h
  · rintro ⟨h, hm, h1, rfl⟩
    have hok := hvF_mem hv.1 h hm
    rw [Hit.isOk_eq, Bool.and_eq_true, isNm, Bool.and_eq_true, decide_eq_true_eq] at hok
    unfold dep
    rw [decide_eq_false (by simp [hok.1.1]), cond_false, hv_dep hv.1 h hm]
    exact h1
mutual
theorem anyD_iff {l : List Hit} (hv : hvOk l = true) : ∀ f : Form, f.anyD (nd l) 0 = true ↔ ∃ h ∈ l, 0 < h.depth ∧ Form.part h.name f = true
  | .mk k nm n sc kids => by
    rw [Form.anyD, Bool.or_eq_true, decide_eq_true_eq, dep_iff hv, anyDs_iff hv kids]
    simp only [Form.part, Bool.or_eq_true, same_iff]
    constructor
    · rintro (⟨h, h1, h2, h3⟩ | ⟨h, h1, h2, h3⟩)
      · exact ⟨h, h1, h2, .inl h3.symm⟩
      · exact ⟨h, h1, h2, .inr h3⟩
    · rintro ⟨h, h1, h2, h3 | h3⟩
      · exact .inl ⟨h, h1, h2, h3.symm⟩
      · exact .inr ⟨h, h1, h2, h3⟩
theorem anyDs_iff {l : List Hit} (hv : hvOk l = true) : ∀ zs : List Form, Form.anyDs (nd l) 0 zs = true ↔ ∃ h ∈ l, 0 < h.depth ∧ Form.parts h.name zs = true
  | [] => by simp [Form.anyDs, Form.parts]
  | x :: xs => by
    rw [Form.anyDs, Bool.or_eq_true, anyD_iff hv x, anyDs_iff hv xs]
    simp only [Form.parts, Bool.or_eq_true]
    constructor
    · rintro (⟨h, h1, h2, h3⟩ | ⟨h, h1, h2, h3⟩)
      · exact ⟨h, h1, h2, .inl h3⟩
      · exact ⟨h, h1, h2, .inr h3⟩
    · rintro ⟨h, h1, h2, h3 | h3⟩
      · exact .inl ⟨h, h1, h2, h3⟩
      · exact .inr ⟨h, h1, h2, h3⟩
end
theorem tmpl_none {l : List Hit} {f : Form} (hv : hvOk l = true) (hf : f.valid = true) (hd : f.hasD = false) : tmplOk f (nd l) = !anys (fun h => decide (0 < h.depth) && Form.part h.name f) l := by
  have h0 : isDots f = false := by have := hd; rw [Form.hasD_eq, Bool.or_eq_false_iff] at this; exact this.1
  unfold tmplOk
  rw [hf, h0, dotsOk_none f hd, rws_none _ f hd]
  simp only [Bool.true_and, Bool.not_false]
  congr 1
  rw [Bool.eq_iff_iff, anyD_iff hv, anys_iff]
  simp only [Bool.and_eq_true, decide_eq_true_eq]
theorem FnTemplateValid_law (code : List Int) (hc : ∀ x ∈ code, 0 ≤ x ∧ x < 256) : TQ (fun m => m_laws_FnTemplateValid m code) (fun r => r = true) := by
  refine TQ.eq (fun m => by unfold m_laws_FnTemplateValid; rfl) (TQ.cond (fun _ => TQ.val rfl) (fun _ => TQ.bind (Q := fun r : Form × List Hit => Dr 1000 r.1 ∧ DrH 2000000 r.2) ?_ (fun v hv => ?_)))
  · exact TQ.eq (fun m => by unfold m_spec_DrawTemplateValid; rfl) (TQ.bind (l5Hits_tq code hc) (fun v hv => TQ.val hv))
  obtain ⟨f, l⟩ := v
  obtain ⟨hf, hl⟩ := hv
  replace hf : Dr 1000 f := hf
  replace hl : DrH 2000000 l := hl
  have hfw := hf.w
  have hlw := hl.w
  have hll := Hit.ws_len l
  refine TQ.ev (implTemplateValid_tr f l hf.fit (by omega) hl.fit (by omega)) (TQ.ev (specTemplateValid_tr f l hf.fit (by omega) hl.fit (by omega)) ?_)
  refine TQ.eq (fun m => by rw [decide_eq_false (fun h => h rfl), cond_false]) (TQ.ev (implFormValid_tr f hf.fit) ?_)
  have no : (hvOk l && tmplOk f (nd l)) = false → TQ (fun m => m_laws_FnTemplateValid_j1 m (f, l) (hvOk l && tmplOk f (nd l)) true) (fun r => r = true) := by
    intro h
    refine TQ.step (fun m => by rw [m_laws_FnTemplateValid_j1, cond_true]) (TQ.ev (specTemplateValid_tr f l hf.fit (by omega) hl.fit (by omega)) ?_)
    rw [h]
    exact TQ.eq (fun m => by rw [decide_eq_true rfl, cond_true]) (TQ.step (fun m => by rw [m_laws_FnTemplateValid_j2]; rfl) (TQ.val rfl))
  cases hfv : f.valid with
  | false => exact TQ.cond (fun _ => no (by unfold tmplOk; rw [hfv, Bool.false_and, Bool.and_false])) (fun h => by cases h)
  | true =>
  refine TQ.cond (fun h => by cases h) (fun _ => TQ.ev (implHitsValid_tr l hl.fit) ?_)
  cases hhv : hvOk l with
  | false => exact TQ.eq (fun m => by rw [Bool.not_false]) (by have := no (by rw [hhv, Bool.false_and]); rw [hhv] at this; exact this)
  | true =>
  rw [Bool.true_and]
  refine TQ.step (fun m => by rw [m_laws_FnTemplateValid_j1, Bool.not_true, cond_false]) ?_
  refine TQ.bind (Q := fun r : List ByteArray => dotsN ∈ r ↔ f.hasD = true) ?_ (fun ns hns => ?_)
  · refine TQ.eq (fun m => by unfold m_impl_NamesOf; rfl) (TQ.bind (eachNames_n _ f [] (Nat.le_refl _) (by simp; omega)) (fun r hr => TQ.val ?_))
    rw [hr.1]; simp
  refine TQ.ev (v := anys (fun a => decide (a = dotsN)) ns) ?_ ?_
  · refine Tr.eq (fun m => by unfold m_laws_mxHasText; rfl) ?_
    exact loop_any (xs := ns) (L := fun m k => m_laws_mxHasText_l1 m ns dotsN k) (E := fun m a => some (decide (a = dotsN))) (fun m k => by rw [m_laws_mxHasText_l1]; rfl) (fun a _ => Tr.val)
  cases ha : anys (fun a => decide (a = dotsN)) ns with
  | true => exact TQ.val rfl
  | false =>
  have hd : f.hasD = false := by
    rw [Bool.eq_false_iff]
    intro h
    have : anys (fun a => decide (a = dotsN)) ns = true := anys_iff.2 ⟨dotsN, hns.2 h, by simp⟩
    rw [ha] at this; cases this
  refine TQ.eq (fun m => by rw [cond_false]) ?_
  rw [tmpl_none hhv hfv hd]
  have key := drop_ind l (fun k zs => ∀ g : Bool, (g || anys (fun h => decide (0 < h.depth) && Form.part h.name f) zs) = anys (fun h => decide (0 < h.depth) && Form.part h.name f) l → TQ (fun m => m_laws_FnTemplateValid_l3 m (f, l) (!anys (fun h => decide (0 < h.depth) && Form.part h.name f) l) g (k : Int)) (fun r => r = true)) ?_ ?_ 0 (Nat.zero_le _) false (by rw [Bool.false_or, List.drop_zero])
  · exact key
  · intro g hg
    rw [anys, Bool.or_false] at hg
    refine TQ.step (fun m => by rw [m_laws_FnTemplateValid_l3, ltN_self, cond_false]) (TQ.val ?_)
    rw [hg]; simp
  · intro k x zs hk hx hd ih g hg
    refine TQ.step (fun m => by rw [m_laws_FnTemplateValid_l3, ltN hk, cond_true, succN]) ?_
    cases g with
    | true => exact TQ.eq (fun m => by rw [cond_true]) (ih true (by rw [Bool.true_or] at hg ⊢; exact hg))
    | false =>
      rw [Bool.false_or, anys] at hg
      refine TQ.eq (fun m => by rw [cond_false, idx_nat hx, Option.bind_some]) ?_
      by_cases h0 : 0 < x.depth
      · rw [decide_eq_true h0, Bool.true_and] at hg
        refine TQ.eq (fun m => by rw [decide_eq_true h0, cond_true, Option.bind_some]) (TQ.ev (mxPart_tr _ _) (ih _ hg))
      · rw [decide_eq_false h0, Bool.false_and] at hg
        exact TQ.eq (fun m => by rw [decide_eq_false h0, cond_false]) (ih false hg)
end Go.Abs
end
