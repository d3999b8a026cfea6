/- A part of the proof: what the functions that the law calls answer, as pure values. -/
import Derived.Test.YtjjjnhpghhamkaaGreatKd012db99f7f1
import Derived.Test.YtjjjnhpghhamkaaGreatK4ee70f842008
import Derived.Test.YtjjjnhpghhamkaaGreatK06634278733b
import Derived.Test.YtjjjnhpghhamkaaGreatK8faf616840a9
import Derived.Test.YtjjjnhpghhamkaaGreatKa18b558014bb
set_option linter.unusedSimpArgs false
set_option linter.unusedVariables false
section
set_option linter.unusedVariables false
set_option maxRecDepth 100000
namespace Go.Abs
def t5F0:Form:=(Form.mk 3 (⟨#[]⟩:ByteArray) 0 ([]:List Int) [(Form.mk 1 (⟨#[114,117,108,101,115]⟩:ByteArray) 0 ([]:List Int) ([]:List Form)),(Form.mk 3 (⟨#[]⟩:ByteArray) 0 ([]:List Int) ([]:List Form)),(Form.mk 3 (⟨#[]⟩:ByteArray) 0 ([]:List Int) [(Form.mk 3 (⟨#[]⟩:ByteArray) 0 ([]:List Int) [(Form.mk 1 (⟨#[95]⟩:ByteArray) 0 ([]:List Int) ([]:List Form)),(Form.mk 1 (⟨#[97]⟩:ByteArray) 0 ([]:List Int) ([]:List Form)),(Form.mk 1 (⟨#[98]⟩:ByteArray) 0 ([]:List Int) ([]:List Form))]),(Form.mk 3 (⟨#[]⟩:ByteArray) 0 ([]:List Int) [(Form.mk 1 (⟨#[108,101,116]⟩:ByteArray) 0 ([]:List Int) ([]:List Form)),(Form.mk 3 (⟨#[]⟩:ByteArray) 0 ([]:List Int) [(Form.mk 3 (⟨#[]⟩:ByteArray) 0 ([]:List Int) [(Form.mk 1 (⟨#[116,109,112]⟩:ByteArray) 0 ([]:List Int) ([]:List Form)),(Form.mk 1 (⟨#[97]⟩:ByteArray) 0 ([]:List Int) ([]:List Form))])]),(Form.mk 3 (⟨#[]⟩:ByteArray) 0 ([]:List Int) [(Form.mk 1 (⟨#[108,105,115,116]⟩:ByteArray) 0 ([]:List Int) ([]:List Form)),(Form.mk 1 (⟨#[98]⟩:ByteArray) 0 ([]:List Int) ([]:List Form)),(Form.mk 1 (⟨#[116,109,112]⟩:ByteArray) 0 ([]:List Int) ([]:List Form))])])])])
theorem t5P0:zfC (⟨#[40,114,117,108,101,115,32,40,41,32,40,40,95,32,97,32,98,41,32,40,108,101,116,32,40,40,116,109,112,32,97,41,41,32,40,108,105,115,116,32,98,32,116,109,112,41,41,41,41]⟩:ByteArray) t5F0:=⟨Tr.add 100 (fun m=>by kernel_rfl),of_decide_eq_true (by kernel_rfl),Form.fitB_fit (by kernel_rfl)⟩
def t5F1:Form:=(Form.mk 3 (⟨#[]⟩:ByteArray) 0 ([]:List Int) [(Form.mk 1 (⟨#[115,119,97,112]⟩:ByteArray) 0 ([]:List Int) ([]:List Form)),(Form.mk 1 (⟨#[120]⟩:ByteArray) 0 ([]:List Int) ([]:List Form)),(Form.mk 1 (⟨#[121]⟩:ByteArray) 0 ([]:List Int) ([]:List Form))])
theorem t5P1:zfC (⟨#[40,115,119,97,112,32,120,32,121,41]⟩:ByteArray) t5F1:=⟨Tr.add 100 (fun m=>by kernel_rfl),of_decide_eq_true (by kernel_rfl),Form.fitB_fit (by kernel_rfl)⟩
def t5F2:Form:=(Form.mk 3 (⟨#[]⟩:ByteArray) 0 ([]:List Int) [(Form.mk 1 (⟨#[114,117,108,101,115]⟩:ByteArray) 0 ([]:List Int) ([]:List Form)),(Form.mk 3 (⟨#[]⟩:ByteArray) 0 ([]:List Int) ([]:List Form)),(Form.mk 3 (⟨#[]⟩:ByteArray) 0 ([]:List Int) [(Form.mk 3 (⟨#[]⟩:ByteArray) 0 ([]:List Int) [(Form.mk 1 (⟨#[95]⟩:ByteArray) 0 ([]:List Int) ([]:List Form))]),(Form.mk 2 (⟨#[]⟩:ByteArray) 0 ([]:List Int) ([]:List Form))]),(Form.mk 3 (⟨#[]⟩:ByteArray) 0 ([]:List Int) [(Form.mk 3 (⟨#[]⟩:ByteArray) 0 ([]:List Int) [(Form.mk 1 (⟨#[95]⟩:ByteArray) 0 ([]:List Int) ([]:List Form)),(Form.mk 1 (⟨#[97]⟩:ByteArray) 0 ([]:List Int) ([]:List Form))]),(Form.mk 1 (⟨#[97]⟩:ByteArray) 0 ([]:List Int) ([]:List Form))]),(Form.mk 3 (⟨#[]⟩:ByteArray) 0 ([]:List Int) [(Form.mk 3 (⟨#[]⟩:ByteArray) 0 ([]:List Int) [(Form.mk 1 (⟨#[95]⟩:ByteArray) 0 ([]:List Int) ([]:List Form)),(Form.mk 1 (⟨#[97]⟩:ByteArray) 0 ([]:List Int) ([]:List Form)),(Form.mk 1 (⟨#[98]⟩:ByteArray) 0 ([]:List Int) ([]:List Form)),(Form.mk 1 (⟨#[46,46,46]⟩:ByteArray) 0 ([]:List Int) ([]:List Form))]),(Form.mk 3 (⟨#[]⟩:ByteArray) 0 ([]:List Int) [(Form.mk 1 (⟨#[105,102]⟩:ByteArray) 0 ([]:List Int) ([]:List Form)),(Form.mk 1 (⟨#[97]⟩:ByteArray) 0 ([]:List Int) ([]:List Form)),(Form.mk 2 (⟨#[]⟩:ByteArray) 1 ([]:List Int) ([]:List Form)),(Form.mk 3 (⟨#[]⟩:ByteArray) 0 ([]:List Int) [(Form.mk 1 (⟨#[111,114]⟩:ByteArray) 0 ([]:List Int) ([]:List Form)),(Form.mk 1 (⟨#[98]⟩:ByteArray) 0 ([]:List Int) ([]:List Form)),(Form.mk 1 (⟨#[46,46,46]⟩:ByteArray) 0 ([]:List Int) ([]:List Form))])])])])
theorem t5P2:zfC (⟨#[40,114,117,108,101,115,32,40,41,32,40,40,95,41,32,48,41,32,40,40,95,32,97,41,32,97,41,32,40,40,95,32,97,32,98,32,46,46,46,41,32,40,105,102,32,97,32,49,32,40,111,114,32,98,32,46,46,46,41,41,41,41]⟩:ByteArray) t5F2:=⟨Tr.add 100 (fun m=>by kernel_rfl),of_decide_eq_true (by kernel_rfl),Form.fitB_fit (by kernel_rfl)⟩
def t5F3:Form:=(Form.mk 3 (⟨#[]⟩:ByteArray) 0 ([]:List Int) [(Form.mk 1 (⟨#[111,114]⟩:ByteArray) 0 ([]:List Int) ([]:List Form)),(Form.mk 1 (⟨#[120]⟩:ByteArray) 0 ([]:List Int) ([]:List Form)),(Form.mk 1 (⟨#[121]⟩:ByteArray) 0 ([]:List Int) ([]:List Form)),(Form.mk 1 (⟨#[122]⟩:ByteArray) 0 ([]:List Int) ([]:List Form))])
theorem t5P3:zfC (⟨#[40,111,114,32,120,32,121,32,122,41]⟩:ByteArray) t5F3:=⟨Tr.add 100 (fun m=>by kernel_rfl),of_decide_eq_true (by kernel_rfl),Form.fitB_fit (by kernel_rfl)⟩
def t5F4:Form:=(Form.mk 3 (⟨#[]⟩:ByteArray) 0 ([]:List Int) [(Form.mk 1 (⟨#[114,117,108,101,115]⟩:ByteArray) 0 ([]:List Int) ([]:List Form)),(Form.mk 3 (⟨#[]⟩:ByteArray) 0 ([]:List Int) ([]:List Form)),(Form.mk 3 (⟨#[]⟩:ByteArray) 0 ([]:List Int) [(Form.mk 3 (⟨#[]⟩:ByteArray) 0 ([]:List Int) [(Form.mk 1 (⟨#[95]⟩:ByteArray) 0 ([]:List Int) ([]:List Form)),(Form.mk 3 (⟨#[]⟩:ByteArray) 0 ([]:List Int) [(Form.mk 3 (⟨#[]⟩:ByteArray) 0 ([]:List Int) [(Form.mk 1 (⟨#[120]⟩:ByteArray) 0 ([]:List Int) ([]:List Form)),(Form.mk 1 (⟨#[118]⟩:ByteArray) 0 ([]:List Int) ([]:List Form))]),(Form.mk 1 (⟨#[46,46,46]⟩:ByteArray) 0 ([]:List Int) ([]:List Form))]),(Form.mk 1 (⟨#[98,111,100,121]⟩:ByteArray) 0 ([]:List Int) ([]:List Form))]),(Form.mk 3 (⟨#[]⟩:ByteArray) 0 ([]:List Int) [(Form.mk 3 (⟨#[]⟩:ByteArray) 0 ([]:List Int) [(Form.mk 1 (⟨#[108,97,109,98,100,97]⟩:ByteArray) 0 ([]:List Int) ([]:List Form)),(Form.mk 3 (⟨#[]⟩:ByteArray) 0 ([]:List Int) [(Form.mk 1 (⟨#[120]⟩:ByteArray) 0 ([]:List Int) ([]:List Form)),(Form.mk 1 (⟨#[46,46,46]⟩:ByteArray) 0 ([]:List Int) ([]:List Form))]),(Form.mk 1 (⟨#[98,111,100,121]⟩:ByteArray) 0 ([]:List Int) ([]:List Form))]),(Form.mk 1 (⟨#[118]⟩:ByteArray) 0 ([]:List Int) ([]:List Form)),(Form.mk 1 (⟨#[46,46,46]⟩:ByteArray) 0 ([]:List Int) ([]:List Form))])])])
theorem t5P4:zfC (⟨#[40,114,117,108,101,115,32,40,41,32,40,40,95,32,40,40,120,32,118,41,32,46,46,46,41,32,98,111,100,121,41,32,40,40,108,97,109,98,100,97,32,40,120,32,46,46,46,41,32,98,111,100,121,41,32,118,32,46,46,46,41,41,41]⟩:ByteArray) t5F4:=⟨Tr.add 100 (fun m=>by kernel_rfl),of_decide_eq_true (by kernel_rfl),Form.fitB_fit (by kernel_rfl)⟩
def t5F5:Form:=(Form.mk 3 (⟨#[]⟩:ByteArray) 0 ([]:List Int) [(Form.mk 1 (⟨#[109,121,108,101,116]⟩:ByteArray) 0 ([]:List Int) ([]:List Form)),(Form.mk 3 (⟨#[]⟩:ByteArray) 0 ([]:List Int) [(Form.mk 3 (⟨#[]⟩:ByteArray) 0 ([]:List Int) [(Form.mk 1 (⟨#[112]⟩:ByteArray) 0 ([]:List Int) ([]:List Form)),(Form.mk 2 (⟨#[]⟩:ByteArray) 1 ([]:List Int) ([]:List Form))]),(Form.mk 3 (⟨#[]⟩:ByteArray) 0 ([]:List Int) [(Form.mk 1 (⟨#[113]⟩:ByteArray) 0 ([]:List Int) ([]:List Form)),(Form.mk 2 (⟨#[]⟩:ByteArray) 2 ([]:List Int) ([]:List Form))])]),(Form.mk 3 (⟨#[]⟩:ByteArray) 0 ([]:List Int) [(Form.mk 1 (⟨#[102]⟩:ByteArray) 0 ([]:List Int) ([]:List Form)),(Form.mk 1 (⟨#[112]⟩:ByteArray) 0 ([]:List Int) ([]:List Form)),(Form.mk 1 (⟨#[113]⟩:ByteArray) 0 ([]:List Int) ([]:List Form))])])
theorem t5P5:zfC (⟨#[40,109,121,108,101,116,32,40,40,112,32,49,41,32,40,113,32,50,41,41,32,40,102,32,112,32,113,41,41]⟩:ByteArray) t5F5:=⟨Tr.add 100 (fun m=>by kernel_rfl),of_decide_eq_true (by kernel_rfl),Form.fitB_fit (by kernel_rfl)⟩
def t5F6:Form:=(Form.mk 3 (⟨#[]⟩:ByteArray) 0 ([]:List Int) [(Form.mk 1 (⟨#[114,117,108,101,115]⟩:ByteArray) 0 ([]:List Int) ([]:List Form)),(Form.mk 3 (⟨#[]⟩:ByteArray) 0 ([]:List Int) [(Form.mk 1 (⟨#[101,108,115,101]⟩:ByteArray) 0 ([]:List Int) ([]:List Form))]),(Form.mk 3 (⟨#[]⟩:ByteArray) 0 ([]:List Int) [(Form.mk 3 (⟨#[]⟩:ByteArray) 0 ([]:List Int) [(Form.mk 1 (⟨#[95]⟩:ByteArray) 0 ([]:List Int) ([]:List Form)),(Form.mk 1 (⟨#[101,108,115,101]⟩:ByteArray) 0 ([]:List Int) ([]:List Form)),(Form.mk 1 (⟨#[101]⟩:ByteArray) 0 ([]:List Int) ([]:List Form))]),(Form.mk 1 (⟨#[101]⟩:ByteArray) 0 ([]:List Int) ([]:List Form))]),(Form.mk 3 (⟨#[]⟩:ByteArray) 0 ([]:List Int) [(Form.mk 3 (⟨#[]⟩:ByteArray) 0 ([]:List Int) [(Form.mk 1 (⟨#[95]⟩:ByteArray) 0 ([]:List Int) ([]:List Form)),(Form.mk 1 (⟨#[99]⟩:ByteArray) 0 ([]:List Int) ([]:List Form)),(Form.mk 1 (⟨#[101]⟩:ByteArray) 0 ([]:List Int) ([]:List Form)),(Form.mk 1 (⟨#[114]⟩:ByteArray) 0 ([]:List Int) ([]:List Form)),(Form.mk 1 (⟨#[46,46,46]⟩:ByteArray) 0 ([]:List Int) ([]:List Form))]),(Form.mk 3 (⟨#[]⟩:ByteArray) 0 ([]:List Int) [(Form.mk 1 (⟨#[105,102]⟩:ByteArray) 0 ([]:List Int) ([]:List Form)),(Form.mk 1 (⟨#[99]⟩:ByteArray) 0 ([]:List Int) ([]:List Form)),(Form.mk 1 (⟨#[101]⟩:ByteArray) 0 ([]:List Int) ([]:List Form)),(Form.mk 3 (⟨#[]⟩:ByteArray) 0 ([]:List Int) [(Form.mk 1 (⟨#[99,111,110,100]⟩:ByteArray) 0 ([]:List Int) ([]:List Form)),(Form.mk 1 (⟨#[114]⟩:ByteArray) 0 ([]:List Int) ([]:List Form)),(Form.mk 1 (⟨#[46,46,46]⟩:ByteArray) 0 ([]:List Int) ([]:List Form))])])])])
theorem t5P6:zfC (⟨#[40,114,117,108,101,115,32,40,101,108,115,101,41,32,40,40,95,32,101,108,115,101,32,101,41,32,101,41,32,40,40,95,32,99,32,101,32,114,32,46,46,46,41,32,40,105,102,32,99,32,101,32,40,99,111,110,100,32,114,32,46,46,46,41,41,41,41]⟩:ByteArray) t5F6:=⟨Tr.add 100 (fun m=>by kernel_rfl),of_decide_eq_true (by kernel_rfl),Form.fitB_fit (by kernel_rfl)⟩
def t5F7:Form:=(Form.mk 3 (⟨#[]⟩:ByteArray) 0 ([]:List Int) [(Form.mk 1 (⟨#[99,111,110,100]⟩:ByteArray) 0 ([]:List Int) ([]:List Form)),(Form.mk 1 (⟨#[112]⟩:ByteArray) 0 ([]:List Int) ([]:List Form)),(Form.mk 2 (⟨#[]⟩:ByteArray) 1 ([]:List Int) ([]:List Form)),(Form.mk 1 (⟨#[101,108,115,101]⟩:ByteArray) 0 ([]:List Int) ([]:List Form)),(Form.mk 2 (⟨#[]⟩:ByteArray) 2 ([]:List Int) ([]:List Form))])
theorem t5P7:zfC (⟨#[40,99,111,110,100,32,112,32,49,32,101,108,115,101,32,50,41]⟩:ByteArray) t5F7:=⟨Tr.add 100 (fun m=>by kernel_rfl),of_decide_eq_true (by kernel_rfl),Form.fitB_fit (by kernel_rfl)⟩
def t5F8:Form:=(Form.mk 3 (⟨#[]⟩:ByteArray) 0 ([]:List Int) [(Form.mk 1 (⟨#[114,117,108,101,115]⟩:ByteArray) 0 ([]:List Int) ([]:List Form)),(Form.mk 3 (⟨#[]⟩:ByteArray) 0 ([]:List Int) ([]:List Form)),(Form.mk 3 (⟨#[]⟩:ByteArray) 0 ([]:List Int) [(Form.mk 3 (⟨#[]⟩:ByteArray) 0 ([]:List Int) [(Form.mk 1 (⟨#[95]⟩:ByteArray) 0 ([]:List Int) ([]:List Form)),(Form.mk 3 (⟨#[]⟩:ByteArray) 0 ([]:List Int) [(Form.mk 1 (⟨#[97]⟩:ByteArray) 0 ([]:List Int) ([]:List Form)),(Form.mk 1 (⟨#[98]⟩:ByteArray) 0 ([]:List Int) ([]:List Form)),(Form.mk 1 (⟨#[46,46,46]⟩:ByteArray) 0 ([]:List Int) ([]:List Form))]),(Form.mk 1 (⟨#[46,46,46]⟩:ByteArray) 0 ([]:List Int) ([]:List Form))]),(Form.mk 3 (⟨#[]⟩:ByteArray) 0 ([]:List Int) [(Form.mk 1 (⟨#[109]⟩:ByteArray) 0 ([]:List Int) ([]:List Form)),(Form.mk 3 (⟨#[]⟩:ByteArray) 0 ([]:List Int) [(Form.mk 1 (⟨#[97]⟩:ByteArray) 0 ([]:List Int) ([]:List Form)),(Form.mk 1 (⟨#[46,46,46]⟩:ByteArray) 0 ([]:List Int) ([]:List Form))]),(Form.mk 3 (⟨#[]⟩:ByteArray) 0 ([]:List Int) [(Form.mk 3 (⟨#[]⟩:ByteArray) 0 ([]:List Int) [(Form.mk 1 (⟨#[97]⟩:ByteArray) 0 ([]:List Int) ([]:List Form)),(Form.mk 1 (⟨#[98]⟩:ByteArray) 0 ([]:List Int) ([]:List Form)),(Form.mk 1 (⟨#[46,46,46]⟩:ByteArray) 0 ([]:List Int) ([]:List Form))]),(Form.mk 1 (⟨#[46,46,46]⟩:ByteArray) 0 ([]:List Int) ([]:List Form))]),(Form.mk 2 (⟨#[]⟩:ByteArray) 1 ([]:List Int) ([]:List Form))])])])
theorem t5P8:zfC (⟨#[40,114,117,108,101,115,32,40,41,32,40,40,95,32,40,97,32,98,32,46,46,46,41,32,46,46,46,41,32,40,109,32,40,97,32,46,46,46,41,32,40,40,97,32,98,32,46,46,46,41,32,46,46,46,41,32,49,41,41,41]⟩:ByteArray) t5F8:=⟨Tr.add 100 (fun m=>by kernel_rfl),of_decide_eq_true (by kernel_rfl),Form.fitB_fit (by kernel_rfl)⟩
def t5F9:Form:=(Form.mk 3 (⟨#[]⟩:ByteArray) 0 ([]:List Int) [(Form.mk 1 (⟨#[109]⟩:ByteArray) 0 ([]:List Int) ([]:List Form)),(Form.mk 3 (⟨#[]⟩:ByteArray) 0 ([]:List Int) [(Form.mk 1 (⟨#[120]⟩:ByteArray) 0 ([]:List Int) ([]:List Form)),(Form.mk 2 (⟨#[]⟩:ByteArray) 1 ([]:List Int) ([]:List Form)),(Form.mk 2 (⟨#[]⟩:ByteArray) 2 ([]:List Int) ([]:List Form))]),(Form.mk 3 (⟨#[]⟩:ByteArray) 0 ([]:List Int) [(Form.mk 1 (⟨#[121]⟩:ByteArray) 0 ([]:List Int) ([]:List Form))])])
theorem t5P9:zfC (⟨#[40,109,32,40,120,32,49,32,50,41,32,40,121,41,41]⟩:ByteArray) t5F9:=⟨Tr.add 100 (fun m=>by kernel_rfl),of_decide_eq_true (by kernel_rfl),Form.fitB_fit (by kernel_rfl)⟩
def t5F10:Form:=(Form.mk 3 (⟨#[]⟩:ByteArray) 0 ([]:List Int) [(Form.mk 1 (⟨#[114,117,108,101,115]⟩:ByteArray) 0 ([]:List Int) ([]:List Form)),(Form.mk 3 (⟨#[]⟩:ByteArray) 0 ([]:List Int) ([]:List Form)),(Form.mk 3 (⟨#[]⟩:ByteArray) 0 ([]:List Int) [(Form.mk 3 (⟨#[]⟩:ByteArray) 0 ([]:List Int) [(Form.mk 1 (⟨#[95]⟩:ByteArray) 0 ([]:List Int) ([]:List Form)),(Form.mk 1 (⟨#[97]⟩:ByteArray) 0 ([]:List Int) ([]:List Form)),(Form.mk 1 (⟨#[46,46,46]⟩:ByteArray) 0 ([]:List Int) ([]:List Form))]),(Form.mk 3 (⟨#[]⟩:ByteArray) 0 ([]:List Int) [(Form.mk 1 (⟨#[108,105,115,116]⟩:ByteArray) 0 ([]:List Int) ([]:List Form)),(Form.mk 1 (⟨#[97]⟩:ByteArray) 0 ([]:List Int) ([]:List Form)),(Form.mk 1 (⟨#[46,46,46]⟩:ByteArray) 0 ([]:List Int) ([]:List Form)),(Form.mk 1 (⟨#[97]⟩:ByteArray) 0 ([]:List Int) ([]:List Form)),(Form.mk 1 (⟨#[46,46,46]⟩:ByteArray) 0 ([]:List Int) ([]:List Form))])])])
theorem t5P10:zfC (⟨#[40,114,117,108,101,115,32,40,41,32,40,40,95,32,97,32,46,46,46,41,32,40,108,105,115,116,32,97,32,46,46,46,32,97,32,46,46,46,41,41,41]⟩:ByteArray) t5F10:=⟨Tr.add 100 (fun m=>by kernel_rfl),of_decide_eq_true (by kernel_rfl),Form.fitB_fit (by kernel_rfl)⟩
def t5F11:Form:=(Form.mk 3 (⟨#[]⟩:ByteArray) 0 ([]:List Int) [(Form.mk 1 (⟨#[116,119,105,99,101]⟩:ByteArray) 0 ([]:List Int) ([]:List Form)),(Form.mk 2 (⟨#[]⟩:ByteArray) 1 ([]:List Int) ([]:List Form)),(Form.mk 2 (⟨#[]⟩:ByteArray) 2 ([]:List Int) ([]:List Form))])
theorem t5P11:zfC (⟨#[40,116,119,105,99,101,32,49,32,50,41]⟩:ByteArray) t5F11:=⟨Tr.add 100 (fun m=>by kernel_rfl),of_decide_eq_true (by kernel_rfl),Form.fitB_fit (by kernel_rfl)⟩
def t5F12:Form:=(Form.mk 3 (⟨#[]⟩:ByteArray) 0 ([]:List Int) [(Form.mk 1 (⟨#[114,117,108,101,115]⟩:ByteArray) 0 ([]:List Int) ([]:List Form)),(Form.mk 3 (⟨#[]⟩:ByteArray) 0 ([]:List Int) ([]:List Form)),(Form.mk 3 (⟨#[]⟩:ByteArray) 0 ([]:List Int) [(Form.mk 3 (⟨#[]⟩:ByteArray) 0 ([]:List Int) [(Form.mk 1 (⟨#[95]⟩:ByteArray) 0 ([]:List Int) ([]:List Form)),(Form.mk 1 (⟨#[97]⟩:ByteArray) 0 ([]:List Int) ([]:List Form)),(Form.mk 1 (⟨#[46,46,46]⟩:ByteArray) 0 ([]:List Int) ([]:List Form))]),(Form.mk 3 (⟨#[]⟩:ByteArray) 0 ([]:List Int) [(Form.mk 3 (⟨#[]⟩:ByteArray) 0 ([]:List Int) [(Form.mk 1 (⟨#[97]⟩:ByteArray) 0 ([]:List Int) ([]:List Form)),(Form.mk 2 (⟨#[]⟩:ByteArray) 1 ([]:List Int) ([]:List Form))]),(Form.mk 1 (⟨#[46,46,46]⟩:ByteArray) 0 ([]:List Int) ([]:List Form))])]),(Form.mk 3 (⟨#[]⟩:ByteArray) 0 ([]:List Int) [(Form.mk 3 (⟨#[]⟩:ByteArray) 0 ([]:List Int) [(Form.mk 1 (⟨#[95]⟩:ByteArray) 0 ([]:List Int) ([]:List Form)),(Form.mk 1 (⟨#[98]⟩:ByteArray) 0 ([]:List Int) ([]:List Form))]),(Form.mk 1 (⟨#[98]⟩:ByteArray) 0 ([]:List Int) ([]:List Form))])])
theorem t5P12:zfC (⟨#[40,114,117,108,101,115,32,40,41,32,40,40,95,32,97,32,46,46,46,41,32,40,40,97,32,49,41,32,46,46,46,41,41,32,40,40,95,32,98,41,32,98,41,41]⟩:ByteArray) t5F12:=⟨Tr.add 100 (fun m=>by kernel_rfl),of_decide_eq_true (by kernel_rfl),Form.fitB_fit (by kernel_rfl)⟩
def t5F13:Form:=(Form.mk 3 (⟨#[]⟩:ByteArray) 0 ([]:List Int) [(Form.mk 1 (⟨#[112,97,105,114,115]⟩:ByteArray) 0 ([]:List Int) ([]:List Form)),(Form.mk 1 (⟨#[112]⟩:ByteArray) 0 ([]:List Int) ([]:List Form)),(Form.mk 1 (⟨#[113]⟩:ByteArray) 0 ([]:List Int) ([]:List Form))])
theorem t5P13:zfC (⟨#[40,112,97,105,114,115,32,112,32,113,41]⟩:ByteArray) t5F13:=⟨Tr.add 100 (fun m=>by kernel_rfl),of_decide_eq_true (by kernel_rfl),Form.fitB_fit (by kernel_rfl)⟩
def t5F14:Form:=(Form.mk 3 (⟨#[]⟩:ByteArray) 0 ([]:List Int) [(Form.mk 1 (⟨#[114,117,108,101,115]⟩:ByteArray) 0 ([]:List Int) ([]:List Form)),(Form.mk 3 (⟨#[]⟩:ByteArray) 0 ([]:List Int) ([]:List Form)),(Form.mk 3 (⟨#[]⟩:ByteArray) 0 ([]:List Int) [(Form.mk 3 (⟨#[]⟩:ByteArray) 0 ([]:List Int) [(Form.mk 1 (⟨#[95]⟩:ByteArray) 0 ([]:List Int) ([]:List Form)),(Form.mk 1 (⟨#[97]⟩:ByteArray) 0 ([]:List Int) ([]:List Form))]),(Form.mk 1 (⟨#[97]⟩:ByteArray) 0 ([]:List Int) ([]:List Form))]),(Form.mk 3 (⟨#[]⟩:ByteArray) 0 ([]:List Int) [(Form.mk 3 (⟨#[]⟩:ByteArray) 0 ([]:List Int) [(Form.mk 1 (⟨#[95]⟩:ByteArray) 0 ([]:List Int) ([]:List Form)),(Form.mk 2 (⟨#[]⟩:ByteArray) 5 ([]:List Int) ([]:List Form))]),(Form.mk 2 (⟨#[]⟩:ByteArray) 6 ([]:List Int) ([]:List Form))]),(Form.mk 3 (⟨#[]⟩:ByteArray) 0 ([]:List Int) [(Form.mk 3 (⟨#[]⟩:ByteArray) 0 ([]:List Int) [(Form.mk 1 (⟨#[95]⟩:ByteArray) 0 ([]:List Int) ([]:List Form)),(Form.mk 1 (⟨#[97]⟩:ByteArray) 0 ([]:List Int) ([]:List Form)),(Form.mk 1 (⟨#[98]⟩:ByteArray) 0 ([]:List Int) ([]:List Form))]),(Form.mk 1 (⟨#[98]⟩:ByteArray) 0 ([]:List Int) ([]:List Form))])])
theorem t5P14:zfC (⟨#[40,114,117,108,101,115,32,40,41,32,40,40,95,32,97,41,32,97,41,32,40,40,95,32,53,41,32,54,41,32,40,40,95,32,97,32,98,41,32,98,41,41]⟩:ByteArray) t5F14:=⟨Tr.add 100 (fun m=>by kernel_rfl),of_decide_eq_true (by kernel_rfl),Form.fitB_fit (by kernel_rfl)⟩
def t5F15:Form:=(Form.mk 3 (⟨#[]⟩:ByteArray) 0 ([]:List Int) [(Form.mk 1 (⟨#[107]⟩:ByteArray) 0 ([]:List Int) ([]:List Form)),(Form.mk 2 (⟨#[]⟩:ByteArray) 5 ([]:List Int) ([]:List Form))])
theorem t5P15:zfC (⟨#[40,107,32,53,41]⟩:ByteArray) t5F15:=⟨Tr.add 100 (fun m=>by kernel_rfl),of_decide_eq_true (by kernel_rfl),Form.fitB_fit (by kernel_rfl)⟩
def t5T:List (List ByteArray):=[[(⟨#[40,114,117,108,101,115,32,40,41,32,40,40,95,32,97,32,98,41,32,40,108,101,116,32,40,40,116,109,112,32,97,41,41,32,40,108,105,115,116,32,98,32,116,109,112,41,41,41,41]⟩:ByteArray),(⟨#[40,115,119,97,112,32,120,32,121,41]⟩:ByteArray)],[(⟨#[40,114,117,108,101,115,32,40,41,32,40,40,95,41,32,48,41,32,40,40,95,32,97,41,32,97,41,32,40,40,95,32,97,32,98,32,46,46,46,41,32,40,105,102,32,97,32,49,32,40,111,114,32,98,32,46,46,46,41,41,41,41]⟩:ByteArray),(⟨#[40,111,114,32,120,32,121,32,122,41]⟩:ByteArray)],[(⟨#[40,114,117,108,101,115,32,40,41,32,40,40,95,32,40,40,120,32,118,41,32,46,46,46,41,32,98,111,100,121,41,32,40,40,108,97,109,98,100,97,32,40,120,32,46,46,46,41,32,98,111,100,121,41,32,118,32,46,46,46,41,41,41]⟩:ByteArray),(⟨#[40,109,121,108,101,116,32,40,40,112,32,49,41,32,40,113,32,50,41,41,32,40,102,32,112,32,113,41,41]⟩:ByteArray)],[(⟨#[40,114,117,108,101,115,32,40,101,108,115,101,41,32,40,40,95,32,101,108,115,101,32,101,41,32,101,41,32,40,40,95,32,99,32,101,32,114,32,46,46,46,41,32,40,105,102,32,99,32,101,32,40,99,111,110,100,32,114,32,46,46,46,41,41,41,41]⟩:ByteArray),(⟨#[40,99,111,110,100,32,112,32,49,32,101,108,115,101,32,50,41]⟩:ByteArray)],[(⟨#[40,114,117,108,101,115,32,40,41,32,40,40,95,32,40,97,32,98,32,46,46,46,41,32,46,46,46,41,32,40,109,32,40,97,32,46,46,46,41,32,40,40,97,32,98,32,46,46,46,41,32,46,46,46,41,32,49,41,41,41]⟩:ByteArray),(⟨#[40,109,32,40,120,32,49,32,50,41,32,40,121,41,41]⟩:ByteArray)],[(⟨#[40,114,117,108,101,115,32,40,41,32,40,40,95,32,97,32,46,46,46,41,32,40,108,105,115,116,32,97,32,46,46,46,32,97,32,46,46,46,41,41,41]⟩:ByteArray),(⟨#[40,116,119,105,99,101,32,49,32,50,41]⟩:ByteArray)],[(⟨#[40,114,117,108,101,115,32,40,41,32,40,40,95,32,97,32,46,46,46,41,32,40,40,97,32,49,41,32,46,46,46,41,41,32,40,40,95,32,98,41,32,98,41,41]⟩:ByteArray),(⟨#[40,112,97,105,114,115,32,112,32,113,41]⟩:ByteArray)],[(⟨#[40,114,117,108,101,115,32,40,41,32,40,40,95,32,97,41,32,97,41,32,40,40,95,32,53,41,32,54,41,32,40,40,95,32,97,32,98,41,32,98,41,41]⟩:ByteArray),(⟨#[40,107,32,53,41]⟩:ByteArray)]]
theorem t5T_tr:Tr (fun m=>zhn m) t5T:=Tr.of (fun m=>rfl)
theorem t5T_all:Pairs [(t5F0,t5F1),(t5F2,t5F3),(t5F4,t5F5),(t5F6,t5F7),(t5F8,t5F9),(t5F10,t5F11),(t5F12,t5F13),(t5F14,t5F15)] t5T:=⟨_,_,rfl,⟨_,_,rfl,t5P0,t5P1⟩,⟨_,_,rfl,⟨_,_,rfl,t5P2,t5P3⟩,⟨_,_,rfl,⟨_,_,rfl,t5P4,t5P5⟩,⟨_,_,rfl,⟨_,_,rfl,t5P6,t5P7⟩,⟨_,_,rfl,⟨_,_,rfl,t5P8,t5P9⟩,⟨_,_,rfl,⟨_,_,rfl,t5P10,t5P11⟩,⟨_,_,rfl,⟨_,_,rfl,t5P12,t5P13⟩,⟨_,_,rfl,⟨_,_,rfl,t5P14,t5P15⟩,rfl⟩⟩⟩⟩⟩⟩⟩⟩
end Go.Abs
end
section
set_option linter.unusedVariables false
set_option linter.unusedSimpArgs false
namespace Go.Abs
theorem Tr.uniq {α:Type} {F:Nat→Option α} {v w:α} (h1:Tr F v) (h2:Tr F w):v=w:=by
 obtain ⟨n1,h1⟩:=h1
 obtain ⟨n2,h2⟩:=h2
 have a:=h1 (n1+n2) (by omega)
 rw [h2 (n1+n2) (by omega)] at a
 exact (Option.some.inj a).symm
theorem TQ.and {α:Type} {F:Nat→Option α} {Q R:α→Prop} (h1:TQ F Q) (h2:TQ F R):TQ F (fun r=>Q r∧R r):=by
 obtain ⟨v,h1,q⟩:=h1
 obtain ⟨w,h2,r⟩:=h2
 obtain rfl:=h1.uniq h2
 exact ⟨v,h1,q,r⟩
theorem TQ.of_tr {α:Type} {F:Nat→Option α} {Q:α→Prop} {v:α} (h:Tr F v) (hq:TQ F Q):Q v:=by
 obtain ⟨w,h2,q⟩:=hq
 obtain rfl:=h.uniq h2
 exact q
theorem l1Mutate_len (c:Form) (o:zb9) (K:Int) (ho:OkRd o K) (hb:c.w≤2 ^ 30) (hf:c.fit) (hK:K+3*c.w≤1000000000):TQ (fun m=>zaA m o c) (fun r=>r.1.kids.length=c.kids.length):=by
 have hw:=c.w_kids
 obtain ⟨f1,f2,f3,f4⟩:=hf.parts
 have leaf:∀ (o:zb9) (K:Int),OkRd o K→K+2≤1000000000→TQ (mutF c o) (fun r=>r.1.kids.length=c.kids.length):=by
  intro o K ho hK
  unfold mutF
  refine TQ.bind (zhk o 14 _ ho (by omega)) (fun v hv=>?_)
  refine TQ.cond (fun _=>?_) (fun _=>TQ.cond (fun _=>?_) (fun _=>TQ.cond (fun _=>?_) (fun _=>TQ.cond (fun _=>?_) (fun _=>?_))))
  ·exact TQ.bind (num_tq _ _ _ hv.1 (by omega) (by decide)) (fun w hw=>TQ.val rfl)
  ·exact TQ.bind (of_tq _ _ _ hv.1 (by omega) (by decide)) (fun w hw=>TQ.val rfl)
  ·exact TQ.bind (num_tq _ _ _ hv.1 (by omega) (by decide)) (fun w hw=>TQ.val rfl)
  ·exact TQ.bind (num_tq _ _ _ hv.1 (by omega) (by decide)) (fun w hw=>TQ.chk (by simp;omega) (TQ.val rfl))
  ·exact TQ.val rfl
 refine TQ.step (fun m=>by rw [zaA]) ?_
 refine TQ.ev (zib _ c (Nat.le_refl _) (by omega)) ?_
 refine TQ.cond (fun hc=>?_) (fun _=>leaf o K ho (by omega))
 have hpos:0 < c.kids.length:=by simpa using hc
 have hl:=Form.ws_len c.kids
 refine TQ.bind (zhk o 2 _ ho (by omega)) (fun v hv=>?_)
 refine TQ.cond (fun _=>?_) (fun _=>leaf _ _ hv.1 (by omega))
 refine TQ.bind (zhk _ _ _ hv.1 (by omega)) (fun w hw2=>?_)
 obtain ⟨h1,_,h2,_⟩:=hw2
 obtain ⟨h2,h3⟩:=h2 (by omega)
 obtain ⟨x,hx,hm⟩:=idx_int h2 h3
 have hxw:=Form.ws_mem hm
 obtain ⟨r,hr,_⟩:=zia _ x w.2 _ (Nat.le_refl _) h1 (by omega) (Form.fits_mem f4 hm) (by omega)
 exact ⟨_,Tr.idx hx (Tr.bind hr (Tr.idx hx Tr.val)),by show (c.kids.set _ _).length=_;rw [List.length_set]⟩
theorem mutate2_len (c:Form) (o:zb9) (K:Int) (ho:OkRd o K) (hc:Dr 1000 c) (hK:K≤1000000) {β:Type} {g:Form→zb9→Nat→Option β} {R:β→Prop}
  (h:∀ f o',OkRd o' (K+7000)→Dr (c.w+2) f→f.kids.length=c.kids.length→TQ (fun m=>g f o' m) R):TQ (fun m=>(zaA m o c).bind fun v=>(zaA m v.2 v.1).bind fun u=>g u.1 u.2 m) R:=by
 have h1:=hc.w
 refine TQ.bind (TQ.and (zia _ c o K (Nat.le_refl _) ho (by omega) hc.fit (by omega)) (l1Mutate_len c o K ho (by omega) hc.fit (by omega))) (fun v hv=>?_)
 obtain ⟨⟨v1,v2,v3⟩,v4⟩:=hv
 refine TQ.bind (TQ.and (zia _ v.1 v.2 _ (Nat.le_refl _) v1 (by omega) v3 (by omega)) (l1Mutate_len v.1 v.2 _ v1 (by omega) v3 (by omega))) (fun u hu=>?_)
 obtain ⟨⟨u1,u2,u3⟩,u4⟩:=hu
 exact h _ _ (u1.mono (by omega)) ⟨by omega,u3⟩ (by omega)
noncomputable def zed (rules:List Rule) (lits:List Form):Bool:=alls (fun r=>zgS r lits) rules&&(decide ((rules.length:Int)≤9)&&litOk lits)
structure DrR (n:Nat) (r:Rule):Prop where
 p:Dr n r.pattern
 t:Dr n r.template
theorem l5Rules_tr (rules:List Rule) (lits:List Form) (hr:∀ r∈rules,DrR (2 ^ 36) r) (hl:Form.fits lits) (hlb:Form.ws lits≤2 ^ 36):Tr (fun m=>zfo m rules lits) (zed rules lits):=by
 refine Tr.eq (fun m=>by unfold zfo;rfl) ?_
 have key:=z8 rules (fun k zs=>(∀ z∈zs,z∈rules)→Tr (fun m=>zcj m rules lits (k:Int)) (alls (fun r=>zgS r lits) zs&&(decide ((rules.length:Int)≤9)&&litOk lits))) ?_ ?_ 0 (Nat.zero_le _) (fun z hz=>by simpa using hz)
 ·exact key
 ·intro _
  refine Tr.step (fun m=>by rw [zcj,zN,cond_false]) (Tr.step (fun m=>by rw [zck,cond_false]) ?_)
  rw [alls,Bool.true_and]
  by_cases h9:(rules.length:Int)≤9
  ·rw [decide_eq_true h9,Bool.true_and]
   exact Tr.tt (decide_eq_true (by omega)) (Tr.bind (specLit_tr lits hl hlb) Tr.val)
  ·rw [decide_eq_false h9,Bool.false_and]
   exact Tr.ff (decide_eq_false (by omega)) Tr.val
 ·intro k x zs hk hx hd ih hz
  have hxr:=hr x (hz x (by simp))
  refine Tr.step (fun m=>by rw [zcj,ltN hk,cond_true]) ?_
  by_cases h10:(k:Int) < 10
  ·refine Tr.step (fun m=>by rw [zck,decide_eq_true h10,cond_true,zB hx,Option.bind_some]) ?_
   have hsr:=specRuleValid_tr x lits hxr.p.fit hxr.p.w hxr.t.fit hxr.t.w hl hlb
   have hsr2:Tr (fun m=>zdA m x lits) (zgS x lits):=by
    obtain ⟨n,h⟩:=hsr
    refine ⟨n,fun m hm=>?_⟩
    have:=h m hm
    unfold zhH at this
    show zdA m x lits=_
    replace this:(zdA m x lits).bind (fun v1=>some v1)=some (zgS x lits):=this
    cases h5:zdA m x lits with
    | none=>rw [h5] at this;cases this
    | some b=>rw [h5] at this;exact this
   refine Tr.bind hsr2 ?_
   rw [alls]
   cases zgS x lits with
   | false=>exact Tr.tt rfl Tr.val
   | true=>exact Tr.ff rfl (Tr.eq (fun m=>by rw [zau (by omega),za6]) (ih (fun z h=>hz z (by simp [h]))))
  ·refine Tr.step (fun m=>by rw [zck,decide_eq_false h10,cond_false]) ?_
   rw [decide_eq_false (show ¬ (rules.length:Int)≤9 by omega),Bool.false_and,Bool.and_false]
   exact Tr.ff (decide_eq_false (by omega)) Tr.val
def zhw (x:Form):Rule:=Rule.mk (x.kids.getD 0 zci) (x.kids.getD 1 zci)
def zdu (x:Form):Bool:=decide (x.kind=3)&&decide (x.kids.length=2)
def rulesN:ByteArray:=⟨#[114,117,108,101,115]⟩
def isRules (f:Form):Bool:=f.valid&&(decide (f.kind=3)&&(decide (2≤f.kids.length)&&(decide ((f.kids.getD 0 zci).name=rulesN)&&decide ((f.kids.getD 1 zci).kind=3))))
noncomputable def parseR (f:Form):List Form × List Rule × Bool :=
 bif isRules f then
  bif alls zdu (f.kids.drop 2) then
   bif zed ((f.kids.drop 2).map zhw) (f.kids.getD 1 zci).kids then ((f.kids.getD 1 zci).kids,(f.kids.drop 2).map zhw,true) else ([],[],false)
  else ([],[],false)
 else ([],[],false)
theorem ziv {α:Type} {l:List α} {k:Nat} {d:α} (h:k < l.length):l[k]?=some (l.getD k d)∧l.getD k d∈l:=by
 have:l[k]?=some (l.getD k d):=by rw [List.getD_eq_getElem?_getD,List.getElem?_eq_getElem h];rfl
 exact ⟨this,List.mem_of_getElem? this⟩
theorem kid_dr {n:Nat} {f x:Form} (h:Dr n f) (hx:x∈f.kids):Dr n x:=⟨by have:=Form.ws_mem hx;have:=f.w_kids;have:=h.w;omega,Form.fits_mem h.fit.parts.2.2.2 hx⟩
theorem ruleOf_dr {n:Nat} {x:Form} (h:Dr n x) (hs:zdu x=true):DrR n (zhw x):=by
 unfold zdu at hs
 rw [Bool.and_eq_true,decide_eq_true_eq,decide_eq_true_eq] at hs
 exact ⟨kid_dr h (ziv (by omega)).2,kid_dr h (ziv (by omega)).2⟩
theorem zhj (f:Form) (hf:Dr (2 ^ 30) f):Tr (fun m=>zcW m f) (parseR f):=by
 have hw:=f.w_kids
 have hfw:=hf.w
 have hfl:=Form.ws_len f.kids
 refine Tr.eq (fun m=>by unfold zcW;rfl) (Tr.bind (zd1 f hf.fit (by omega)) ?_)
 have no:Tr (fun m=>zaC m f true) (([]:List Form),([]:List Rule),false):=Tr.step (fun m=>by rw [zaC];rfl) Tr.val
 unfold parseR isRules
 cases f.valid with
 | false=>exact Tr.tt rfl no
 | true =>
 refine Tr.ff rfl ?_
 by_cases h3:f.kind=3
 case neg=>rw [decide_eq_false h3];exact Tr.tt (by simpa using h3) no
 rw [decide_eq_true h3]
 refine Tr.ff (by simpa using h3) ?_
 by_cases h2:2≤f.kids.length
 case neg=>rw [decide_eq_false h2];exact Tr.tt (decide_eq_true (by omega)) no
 rw [decide_eq_true h2]
 obtain ⟨g0,m0⟩:=ziv (l:=f.kids) (k:=0) (d:=zci) (by omega)
 obtain ⟨g1,m1⟩:=ziv (l:=f.kids) (k:=1) (d:=zci) (by omega)
 generalize hk0:f.kids.getD 0 zci=k0 at g0 m0
 generalize hk1:f.kids.getD 1 zci=k1 at g1 m1
 have i0:idx f.kids 0=some k0:=zB g0
 have i1:idx f.kids 1=some k1:=zB g1
 refine Tr.ff (decide_eq_false (by omega)) (Tr.eq (fun m=>by rw [i0,Option.bind_some]) ?_)
 by_cases hn:k0.name=rulesN
 case neg=>rw [decide_eq_false hn];exact Tr.tt (decide_eq_true hn) no
 rw [decide_eq_true hn]
 refine Tr.ff (decide_eq_false (not_not_intro hn)) (Tr.eq (fun m=>by rw [i1,Option.bind_some]) ?_)
 by_cases hk:k1.kind=3
 case neg=>rw [decide_eq_false hk];exact Tr.eq (fun m=>by rw [decide_eq_true (show k1.kind≠3 from hk)]) no
 rw [decide_eq_true hk]
 refine Tr.step (fun m=>by rw [zaC,decide_eq_false (show ¬ k1.kind≠3 by simp [hk]),cond_false]) ?_
 rw [Bool.and_true,Bool.and_true,Bool.and_true,Bool.and_true,cond_true]
 have d1:=kid_dr hf m1
 have d1w:=d1.w
 have k1w:=k1.w_kids
 have k1l:=Form.ws_len k1.kids
 -- what comes behind the literals
 have tail:Tr (fun m=>zcy m f k1.kids) (bif alls zdu (f.kids.drop 2) then
   bif zed ((f.kids.drop 2).map zhw) k1.kids then (k1.kids,(f.kids.drop 2).map zhw,true) else ([],[],false)
    else ([],[],false)):=by
  refine Tr.step (fun m=>by rw [zcy]) ?_
  have key:∀ (zs:List Form) (k:Nat) (rs:List Rule),f.kids.drop k=zs→rs.length≤k→alls zdu zs=alls zdu (f.kids.drop 2)→(alls zdu zs=true→rs++zs.map zhw=(f.kids.drop 2).map zhw)→Tr (fun m=>zbt m f k1.kids rs (k:Int)) (bif alls zdu (f.kids.drop 2) then
   bif zed ((f.kids.drop 2).map zhw) k1.kids then (k1.kids,(f.kids.drop 2).map zhw,true) else ([],[],false)
    else ([],[],false)):=by
   intro zs
   induction zs with
   | nil =>
     intro k rs hd hr ha he
     have hk':¬ k < f.kids.length:=by have:=congrArg List.length hd;rw [List.length_drop] at this;simp at this;omega
     rw [← ha]
     have he2:=he rfl
     rw [List.map_nil,List.append_nil] at he2
     rw [alls,cond_true]
     refine Tr.step (fun m=>by rw [zbt,geN hk',cond_false]) (Tr.step (fun m=>by rw [zdw]) ?_)
     rw [he2]
     have hall:alls zdu (f.kids.drop 2)=true:=by rw [← ha];rfl
     refine Tr.bind (l5Rules_tr _ k1.kids (fun r hr=>?_) d1.fit.parts.2.2.2 (by omega)) ?_
     ·obtain ⟨x,hx,rfl⟩:=List.mem_map.1 hr
      have:=ruleOf_dr (kid_dr hf (List.mem_of_mem_drop hx)) (zek.1 hall x hx)
      exact ⟨this.p.mono (by omega),this.t.mono (by omega)⟩
     ·cases zed ((f.kids.drop 2).map zhw) k1.kids with
      | false=>exact Tr.tt rfl Tr.val
      | true=>exact Tr.ff rfl Tr.val
   | cons x xs ih =>
     intro k rs hd hr ha he
     have hk':k < f.kids.length:=by have:=congrArg List.length hd;rw [List.length_drop] at this;simp at this;omega
     have hx:f.kids[k]?=some x:=by
      have:=congrArg (fun l=>l[0]?) hd
      simpa using this
     have hd2:f.kids.drop (k+1)=xs:=by rw [← List.drop_drop,hd];rfl
     have hxm:=List.mem_of_getElem? hx
     rw [alls] at ha he
     have j6:∀ b:Bool,zdu x=!b→Tr (fun m=>zbv m f k1.kids rs (k:Int) b) (bif alls zdu (f.kids.drop 2) then
      bif zed ((f.kids.drop 2).map zhw) k1.kids then (k1.kids,(f.kids.drop 2).map zhw,true) else ([],[],false)
      else ([],[],false)):=by
      intro b hb
      cases b with
      | true =>
        rw [hb,Bool.not_true,Bool.false_and] at ha
        rw [← ha]
        exact Tr.step (fun m=>by rw [zbv,cond_true];rfl) Tr.val
      | false =>
        rw [hb,Bool.not_false,Bool.true_and] at ha he
        have hs2:zdu x=true:=hb
        have hs:=hs2
        unfold zdu at hs
        rw [Bool.and_eq_true,decide_eq_true_eq,decide_eq_true_eq] at hs
        obtain ⟨e0,_⟩:=ziv (l:=x.kids) (k:=0) (d:=zci) (by omega)
        obtain ⟨e1,_⟩:=ziv (l:=x.kids) (k:=1) (d:=zci) (by omega)
        have q0:idx x.kids 0=some (x.kids.getD 0 zci):=zB e0
        have q1:idx x.kids 1=some (x.kids.getD 1 zci):=zB e1
        have dr:=ruleOf_dr (kid_dr hf hxm) hs2
        refine Tr.step (fun m=>by rw [zbv,cond_false,zB hx,Option.bind_some,q0,Option.bind_some]) ?_
        refine Tr.bind (zib _ _ (Nat.le_refl _) (by have h:=dr.p.w;have h2:(x.kids.getD 0 zci).w≤2 ^ 30:=h;omega)) (Tr.eq (fun m=>by rw [Option.bind_some,q1,Option.bind_some]) ?_)
        refine Tr.bind (zib _ _ (Nat.le_refl _) (by have h:=dr.t.w;have h2:(x.kids.getD 1 zci).w≤2 ^ 30:=h;omega)) ?_
        refine Tr.chk (decide_eq_true (by simp;omega)) (Tr.eq (fun m=>by rw [za6];rfl) (ih (k+1) (rs++[zhw x]) hd2 (by simp;omega) ha (fun h=>?_)))
        have:=he h
        rw [List.map_cons] at this
        rw [List.append_assoc]
        exact this
     refine Tr.step (fun m=>by rw [zbt,ltN hk',cond_true,zB hx,Option.bind_some,Option.bind_some]) ?_
     unfold zdu at j6
     by_cases h3:x.kind=3
     ·refine Tr.ff (by simpa using h3) (j6 _ ?_)
      rw [decide_eq_true h3,Bool.true_and]
      by_cases h2:x.kids.length=2
      ·rw [decide_eq_true h2,decide_eq_false (by omega)];rfl
      ·rw [decide_eq_false h2,decide_eq_true (by omega)];rfl
     ·refine Tr.tt (by simpa using h3) (j6 true ?_)
      rw [decide_eq_false h3];rfl
  exact key (f.kids.drop 2) 2 [] rfl (by simp) rfl (fun _=>by simp)
 have lits:=z8 k1.kids (fun k zs=>∀ g:List Form,g++zs=k1.kids→g.length=k→Tr (fun m=>zbu m f g (k:Int)) (bif alls zdu (f.kids.drop 2) then
   bif zed ((f.kids.drop 2).map zhw) k1.kids then (k1.kids,(f.kids.drop 2).map zhw,true) else ([],[],false)
    else ([],[],false))) ?_ ?_ 0 (Nat.zero_le _) [] (by simp) rfl
 ·exact lits
 ·intro g hg _
  rw [List.append_nil] at hg
  subst hg
  exact Tr.step (fun m=>by rw [zbu,i1,Option.bind_some,zN,cond_false]) tail
 ·intro k x zs hk' hx hd ih g hg hgl
  have hxm:=List.mem_of_getElem? hx
  have:=Form.ws_mem hxm
  refine Tr.step (fun m=>by rw [zbu,i1,Option.bind_some,ltN hk',cond_true,Option.bind_some,zB hx,Option.bind_some,za6]) ?_
  refine Tr.bind (zib _ x (Nat.le_refl _) (by omega)) (Tr.chk (decide_eq_true (by simp;omega)) (ih (g++[x]) (by rw [List.append_assoc];exact hg) (by simp [hgl])))
structure Dr5 (lits:List Form) (rules:List Rule) (f:Form):Prop where
 lw:Form.ws lits≤400
 lf:Form.fits lits
 ne:0 < rules.length
 len:rules.length≤400
 r:∀ r∈rules,DrR 200 r
 f:Dr 400 f
theorem parseR_dr {f:Form} (hf:Dr 102 f) (h3:3≤f.kids.length) (hok:(parseR f).2.2=true):Form.ws (parseR f).1≤400∧Form.fits (parseR f).1∧0 < (parseR f).2.1.length∧(parseR f).2.1.length≤400∧∀ r∈(parseR f).2.1,DrR 200 r:=by
 have hw:=f.w_kids
 have hl:=Form.ws_len f.kids
 have hfw:=hf.w
 unfold parseR at hok ⊢
 cases h1:isRules f with
 | false=>rw [h1] at hok;cases hok
 | true =>
 rw [h1,cond_true] at hok;rw [cond_true]
 cases h2:alls zdu (f.kids.drop 2) with
 | false=>rw [h2] at hok;cases hok
 | true =>
 rw [h2,cond_true] at hok;rw [cond_true]
 cases h4:zed ((f.kids.drop 2).map zhw) (f.kids.getD 1 zci).kids with
 | false=>rw [h4] at hok;cases hok
 | true =>
 rw [cond_true]
 have d1:=kid_dr hf (ziv (l:=f.kids) (k:=1) (d:=zci) (by omega)).2
 have d1w:=d1.w
 have k1w:=(f.kids.getD 1 zci).w_kids
 refine ⟨by dsimp only;omega,d1.fit.parts.2.2.2,by simp;omega,by simp;omega,fun r hr=>?_⟩
 obtain ⟨x,hx,rfl⟩:=List.mem_map.1 hr
 have:=ruleOf_dr (kid_dr hf (List.mem_of_mem_drop hx)) (zek.1 h2 x hx)
 exact ⟨this.p.mono (by omega),this.t.mono (by omega)⟩
theorem t5_kids:∀ p∈[(t5F0,t5F1),(t5F2,t5F3),(t5F4,t5F5),(t5F6,t5F7),(t5F8,t5F9),(t5F10,t5F11),(t5F12,t5F13),(t5F14,t5F15)],3≤p.1.kids.length:=by
 intro p hp
 simp only [List.mem_cons,List.not_mem_nil,or_false] at hp
 rcases hp with rfl | rfl | rfl | rfl | rfl | rfl | rfl | rfl<;>exact of_decide_eq_true (by kernel_rfl)
theorem t5_first:∃ b,Abs.idx t5T 0=some [(⟨#[40,114,117,108,101,115,32,40,41,32,40,40,95,32,97,32,98,41,32,40,108,101,116,32,40,40,116,109,112,32,97,41,41,32,40,108,105,115,116,32,98,32,116,109,112,41,41,41,41]⟩:ByteArray),b]:=⟨_,rfl⟩
theorem t5_ok:(parseR t5F0).2.2=true:=by
 have h1:=zhj t5F0 (t5P0.dr.mono (by omega))
 have h2:TQ (fun m=>zcW m t5F0) (fun r=>r.2.2=true):=by
  refine ⟨_,Tr.add 200 (v:=([],[zhw (t5F0.kids.getD 2 zci)],true)) (fun m=>by kernel_rfl),rfl⟩
 exact TQ.of_tr (Q:=fun r=>r.2.2=true) h1 h2
theorem l5Case_tq (code:List Int) (hc:∀ x∈code,0≤x∧x < 256):TQ (fun m=>zgW m code) (fun r=>Dr5 r.1 r.2.1 r.2.2):=by
 refine TQ.eq (fun m=>by unfold zgW;rfl) ?_
 refine TQ.bind (open_tq code hc) (fun o ho=>TQ.ev t5T_tr (TQ.bind (zhk o _ _ ho (by omega)) (fun v hv=>?_)))
 obtain ⟨h1,_,h2,_⟩:=hv
 obtain ⟨h2,h3⟩:=h2 (by decide)
 obtain ⟨p,hp,a,b,hi,pa,pb⟩:=pairs_tq t5T_all h2 h3
 have hp3:=t5_kids p hp
 refine TQ.at hi (TQ.at (idx2_0 _ _) (TQ.ev pa.tr (TQ.bind (zhk _ 10 _ h1 (by omega)) (fun w hw=>?_))))
 -- the second part
 have j2:∀ (o:zb9) (K:Int) (lits:List Form) (rules:List Rule),OkRd o K→K≤100000→(Form.ws lits≤400∧Form.fits lits∧0 < rules.length∧rules.length≤400∧∀ r∈rules,DrR 200 r)→TQ (fun m=>zdq m t5T v o.b o.p lits rules) (fun r=>Dr5 r.1 r.2.1 r.2.2):=by
  intro o K lits rules ho hK hd
  obtain ⟨d1,d2,d3,d4,d5⟩:=hd
  refine TQ.step (fun m=>by rw [zdq]) (TQ.at hi (TQ.at (idx2_1 a b) (TQ.ev pb.tr (TQ.bind (zhk _ 8 _ ho.mk' (by omega)) (fun u hu=>?_)))))
  have u1:=hu.1
  have db:=pb.dr
  refine TQ.cond (fun _=>?_) (fun _=>TQ.cond (fun _=>?_) (fun _=>TQ.cond (fun _=>?_) (fun _=>?_)))
  ·refine TQ.bind (zhk _ _ _ u1 (by omega)) (fun z hz=>?_)
   obtain ⟨_,_,z2,_⟩:=hz
   obtain ⟨z2,z3⟩:=z2 (by decide)
   obtain ⟨q,_,a',b',hi',qa,qb⟩:=pairs_tq t5T_all z2 z3
   exact TQ.at hi' (TQ.at (idx2_1 _ _) (TQ.ev qb.tr (TQ.val ⟨d1,d2,d3,d4,d5,qb.dr.mono (by omega)⟩)))
  ·exact mutate2_tq _ _ _ u1 (db.mono (by omega)) (by omega) (g:=fun f _ _=>some (lits,rules,f)) (fun f o' _ hf=>TQ.val ⟨d1,d2,d3,d4,d5,hf.mono (by have:=db.w;omega)⟩)
  ·refine TQ.bind (l1Dress_tq _ p.2 _ _ (Nat.le_refl _) u1 (by have:=db.w;omega) db.fit (by have:=db.w;omega)) (fun z hz=>TQ.val ⟨d1,d2,d3,d4,d5,⟨?_,hz.2.2⟩⟩)
   have:=db.w;have:=hz.2.1;dsimp only;omega
  ·exact TQ.val ⟨d1,d2,d3,d4,d5,db.mono (by omega)⟩
 have j1:∀ (o:zb9) (K:Int) (f:Form),OkRd o K→K≤100000→Dr 102 f→3≤f.kids.length→TQ (fun m=>zcH m t5T v o.b o.p f.kind f.name f.n f.scopes f.kids) (fun r=>Dr5 r.1 r.2.1 r.2.2):=by
  intro o K f ho hK hf h3
  have e:Form.mk f.kind f.name f.n f.scopes f.kids=f:=by obtain ⟨a,b,c,d,e⟩:=f;rfl
  refine TQ.step (fun m=>by rw [zcH,e]) (TQ.ev (zhj f (hf.mono (by omega))) ?_)
  cases hok:(parseR f).2.2 with
  | true=>exact TQ.cond (fun h=>by cases h) (fun _=>j2 o K _ _ ho hK (parseR_dr hf h3 hok))
  | false =>
    obtain ⟨b0,B0⟩:=t5_first
    refine TQ.cond (fun _=>TQ.at B0 (TQ.at (idx2_0 _ _) (TQ.ev t5P0.tr (TQ.ev (zhj t5F0 (t5P0.dr.mono (by omega))) (j2 o K _ _ ho hK (parseR_dr (t5P0.dr.mono (by omega)) (t5_kids (t5F0,t5F1) (by simp)) t5_ok)))))) (fun h=>by cases h)
 have da:=pa.dr
 refine TQ.cond (fun _=>?_) (fun _=>?_)
 ·exact mutate2_len _ _ _ hw.1 (da.mono (by omega)) (by omega) (g:=fun f o m=>zcH m t5T v o.b o.p f.kind f.name f.n f.scopes f.kids) (fun f o' ho' hf hk=>j1 o' _ f ho' (by omega) (hf.mono (by have:=da.w;omega)) (by omega))
 ·exact j1 w.2 _ p.1 hw.1 (by omega) (da.mono (by omega)) hp3
theorem isOk_name {f:Form} {d:Nat} (h:f.isOk d=true) (h1:f.kind=1):f.valid=true∧f.kids=[]:=by
 have hk:=(zfn h).1 (by omega)
 refine ⟨?_,hk⟩
 unfold Form.valid
 rw [Form.isOk_eq] at h ⊢
 cases hd:decide (d=0) with
 | true=>rw [hd] at h;cases h
 | false =>
   rw [hd,cond_false,decide_eq_true h1,cond_true] at h
   rw [decide_eq_false (by omega),cond_false,decide_eq_true h1,cond_true,h,Form.cnt_eq,hk,Form.cnts];rfl
theorem vs_isOk (lits:List Form):∀ (n:Nat) (p:Form),p.w≤n→(∃ d,p.isOk d=true)→∀ x∈p.vs lits,∃ d,x.isOk d=true:=by
 intro n
 induction n with
 | zero=>intro p h;have:=p.w_kids;omega
 | succ n ih =>
   intro p hp hd x hx
   have hw:=p.w_kids
   rw [Form.vs_eq] at hx
   rcases List.mem_append.1 hx with hx | hx
   ·cases hv:zdn lits p with
    | true=>rw [hv,cond_true,List.mem_singleton] at hx;subst hx;exact hd
    | false=>rw [hv] at hx;cases hx
   ·obtain ⟨d,hd⟩:=hd
    have k2:=(zfn hd).2
    have key:∀ l:List Form,Form.ws l≤n→(∀ y∈l,∃ d,y.isOk d=true)→x∈Form.kVs lits l→∃ d,x.isOk d=true:=by
     intro l
     induction l with
     | nil=>intro _ _ hx;rw [Form.kVs] at hx;cases hx
     | cons y ys ihl =>
       intro hl hy hx
       rw [Form.ws] at hl
       rw [Form.kVs] at hx
       rcases List.mem_append.1 hx with hx | hx
       ·exact ih y (by omega) (hy y (by simp)) x hx
       ·exact ihl (by omega) (fun z hz=>hy z (by simp [hz])) hx
    exact key p.kids (by omega) (fun y hy=>⟨_,k2 y hy⟩) hx
end Go.Abs
end
section
set_option linter.unusedVariables false
set_option linter.unusedSimpArgs false
namespace Go.Abs
structure Rule.fit (r:Rule):Prop where
 p:r.pattern.fit
 t:r.template.fit
structure zgP.fit (m:zgP):Prop where
 ll:m.literals.length≤9223372036854775807
 l:Form.fits m.literals
 rl:m.rules.length≤9223372036854775807
 r:∀ r∈m.rules,r.fit
structure za3.fit (x:za3):Prop where
 bl:x.binds.length≤9223372036854775807
 b:∀ b∈x.binds,b.fit
 ml:x.macros.length≤9223372036854775807
 m:∀ m∈x.macros,m.fit
end Go.Abs
end
section
set_option linter.unusedVariables false
set_option linter.unusedSimpArgs false
namespace Go.Abs
theorem fnd_any {α:Type} {D:α→Bool} {l:List α} {k:Nat}:decide (0≤fnd D l k)=anys D l:=by
 rw [Bool.eq_iff_iff,decide_eq_true_iff,fnd_ge,anys_iff]
theorem zf6 (l:List Bind) (hl:l.length≤9223372036854775807) (hf:∀ b∈l,b.fit):Tr (fun m=>zco m l) (bvOk l):=by
 refine Tr.eq (fun m=>by unfold zco;rfl) ?_
 have key:=z8 l (fun k zs=>Tr (fun m=>zbB m l (k:Int)) (bvF (l.take k) zs&&decide ((l.length:Int)≤60))) ?_ ?_ 0 (Nat.zero_le _)
 ·simpa [bvOk] using key
 ·exact Tr.step (fun m=>by rw [zbB,zN,cond_false]) (by rw [bvF,Bool.true_and];exact Tr.val)
 ·intro k x zs hk hx hd ih
  have hm:=List.mem_of_getElem? hx
  have hxf:=hf x hm
  rw [zey hx] at ih
  have j2:∀ b:Bool,bindOk x=!b→Tr (fun m=>za9 m l (k:Int) x b) (bvF (l.take k) (x::zs)&&decide ((l.length:Int)≤60)):=by
   intro b hb
   rw [bvF,hb]
   cases b with
   | true=>exact Tr.step (fun m=>by rw [za9,cond_true];rfl) Tr.val
   | false =>
     rw [Bool.not_false,Bool.true_and]
     refine Tr.step (fun m=>by rw [za9,cond_false,zi1 (by omega),Option.bind_some,za6]) ?_
     refine Tr.bind (v:=anys (fun c=>decide (c.name=x.name)&&same c.scopes x.scopes) (l.take k)) ?_ ?_
     ·refine Tr.eq (fun m=>by unfold zaV;rfl) (Tr.bind (v:=fnd (fun c=>decide (c.name=x.name)&&same c.scopes x.scopes) (l.take k) 0) ?_ (Tr.of fun m=>by rw [fnd_any]))
      refine Tr.eq (fun m=>by unfold zbf;rfl) ?_
      refine zej (L:=fun m j=>z5 m (l.take k) x j) (E:=fun m y=>zdZ m y x) (fun m j=>by rw [z5]) (fun y _=>?_)
      refine Tr.eq (fun m=>by unfold zdZ;rfl) ?_
      cases decide (y.name=x.name) with
      | false=>exact Tr.ff rfl Tr.val
      | true=>exact Tr.tt rfl (Tr.bind (slEqual_tr _ _) Tr.val)
     ·cases anys (fun c=>decide (c.name=x.name)&&same c.scopes x.scopes) (l.take k) with
      | true=>exact Tr.tt rfl Tr.val
      | false=>exact Tr.ff rfl (by rw [Bool.not_false,Bool.true_and];exact ih)
  refine Tr.step (fun m=>by rw [zbB,ltN hk,cond_true,zB hx,Option.bind_some]) (Tr.bind (implNm_tr _ hxf.1) ?_)
  cases hn:nmOk x.name with
  | false=>exact Tr.tt rfl (j2 true (by unfold bindOk;rw [hn];rfl))
  | true =>
  refine Tr.ff rfl (Tr.bind (implSc_tr _ hxf.2) ?_)
  cases hs:scOk x.scopes with
  | false=>exact Tr.tt rfl (j2 true (by unfold bindOk;rw [hn,hs];rfl))
  | true =>
  refine Tr.ff rfl (Tr.bind (within_tr _ _ _) (j2 _ ?_))
  unfold bindOk;rw [hn,hs,Bool.not_not];rfl
theorem hasC_tr (l:List Int) (n:Int):Tr (fun m=>zdd m l n) (hasB l n):=by
 refine Tr.eq (fun m=>by unfold zdd;rfl) (Tr.bind (v:=fnd (fun y=>decide (n=y)) l 0) ?_ ?_)
 ·refine Tr.eq (fun m=>by unfold zfy;rfl) ?_
  exact zej (L:=fun m j=>zbK m l n j) (E:=fun m y=>some (decide (n=y))) (fun m j=>by rw [zbK];rfl) (fun y _=>Tr.val)
 ·have e:decide (0≤fnd (fun y=>decide (n=y)) l 0)=hasB l n:=by
   rw [fnd_any,Bool.eq_iff_iff,anys_iff,hasB,anys_iff]
   simp only [decide_eq_true_eq,eq_comm]
  rw [← e];exact Tr.val
theorem not_anys {α:Type} {D:α→Bool}:∀ {l:List α},(!anys (fun x=>!D x) l)=alls D l
 | []=>rfl
 | x::xs=>by rw [anys,alls,Bool.not_or,Bool.not_not,not_anys]
theorem implWithin_tr (a b:List Int):Tr (fun m=>zcY m a b) (zi0 a b):=by
 refine Tr.eq (fun m=>by unfold zcY;rfl) (Tr.bind (v:=anys (fun x=>!hasB b x) a) ?_ ?_)
 ·refine Tr.eq (fun m=>by unfold zaO;rfl) (Tr.bind (v:=fnd (fun x=>!hasB b x) a 0) ?_ (Tr.of fun m=>by rw [fnd_any]))
  refine Tr.eq (fun m=>by unfold za8;rfl) ?_
  exact zej (L:=fun m j=>zY m a b j) (E:=fun m y=>zdh m y b) (fun m j=>by rw [zY]) (fun y _=>Tr.eq (fun m=>by unfold zdh;rfl) (Tr.bind (hasC_tr _ _) Tr.val))
 ·rw [← show (!anys (fun x=>!hasB b x) a)=zi0 a b from not_anys];exact Tr.val
theorem fitting_tr (l:List Bind) (f:Form) (hb:l.length≤2 ^ 36):Tr (fun m=>zgo m l f) (fitsB l f):=by
 refine Tr.eq (fun m=>by unfold zgo;rfl) ?_
 have key:=z8 l (fun k zs=>∀ g:List Int,g.length≤k→Tr (fun m=>zbY m l f g (k:Int)) (g++fitsF f zs k)) ?_ ?_ 0 (Nat.zero_le _) [] (by simp)
 ·exact key
 ·intro g _
  refine Tr.step (fun m=>by rw [zbY,zN,cond_false]) ?_
  rw [fitsF,List.append_nil];exact Tr.val
 ·intro k x zs hk hx hd ih g hg
  refine Tr.step (fun m=>by rw [zbY,ltN hk,cond_true,zB hx,Option.bind_some]) ?_
  rw [fitsF]
  have j2:∀ b:Bool,fitB f x=b→Tr (fun m=>zcX m l f g (k:Int) b) (g++((bif fitB f x then [(k:Int)] else [])++fitsF f zs (k+1))):=by
   intro b hb
   rw [hb]
   refine Tr.step (fun m=>by rw [zcX]) ?_
   cases b with
   | true =>
     refine Tr.tt rfl (Tr.chk (decide_eq_true (by simp;omega)) ?_)
     have:=ih (g++[(k:Int)]) (by simp;omega)
     rw [List.append_assoc] at this
     exact this
   | false=>exact Tr.ff rfl (by simpa using ih g (by omega))
  unfold fitB at j2
  by_cases hn:x.name=f.name
  ·refine Tr.tt (decide_eq_true hn) (Tr.bind (implWithin_tr _ _) (j2 _ ?_))
   rw [decide_eq_true hn,Bool.true_and]
  ·refine Tr.ff (decide_eq_false hn) (j2 false ?_)
   rw [decide_eq_false hn,Bool.false_and]
theorem bound_tr (l:List Bind) (f:Form) (hb:l.length≤2 ^ 36):Tr (fun m=>zhB m l f) (refB l f):=by
 refine Tr.eq (fun m=>by unfold zhB;rfl) (Tr.bind (fitting_tr l f hb) ?_)
 unfold refB
 have hm:∀ i∈fitsB l f,0≤i∧i < (l.length:Int):=fun i hi=>fitsB_mem hi
 generalize fitsB l f=fs at hm
 by_cases h0:fs=[]
 ·subst h0;exact Tr.tt rfl Tr.val
 have hpos:0 < fs.length:=by cases fs with
  | nil=>exact absurd rfl h0
  | cons a b=>simp
 rw [decide_eq_true (show 0 < (fs.length:Int) by omega),cond_true]
 refine Tr.ff (decide_eq_false (by omega)) ?_
 have key:=z8 fs (fun k zs=>(∀ z∈zs,z∈fs)→Tr (fun m=>zdg m l fs (k:Int)) (match firstB l fs zs with
  | some i=>(i,1)
  | none=>(0,2))) ?_ ?_ 0 (Nat.zero_le _) (fun z hz=>by simpa using hz)
 ·exact key
 ·intro _
  exact Tr.step (fun m=>by rw [zdg,zN,cond_false];rfl) Tr.val
 ·intro k x zs hk hx hd ih hz
  have hx1:=hm x (hz x (by simp))
  refine Tr.step (fun m=>by rw [zdg,ltN hk,cond_true,zB hx,Option.bind_some,za6]) ?_
  rw [firstB]
  refine Tr.bind (v:=anys (fun j=>!zi0 (bAt l j).scopes (bAt l x).scopes) fs) ?_ ?_
  ·refine Tr.eq (fun m=>by unfold zbG;rfl) (Tr.bind (v:=fnd (fun j=>!zi0 (bAt l j).scopes (bAt l x).scopes) fs 0) ?_ (Tr.of fun m=>by rw [fnd_any]))
   refine Tr.eq (fun m=>by unfold zb0;rfl) ?_
   refine zej (L:=fun m j=>zan m fs l x j) (E:=fun m y=>zgq m y l x) (fun m j=>by rw [zan]) (fun y hy=>?_)
   have hy1:=hm y hy
   exact Tr.eq (fun m=>by unfold zgq;rw [bAt_idx hy1.1 hy1.2,Option.bind_some,bAt_idx hx1.1 hx1.2,Option.bind_some]) (Tr.bind (implWithin_tr _ _) Tr.val)
  ·have e:(!anys (fun j=>!zi0 (bAt l j).scopes (bAt l x).scopes) fs)=bestB l fs x:=not_anys
   cases hbb:bestB l fs x with
   | true=>exact Tr.tt (e.trans hbb) Tr.val
   | false=>exact Tr.ff (e.trans hbb) (ih (fun z hzz=>hz z (by simp [hzz])))
theorem rulesOk_tr (rules:List Rule) (lits:List Form) (hr:∀ r∈rules,r.fit∧r.pattern.w≤2 ^ 36∧r.template.w≤2 ^ 36) (hl:Form.fits lits):Tr (fun m=>zgm m rules lits) (zed rules lits):=by
 refine Tr.eq (fun m=>by unfold zgm;rfl) ?_
 unfold zed
 by_cases h9:(rules.length:Int)≤9
 case neg=>rw [decide_eq_false h9,Bool.false_and,Bool.and_false];exact Tr.ff rfl Tr.val
 rw [decide_eq_true h9,Bool.true_and]
 refine Tr.tt rfl (Tr.bind (implLit_tr lits hl) ?_)
 cases litOk lits with
 | false=>rw [Bool.and_false];exact Tr.ff rfl Tr.val
 | true =>
 rw [Bool.and_true]
 refine Tr.tt rfl (Tr.bind (v:=anys (fun r=>!zgS r lits) rules) ?_ ?_)
 ·refine Tr.eq (fun m=>by unfold zbg;rfl) (Tr.bind (v:=fnd (fun r=>!zgS r lits) rules 0) ?_ (Tr.of fun m=>by rw [fnd_any]))
  refine Tr.eq (fun m=>by unfold zbE;rfl) ?_
  refine zej (L:=fun m j=>z9 m rules lits j) (E:=fun m y=>zfh m y lits) (fun m j=>by rw [z9]) (fun y hy=>?_)
  have h:=hr y hy
  exact Tr.eq (fun m=>by unfold zfh;rfl) (Tr.bind (implRuleValid_tr y lits h.1.p h.2.1 h.1.t h.2.2 hl) Tr.val)
 ·rw [show (fun m=>some (!anys (fun r=>!zgS r lits) rules))=fun (m:Nat)=>some (alls (fun r=>zgS r lits) rules) from funext fun _=>by rw [not_anys]]
  exact Tr.val
end Go.Abs
end
section
set_option linter.unusedVariables false
set_option linter.unusedSimpArgs false
namespace Go.Abs
mutual
theorem Form.vd_up (lits:List Form):∀ (f:Form) (v:Nat),(f.vd lits (v+1)).map (·.2)=((f.vd lits v).map (·.2)).map (·+1)
 | .mk k nm n sc kids,v=>by
   have:=Form.kV_up lits kids v
   rw [Form.vd,Form.vd,List.map_append,List.map_append,List.map_append,this]
   cases zdn lits (.mk k nm n sc kids)<;>simp
theorem Form.kV_up (lits:List Form):∀ (l:List Form) (v:Nat),(Form.kV lits (v+1) l).map (·.2)=((Form.kV lits v l).map (·.2)).map (·+1)
 | [],v=>by rw [Form.kV,Form.kV];rfl
 | y::ys,v=>by
   have h1:=Form.kV_up lits ys v
   have h2:=Form.vd_up lits y v
   have h3:=Form.vd_up lits y (v+1)
   rw [Form.kV,Form.kV,List.map_append,List.map_append,List.map_append,h1]
   cases zbU ys with
   | true=>rw [cond_true,cond_true,h3]
   | false=>rw [cond_false,cond_false,h2]
end
theorem rowH_depth:∀ (vs:List (Form × Int)) (k:Nat) (rows:List (List Hit)),(rowH k vs rows).map Hit.depth=(vs.map (·.2)).map (·+1)
 | [],k,rows=>rfl
 | v::vs,k,rows=>by rw [rowH,List.map_cons,List.map_cons,List.map_cons,rowH_depth vs];rfl
theorem KidS.dots_vd {x:Form} (h:KidS x) (hd:zE x=true) (lits:List Form) (v:Nat):x.vd lits v=[]:=by
 obtain ⟨_,h2,h3⟩:=h.dots hd lits
 rw [Form.vd_eq,h2,h3,Form.kV];rfl
theorem zin {bs:List Bind} {lits:List Form}:∀ {ps:List Form},(∀ x∈ps,KidS x)→(∀ x∈ps,zE x=false→∀ f h,x.mt bs lits f=some h→h.map Hit.depth=(x.vd lits 0).map (·.2))→∀ {fs:List Form} {h:List Hit},Form.mts bs lits ps fs=some h→h.map Hit.depth=(Form.kV lits 0 ps).map (·.2)
 | [],_,_,fs,h,hm=>by
   rw [Form.mts] at hm
   cases hz:decide (fs.length=0) with
   | true=>rw [hz] at hm;cases hm;rfl
   | false=>rw [hz] at hm;cases hm
 | p::ps,hk,ih,fs,h,hm=>by
   have hk':∀ x∈ps,KidS x:=fun x hx=>hk x (by simp [hx])
   have ih':∀ x∈ps,zE x=false→∀ f h,x.mt bs lits f=some h→h.map Hit.depth=(x.vd lits 0).map (·.2):=fun x hx=>ih x (by simp [hx])
   rw [Form.kV,List.map_append]
   rcases mts_cons hm with ⟨hd,hm2⟩ | ⟨hd,hn,hl,rows,h2,ha,hm2,rfl⟩ | ⟨hd,hn,f,fs',h1,h2,rfl,hf,hm2,rfl⟩
   ·rw [(hk p (by simp)).dots_vd hd,(hk p (by simp)).dots_vd hd]
    cases zbU ps<;>exact zin hk' ih' hm2
   ·rw [List.map_append,rowH_depth,hn,cond_true,Form.vd_up,zin hk' ih' hm2]
   ·rw [List.map_append,ih p (by simp) hd f h1 hf,hn,cond_false,zin hk' ih' hm2]
theorem mt_depth_n (bs:List Bind) (lits:List Form):∀ (n:Nat) (p:Form),p.w≤n→PatS p→∀ f h,p.mt bs lits f=some h→h.map Hit.depth=(p.vd lits 0).map (·.2):=by
 intro n
 induction n with
 | zero=>intro p h;have:=p.w_kids;omega
 | succ n ih =>
   intro p hp hs f h hm
   have hw:=p.w_kids
   obtain ⟨q1,q2,q3,q4,q5⟩:=hs.parts
   rw [Form.mt_eq] at hm
   rw [Form.vd_eq]
   by_cases h1:p.kind=1
   ·rw [decide_eq_true h1,cond_true] at hm
    rw [q5 (by omega),Form.kV,List.append_nil]
    unfold zE at q1
    rw [decide_eq_true h1,Bool.true_and] at q1
    unfold zdn
    rw [decide_eq_true h1,q1,Bool.not_false,Bool.true_and,Bool.true_and]
    cases hu:decide (p.name=zgJ) with
    | true=>rw [hu] at hm;cases hm;rfl
    | false =>
    rw [hu,cond_false] at hm
    cases hi:inF lits p with
    | true =>
      rw [hi,cond_true] at hm
      cases hr:(decide (f.kind=1)&&refS bs p f) with
      | true=>rw [hr] at hm;cases hm;rfl
      | false=>rw [hr] at hm;cases hm
    | false=>rw [hi] at hm;cases hm;rfl
   ·rw [decide_eq_false h1,cond_false] at hm
    have hv:zdn lits p=false:=by unfold zdn;rw [decide_eq_false h1];rfl
    rw [hv,cond_false,List.nil_append]
    by_cases h2:p.kind=2
    ·rw [decide_eq_true h2,cond_true] at hm
     rw [q5 (by omega),Form.kV]
     cases hr:same p f with
     | true=>rw [hr] at hm;cases hm;rfl
     | false=>rw [hr] at hm;cases hm
    ·rw [decide_eq_false h2,cond_false] at hm
     cases hr:decide (f.kind≠3) with
     | true=>rw [hr] at hm;cases hm
     | false =>
       rw [hr,cond_false] at hm
       exact zin q4 (fun x hx hd=>ih x (by have:=Form.ws_mem hx;omega) ((q4 x hx).pat hd)) hm
theorem mt_depth {bs:List Bind} {lits:List Form} {p f:Form} {h:List Hit} (hs:PatS p) (hm:p.mt bs lits f=some h):h.map Hit.depth=(p.vd lits 0).map (·.2):=mt_depth_n bs lits _ p (Nat.le_refl _) hs f h hm
theorem isOk_mono:∀ (n:Nat) (f:Form),f.w≤n→∀ d e,d≤e→f.isOk d=true→f.isOk e=true:=by
 intro n
 induction n with
 | zero=>intro f h;have:=f.w_kids;omega
 | succ n ih =>
   intro f hf d e hde h
   have hw:=f.w_kids
   rw [Form.isOk_eq] at h ⊢
   by_cases hd:d=0
   ·rw [decide_eq_true hd] at h;cases h
   rw [decide_eq_false hd,cond_false] at h
   rw [decide_eq_false (show ¬ e=0 by omega),cond_false]
   cases h1:decide (f.kind=1) with
   | true=>rw [h1,cond_true] at h;exact h
   | false =>
   rw [h1,cond_false] at h
   rw [cond_false]
   cases h2:decide (f.kind=2) with
   | true=>rw [h2,cond_true] at h;exact h
   | false =>
   rw [h2,cond_false] at h
   rw [cond_false]
   simp only [Bool.and_eq_true] at h ⊢
   obtain ⟨a,b,c,k,g⟩:=h
   refine ⟨a,b,c,k,?_⟩
   rw [zek] at g ⊢
   exact fun x hx=>ih x (by have:=Form.ws_mem hx;omega) (d-1) (e-1) (by omega) (g x hx)
theorem cnts_mem:∀ {l:List Form} {x:Form},x∈l→x.cnt≤Form.cnts l
 | y::ys,x,h=>by
   rw [Form.cnts]
   rcases List.mem_cons.1 h with rfl | h
   ·omega
   ·have:=cnts_mem h;omega
theorem cnts_len:∀ (l:List Form),l.length≤Form.cnts l
 | []=>by simp
 | y::ys=>by
   have:=cnts_len ys
   have:=y.cnt_eq
   rw [Form.cnts,List.length_cons];omega
theorem valid_kid {f x:Form} (h:f.valid=true) (hx:x∈f.kids):x.valid=true:=by
 unfold Form.valid at h ⊢
 rw [Bool.and_eq_true,decide_eq_true_eq] at h ⊢
 have:=(zfn h.1).2 x hx
 have h2:=cnts_mem hx
 have h3:=f.cnt_eq
 exact ⟨isOk_mono _ x (Nat.le_refl _) (40-1) 40 (by omega) this,by omega⟩
theorem valid_kids {f:Form} (h:f.valid=true):f.kids.length≤400:=by
 unfold Form.valid at h
 rw [Bool.and_eq_true,decide_eq_true_eq] at h
 have h2:=cnts_len f.kids
 have h3:=f.cnt_eq
 omega
def HitD:Nat→Hit→Prop
 | 0,h=>h.depth=0∧h.one.valid=true∧h.many=[]
 | d+1,h=>h.depth=(d:Int)+1∧h.one=zci∧h.many.length≤400∧∀ x∈h.many,x.name=h.name∧HitD d x
def nameG (f:Form):Bool:=isNm f&&(!decide (f.name=dotsN)&&!decide (f.name=zgJ))
theorem HitD.depth {d:Nat} {h:Hit} (hd:HitD d h):h.depth=(d:Int):=by
 cases d with
 | zero=>exact hd.1
 | succ d=>rw [hd.1];omega
theorem HitD.isOk:∀ (d:Nat) (h:Hit),d≤3→HitD d h→nameG h.name=true→h.isOk=true
 | 0,h,hd,hh,hn=>by
   obtain ⟨h1,h2,h3⟩:=hh
   unfold nameG at hn
   simp only [Bool.and_eq_true] at hn
   rw [Hit.isOk_eq,hn.1,hn.2.1,hn.2.2,h1,h2,h3];rfl
 | d+1,h,hd,hh,hn=>by
   obtain ⟨h1,h2,h3,h4⟩:=hh
   have hn0:=hn
   unfold nameG at hn
   simp only [Bool.and_eq_true] at hn
   rw [Hit.isOk_eq,hn.1,hn.2.1,hn.2.2,h1,h2,zgR,decide_eq_false (show ¬ (d:Int)+1=0 by omega),decide_eq_true (show (0:Int)≤(d:Int)+1 by omega),decide_eq_true (show (d:Int)+1≤3 by omega),decide_eq_true (show (h.many.length:Int)≤400 by omega)]
   simp only [Bool.true_and,cond_false]
   rw [zek]
   intro x hx
   obtain ⟨e1,e2⟩:=h4 x hx
   rw [e1,zgR,e2.depth,decide_eq_true (show (d:Int)=(d:Int)+1-1 by omega),HitD.isOk d x (by omega) e2 (by rw [e1];exact hn0)]
   rfl
theorem rowH_mem:∀ {vs:List (Form × Int)} {k:Nat} {rows:List (List Hit)} {x:Hit},x∈rowH k vs rows→∃ j v,vs[j]?=some v∧x=Hit.mk v.1 (v.2+1) zci (rows.map fun r=>r.getD (k+j) hit0)
 | v::vs,k,rows,x,hx=>by
   rw [rowH] at hx
   rcases List.mem_cons.1 hx with rfl | hx
   ·exact ⟨0,v,rfl,rfl⟩
   ·obtain ⟨j,w,h1,h2⟩:=rowH_mem hx
    exact ⟨j+1,w,by simpa using h1,by rw [h2,show k+1+j=k+(j+1) by omega]⟩
theorem zi6 {bs:List Bind} {lits:List Form}:∀ {ps:List Form},(∀ x∈ps,KidS x)→(∀ x∈ps,zE x=false→∀ f h,f.valid=true→x.mt bs lits f=some h→∀ y∈h,0≤y.depth∧HitD y.depth.toNat y)→∀ {fs:List Form} {h:List Hit},fs.length≤400→(∀ f∈fs,f.valid=true)→Form.mts bs lits ps fs=some h→∀ y∈h,0≤y.depth∧HitD y.depth.toNat y
 | [],_,_,fs,h,_,_,hm=>by
   rw [Form.mts] at hm
   cases hz:decide (fs.length=0) with
   | true=>rw [hz] at hm;cases hm;intro y hy;cases hy
   | false=>rw [hz] at hm;cases hm
 | p::ps,hk,ih,fs,h,hl,hv,hm=>by
   have hk':∀ x∈ps,KidS x:=fun x hx=>hk x (by simp [hx])
   have ih':∀ x∈ps,zE x=false→∀ f h,f.valid=true→x.mt bs lits f=some h→∀ y∈h,0≤y.depth∧HitD y.depth.toNat y:=fun x hx=>ih x (by simp [hx])
   rcases mts_cons hm with ⟨hd,hm2⟩ | ⟨hd,hn,hl2,rows,h2,ha,hm2,rfl⟩ | ⟨hd,hn,f,fs',h1,h2,rfl,hf,hm2,rfl⟩
   ·exact zi6 hk' ih' hl hv hm2
   ·intro y hy
    rcases List.mem_append.1 hy with hy | hy
    ·obtain ⟨j,v,hj,rfl⟩:=rowH_mem hy
     have hvm:=List.mem_of_getElem? hj
     have h0:=Form.vd_nn lits p 0 v hvm
     have hS:=(hk p (by simp)).pat hd
     refine ⟨by show 0≤v.2+1;omega,?_⟩
     show HitD (v.2+1).toNat _
     obtain ⟨d,hd2⟩:=Int.eq_ofNat_of_zero_le h0
     rw [hd2,show ((d:Int)+1).toNat=d+1 by omega]
     refine ⟨rfl,rfl,?_,fun z hz=>?_⟩
     ·show (rows.map _).length≤400
      rw [List.length_map,allM_len ha,List.length_take];omega
     ·obtain ⟨r,hr,rfl⟩:=List.mem_map.1 hz
      obtain ⟨f,hf,hD⟩:=allM_mem ha r hr
      have hlen:=mt_len hS hD
      have hjl:=(List.getElem?_eq_some_iff.1 hj).1
      rw [Nat.zero_add]
      obtain ⟨e1,e2⟩:=ziv (l:=r) (k:=j) (d:=hit0) (by omega)
      have n1:(r.getD j hit0).name=v.1:=by
       have:=mt_names hS hD
       rw [← Form.vd_fst lits p 0] at this
       have:=congrArg (fun l=>l[j]?) this
       simp only [List.getElem?_map,e1,hj,Option.map_some] at this
       exact Option.some.inj this
      have n2:(r.getD j hit0).depth=v.2:=by
       have:=mt_depth hS hD
       have:=congrArg (fun l=>l[j]?) this
       simp only [List.getElem?_map,e1,hj,Option.map_some] at this
       exact Option.some.inj this
      refine ⟨n1,?_⟩
      have:=(ih p (by simp) hd f r (hv f (List.mem_of_mem_take hf)) hD _ e2).2
      rw [n2,hd2] at this
      exact this
    ·exact zi6 hk' ih' (by rw [List.length_drop];omega) (fun f hf=>hv f (List.mem_of_mem_drop hf)) hm2 y hy
   ·intro y hy
    rcases List.mem_append.1 hy with hy | hy
    ·exact ih p (by simp) hd f h1 (hv f (by simp)) hf y hy
    ·exact zi6 hk' ih' (by simp at hl;omega) (fun g hg=>hv g (by simp [hg])) hm2 y hy
theorem mt_good_n (bs:List Bind) (lits:List Form):∀ (n:Nat) (p:Form),p.w≤n→PatS p→∀ f h,f.valid=true→p.mt bs lits f=some h→∀ y∈h,0≤y.depth∧HitD y.depth.toNat y:=by
 intro n
 induction n with
 | zero=>intro p h;have:=p.w_kids;omega
 | succ n ih =>
   intro p hp hs f h hf hm
   have hw:=p.w_kids
   obtain ⟨q1,q2,q3,q4,q5⟩:=hs.parts
   have nil:∀ y∈([]:List Hit),0≤y.depth∧HitD y.depth.toNat y:=fun y hy=>by cases hy
   rw [Form.mt_eq] at hm
   by_cases h1:p.kind=1
   ·rw [decide_eq_true h1,cond_true] at hm
    cases hu:decide (p.name=zgJ) with
    | true=>rw [hu] at hm;cases hm;exact nil
    | false =>
    rw [hu,cond_false] at hm
    cases hi:inF lits p with
    | true =>
      rw [hi,cond_true] at hm
      cases hr:(decide (f.kind=1)&&refS bs p f) with
      | true=>rw [hr] at hm;cases hm;exact nil
      | false=>rw [hr] at hm;cases hm
    | false =>
      rw [hi] at hm;cases hm
      intro y hy
      rw [List.mem_singleton] at hy
      subst hy
      exact ⟨Int.le_refl _,rfl,hf,rfl⟩
   ·rw [decide_eq_false h1,cond_false] at hm
    by_cases h2:p.kind=2
    ·rw [decide_eq_true h2,cond_true] at hm
     cases hr:same p f with
     | true=>rw [hr] at hm;cases hm;exact nil
     | false=>rw [hr] at hm;cases hm
    ·rw [decide_eq_false h2,cond_false] at hm
     cases hr:decide (f.kind≠3) with
     | true=>rw [hr] at hm;cases hm
     | false =>
       rw [hr,cond_false] at hm
       exact zi6 q4 (fun x hx hd=>ih x (by have:=Form.ws_mem hx;omega) ((q4 x hx).pat hd)) (valid_kids hf) (fun x hx=>valid_kid hf hx) hm
theorem var_nameG {lits:List Form} {p:Form} (hp:∃ d,p.isOk d=true) {x:Form} (hx:x∈p.vs lits):nameG x=true:=by
 have hvar:=(Form.vs_part lits p x hx).1
 unfold zdn at hvar
 simp only [Bool.and_eq_true,decide_eq_true_eq,Bool.not_eq_true',decide_eq_false_iff_not] at hvar
 obtain ⟨d,hd⟩:=vs_isOk lits _ p (Nat.le_refl _) hp x hx
 obtain ⟨n1,n2⟩:=isOk_name hd hvar.1
 unfold nameG isNm
 rw [decide_eq_true hvar.1,n1,decide_eq_false hvar.2.1,decide_eq_false hvar.2.2.1];rfl
theorem hvF_of:∀ {l:List Hit} {ps:List Hit},(∀ x∈l,x.isOk=true)→distF (ps.map Hit.name) (l.map Hit.name)=true→hvF ps l=true
 | [],ps,_,_=>by rw [hvF]
 | x::l,ps,h,hd=>by
   rw [List.map_cons,distF,Bool.and_eq_true] at hd
   rw [hvF,Bool.and_eq_true,Bool.and_eq_true]
   refine ⟨h x (by simp),?_,hvF_of (fun y hy=>h y (by simp [hy])) (by rw [List.map_append];exact hd.2)⟩
   have h1:=hd.1
   unfold inF at h1
   rw [Bool.not_not,zek] at h1
   rw [zek]
   exact fun y hy=>h1 y.name (List.mem_map_of_mem hy)
theorem mt_isOk {bs:List Bind} {lits:List Form} {p f:Form} {h:List Hit} (hp:ziA p lits=true) (hf:f.valid=true) (hm:p.mt bs lits f=some h):∀ x∈h,x.isOk=true:=by
 intro x hx
 have hS:=ziz hp
 obtain ⟨g1,g2⟩:=mt_good_n bs lits _ p (Nat.le_refl _) hS f h hf hm x hx
 have hn:x.name∈p.vs lits:=by rw [← mt_names hS hm];exact List.mem_map_of_mem hx
 have hd:x.depth∈(p.vd lits 0).map (·.2):=by rw [← mt_depth hS hm];exact List.mem_map_of_mem hx
 have h3:x.depth≤3:=by
  unfold ziA at hp
  simp only [Bool.and_eq_true] at hp
  have:=hp.2.2.2.1.2
  unfold dsOk at this
  rw [zek] at this
  have:=this _ hd
  simpa using this
 exact HitD.isOk _ x (by omega) g2 (var_nameG hS.ok hn)
theorem mt_hvOk {bs:List Bind} {lits:List Form} {p f:Form} {h:List Hit} (hp:ziA p lits=true) (hf:f.valid=true) (hm:p.mt bs lits f=some h):hvOk h=true:=by
 have hS:=ziz hp
 have hn:=mt_names hS hm
 have h1:=hvF_of (l:=h) (ps:=[]) (mt_isOk hp hf hm) (by
  rw [hn]
  unfold ziA at hp
  simp only [Bool.and_eq_true] at hp
  exact hp.2.2.2.1.1)
 have h2:(h.length:Int)≤20:=by
  have:=congrArg List.length hn
  rw [List.length_map] at this
  unfold ziA at hp
  simp only [Bool.and_eq_true,decide_eq_true_eq] at hp
  have:=hp.2.2.2.2
  omega
 unfold hvOk
 rw [h1,decide_eq_true h2];rfl
theorem zie:∀ (a b:List Form),Form.cnts (a++b)=Form.cnts a+Form.cnts b
 | [],b=>by rw [List.nil_append,Form.cnts,Nat.zero_add]
 | x::a,b=>by rw [List.cons_append,Form.cnts,Form.cnts,zie a b];omega
end Go.Abs
end
section
set_option linter.unusedVariables false
set_option linter.unusedSimpArgs false
namespace Go.Abs
theorem hvF_apart:∀ {l ps:List Hit},hvF ps l=true→∀ h∈l,∀ p∈ps,same p.name h.name=false
 | x::xs,ps,hv,h,hh,p,hp=>by
   rw [hvF,Bool.and_eq_true,Bool.and_eq_true] at hv
   rcases List.mem_cons.1 hh with rfl | hh
   ·have:=zek.1 hv.2.1 p hp
    simpa using this
   ·exact hvF_apart hv.2.2 h hh p (List.mem_append_left _ hp)
theorem hv_dep:∀ {l ps:List Hit},hvF ps l=true→∀ h∈l,depF (nd l) h.name=h.depth
 | x::xs,ps,hv,h,hh=>by
   have hv':=hv
   rw [hvF,Bool.and_eq_true,Bool.and_eq_true] at hv
   show depF ((x.name,x.depth)::nd xs) h.name=h.depth
   rw [depF]
   rcases List.mem_cons.1 hh with rfl | hh
   ·rw [zgR,cond_true]
   ·rw [hvF_apart hv.2.2 h hh x (by simp),cond_false]
    exact hv_dep hv.2.2 h hh
end Go.Abs
end
section
set_option linter.unusedVariables false
set_option linter.unusedSimpArgs false
namespace Go.Abs
theorem FindName_tr (l:List Bind) (f:Form) (hl:l.length≤2 ^ 36) (hb:∀ b∈l,b.fit) (hf:f.fit) (hv:bvOk l=true) (hn:isNm f=true) :
  Tr (fun m=>zeG m l f) (bif decide ((refB l f).2=1) then (bAt l (refB l f).1).id else 0,(refB l f).2):=by
 refine Tr.eq (fun m=>by unfold zeG;rfl) (Tr.bind (zf6 l (by omega) hb) ?_)
 rw [hv]
 refine Tr.ff rfl (Tr.bind (zg9 f hf) ?_)
 rw [hn]
 refine Tr.step (fun m=>by rw [zdm,Bool.not_true,cond_false]) (Tr.bind (bound_tr l f hl) ?_)
 rcases ziH l f with ⟨i,ha,i0,i1⟩ | ha | ha
 ·rw [ha]
  exact Tr.ff (by simp) (Tr.eq (fun m=>by rw [bAt_idx i0 i1,Option.bind_some];rfl) Tr.val)
 ·rw [ha];exact Tr.tt (by simp) Tr.val
 ·rw [ha];exact Tr.tt (by simp) Tr.val
theorem sameRef_tr (l:List Bind) (a b:Form) (hl:l.length≤2 ^ 36) (hb:∀ b∈l,b.fit) (ha:a.fit) (hbf:b.fit) :
  Tr (fun m=>zdz m l a b) (bvOk l&&(isNm a&&(isNm b&&refS l a b))):=by
 refine Tr.eq (fun m=>by unfold zdz;rfl) (Tr.bind (zf6 l (by omega) hb) ?_)
 have no:Tr (fun m=>zaD m l a b true) false:=Tr.step (fun m=>by rw [zaD,cond_true]) Tr.val
 cases hv:bvOk l with
 | false=>exact Tr.tt rfl no
 | true =>
 refine Tr.ff rfl (Tr.bind (zg9 a ha) ?_)
 cases hna:isNm a with
 | false=>exact Tr.tt rfl no
 | true =>
 refine Tr.ff rfl (Tr.bind (zg9 b hbf) ?_)
 cases hnb:isNm b with
 | false=>exact no
 | true =>
 refine Tr.step (fun m=>by rw [zaD,Bool.not_true,cond_false]) (Tr.bind (FindName_tr l a hl hb ha hv hna) (Tr.bind (FindName_tr l b hl hb hbf hv hnb) ?_))
 rw [Bool.true_and,Bool.true_and,Bool.true_and]
 unfold refS
 rcases ziH l a with ⟨i,ea,i0,i1⟩ | ea | ea<;>rcases ziH l b with ⟨j,eb,j0,j1⟩ | eb | eb<;>rw [ea,eb]
 ·refine Tr.tt rfl (Tr.tt rfl ?_)
  by_cases h:(bAt l i).id=(bAt l j).id
  ·exact Tr.tt (by simpa using h) (by simpa [h] using Tr.val)
  ·exact Tr.ff (by simpa using h) (Tr.ff (by simp) (by simpa [h] using Tr.val))
 ·exact Tr.tt rfl (Tr.ff (by simp) (Tr.ff (by simp) (by simpa using Tr.val)))
 ·exact Tr.tt rfl (Tr.ff (by simp) (Tr.ff (by simp) (by simpa using Tr.val)))
 ·exact Tr.ff (by simp) (Tr.ff (by simp) (by simpa using Tr.val))
 ·exact Tr.ff (by simp) (Tr.ff (by simp) (by simpa using Tr.val))
 ·exact Tr.ff (by simp) (Tr.ff (by simp) (by simpa using Tr.val))
 ·exact Tr.ff (by simp) (Tr.tt rfl (Tr.ff (by simp) (by simpa using Tr.val)))
 ·exact Tr.ff (by simp) (Tr.tt rfl (Tr.ff (by simp) (by simpa using Tr.val)))
 ·exact Tr.ff (by simp) (Tr.tt rfl (Tr.tt rfl (by simpa using Tr.val)))
def oR (o:Option (List Hit)):List Hit × Bool:=(o.getD [],o.isSome)
def oacc (acc:List Hit) (o:Option (List Hit)):Option (List Hit):=o.map (acc++·)
theorem oacc_oapp (acc:List Hit) (a b:Option (List Hit)):oacc acc (oapp a b)=match a with
  | none=>none
  | some h=>oacc (acc++h) b:=by
 cases a<;>cases b<;>simp [oacc,oapp]
theorem dotsAt_tr (l:List Form):Tr (fun m=>zeT m l) (fnd zE l 0):=by
 refine Tr.eq (fun m=>by unfold zeT;rfl) (Tr.bind ?_ Tr.val)
 refine Tr.eq (fun m=>by unfold za0;rfl) ?_
 exact zej (L:=fun m i=>zO m l i) (E:=fun m y=>zdX m y) (fun m i=>by rw [zO]) (fun y _=>Tr.eq (fun m=>by unfold zdX;rfl) (Tr.bind (zgU _ _) Tr.val))
theorem fnd_pre {α:Type} {D:α→Bool}:∀ {xs:List α} {y:α} {zs:List α} {k:Nat},(∀ x∈xs,D x=false)→D y=true→fnd D (xs++y::zs) k=((k+xs.length:Nat):Int)
 | [],y,zs,k,_,hy=>by rw [List.nil_append,fnd,hy,cond_true];simp
 | x::xs,y,zs,k,h,hy=>by
   rw [List.cons_append,fnd,h x (by simp),cond_false,fnd_pre (fun z hz=>h z (by simp [hz])) hy,List.length_cons]
   congr 1;omega
theorem cntD_zero:∀ {l:List Form},cntD l=0→∀ x∈l,zE x=false
 | y::ys,h,x,hx=>by
   rw [cntD] at h
   rcases List.mem_cons.1 hx with rfl | hx
   ·cases hd:zE x with
    | false=>rfl
    | true=>rw [hd] at h;simp at h
   ·exact cntD_zero (by omega) x hx
theorem cntD_split:∀ {l:List Form},cntD l≤1→(∀ x∈l,zE x=false)∨∃ xs y zs,l=xs++y::zs∧(∀ x∈xs,zE x=false)∧zE y=true∧∀ x∈zs,zE x=false
 | [],_=>.inl (fun x hx=>by cases hx)
 | y::ys,h=>by
   rw [cntD] at h
   cases hd:zE y with
   | true =>
     rw [hd,cond_true] at h
     exact .inr ⟨[],y,ys,rfl,(fun x hx=>by cases hx),hd,cntD_zero (by omega)⟩
   | false =>
     rw [hd,cond_false] at h
     rcases cntD_split (l:=ys) (by omega) with h1 | ⟨xs,z,zs,rfl,h2,h3,h4⟩
     ·exact .inl (fun x hx=>by
       rcases List.mem_cons.1 hx with rfl | hx
       ·exact hd
       ·exact h1 x hx)
     ·exact .inr ⟨y::xs,z,zs,rfl,(fun x hx=>by
       rcases List.mem_cons.1 hx with rfl | hx
       ·exact hd
       ·exact h2 x hx),h3,h4⟩
theorem nextD_no {l:List Form} (h:∀ x∈l,zE x=false):zbU l=false:=by
 cases l with
 | nil=>rfl
 | cons y ys=>exact h y (by simp)
theorem fnd_no {α:Type} {D:α→Bool}:∀ {l:List α} {k:Nat},(∀ x∈l,D x=false)→fnd D l k=-1
 | [],_,_=>rfl
 | x::xs,k,h=>by rw [fnd,h x (by simp),cond_false,fnd_no (fun y hy=>h y (by simp [hy]))]
theorem zhl {α:Type} {l xs:List α} {x:α} {k:Nat} (h:l.drop k=x::xs):l[k]?=some x∧l.drop (k+1)=xs∧k < l.length:=by
 have h1:l[k]?=some x:=by have:=congrArg (fun l=>l[0]?) h;simpa using this
 exact ⟨h1,by rw [← List.drop_drop,h];rfl,(List.getElem?_eq_some_iff.1 h1).1⟩
theorem zgF:∀ (vs:List (Form × Int)) (k:Nat) (rows:List (List Hit)),(rowH k vs rows).length=vs.length
 | [],_,_=>rfl
 | v::vs,k,rows=>by rw [rowH,List.length_cons,List.length_cons,zgF vs]
theorem rowH_get:∀ {vs:List (Form × Int)} {k j:Nat} {rows:List (List Hit)} {v:Form × Int},vs[j]?=some v→(rowH k vs rows)[j]?=some (Hit.mk v.1 (v.2+1) zci (rows.map fun r=>r.getD (k+j) hit0))
 | x::xs,k,0,rows,v,h=>by simp at h;subst h;rfl
 | x::xs,k,j+1,rows,v,h=>by
   rw [rowH,List.getElem?_cons_succ,rowH_get (vs:=xs) (by simpa using h),Nat.add_assoc,Nat.add_comm 1 j]
structure MatS (bs:List Bind) (lits:List Form) (P F:Form):Prop where
 kid:∀ x∈P.kids,KidS x
 ih:∀ x∈P.kids,zE x=false→∀ f∈F.kids,Tr (fun m=>zcN m bs x lits f) (oR (x.mt bs lits f))
 wp:Form.ws P.kids≤2 ^ 17
 wf:Form.ws F.kids≤2 ^ 17
section
variable {bs:List Bind} {lits:List Form} {P F:Form}
theorem mt_length (hS:MatS bs lits P F) {x f:Form} (hx:x∈P.kids) (hd:zE x=false) {h:List Hit} (hm:x.mt bs lits f=some h):h.length≤x.w:=by
 rw [mt_len ((hS.kid x hx).pat hd) hm];exact Form.vd_len lits x 0
theorem match1_tr (hS:MatS bs lits P F) {x f:Form} (hx:x∈P.kids) (hd:zE x=false) (hf:f∈F.kids) {acc:List Hit} (ha:acc.length≤2 ^ 20) :
  Tr (fun m=>zdL m x f bs lits acc) ((x.mt bs lits f).isSome,acc++(x.mt bs lits f).getD []):=by
 refine Tr.step (fun m=>by rw [zdL]) (Tr.bind (hS.ih x hx hd f hf) ?_)
 have hw:=Form.ws_mem hx
 have h1:=hS.wp
 refine Tr.chk (decide_eq_true ?_) Tr.val
 cases hm:x.mt bs lits f with
 | none=>simp [oR];omega
 | some h =>
   have:=mt_length hS hx hd hm
   simp [oR];omega
theorem mts_one {x f:Form} {xs fs:List Form} (hd:zE x=false) (hn:zbU xs=false):Form.mts bs lits (x::xs) (f::fs)=oapp (x.mt bs lits f) (Form.mts bs lits xs fs):=by
 rw [Form.mts_eq,hd,cond_false,hn,cond_false]
theorem oR_none {acc:List Hit} {b:Option (List Hit)}:oR (oacc acc (oapp none b))=([],false):=by cases b<;>rfl
theorem oR_some {acc h:List Hit} {b:Option (List Hit)}:oR (oacc acc (oapp (some h) b))=oR (oacc (acc++h) b):=by rw [oacc_oapp]
theorem oR_nil {acc:List Hit}:oR (oacc acc (some []))=(acc,true):=by simp [oR,oacc]
theorem mts_nil:Form.mts bs lits [] []=some []:=by rw [Form.mts];rfl
theorem match_l2_tr (hS:MatS bs lits P F) (hl:P.kids.length=F.kids.length):∀ (rest:List Form) (k:Nat) (acc:List Hit),P.kids.drop k=rest→k≤P.kids.length→(∀ x∈rest,zE x=false)→acc.length+Form.ws rest≤2 ^ 20 →
  Tr (fun m=>zdf m bs P lits F (k:Int) acc) (oR (oacc acc (Form.mts bs lits rest (F.kids.drop k))))
 | [],k,acc,hd,hk,hn,ha=>by
   have:k=P.kids.length:=by have:=congrArg List.length hd;rw [List.length_drop] at this;simp at this;omega
   subst this
   rw [hl,List.drop_length,mts_nil,oR_nil]
   refine Tr.step (fun m=>by rw [zdf,hl,zN,cond_false]) (Tr.step (fun m=>by rw [zfQ]) Tr.val)
 | x::xs,k,acc,hd,hk,hn,ha=>by
   obtain ⟨hx,hd2,hlt⟩:=zhl hd
   have hdx:=hn x (by simp)
   have hy:F.kids[k]?=some F.kids[k]:=List.getElem?_eq_getElem (by omega)
   have hdr:F.kids.drop k=F.kids[k]::F.kids.drop (k+1):=List.drop_eq_getElem_cons (by omega)
   rw [Form.ws] at ha
   refine Tr.step (fun m=>by rw [zdf,ltN hlt,cond_true,zB hx,Option.bind_some,zB hy,Option.bind_some]) ?_
   refine Tr.bind (match1_tr hS (List.mem_of_getElem? hx) hdx (List.mem_of_getElem? hy) (by omega)) ?_
   rw [hdr,mts_one hdx (nextD_no (fun z hz=>hn z (by simp [hz])))]
   cases hm:x.mt bs lits F.kids[k] with
   | none=>rw [oR_none];exact Tr.tt rfl Tr.val
   | some h =>
     rw [oR_some]
     have hw:=mt_length hS (List.mem_of_getElem? hx) hdx hm
     refine Tr.ff rfl (Tr.eq (fun m=>by rw [za6];rfl) (match_l2_tr hS hl xs (k+1) (acc++h) hd2 hlt (fun z hz=>hn z (by simp [hz])) (by rw [List.length_append];omega)))
structure RowS (P F:Form) (xs:List Form) (pr dd:Form) (tail:List Form):Prop where
 eq:P.kids=xs++pr::dd::tail
 pre:∀ x∈xs,zE x=false
 row:zE pr=false
 dots:zE dd=true
 post:∀ x∈tail,zE x=false
 len:xs.length+tail.length≤F.kids.length
def RowS.many (F:Form) (xs tail:List Form):Nat:=F.kids.length-(xs.length+tail.length)
variable {xs tail:List Form} {pr dd:Form}
theorem RowS.plen (hR:RowS P F xs pr dd tail):P.kids.length=xs.length+2+tail.length:=by rw [hR.eq];simp;omega
theorem RowS.lens (hS:MatS bs lits P F) (hR:RowS P F xs pr dd tail):P.kids.length≤2 ^ 17∧F.kids.length≤2 ^ 17:=⟨Nat.le_trans (Form.ws_len _) hS.wp,Nat.le_trans (Form.ws_len _) hS.wf⟩
theorem RowS.at_pr (hR:RowS P F xs pr dd tail):P.kids[xs.length]?=some pr:=by rw [hR.eq];simp
theorem RowS.many_eq (hS:MatS bs lits P F) (hR:RowS P F xs pr dd tail):w64 ((F.kids.length:Int)-(w64 ((P.kids.length:Int)-2)))=((RowS.many F xs tail:Nat):Int):=by
 have h1:=RowS.lens hS hR
 have h2:=hR.plen
 have h3:=hR.len
 rw [zau (n:=(P.kids.length:Int)-2) (by omega),zau (by omega)]
 unfold RowS.many;omega
theorem RowS.row_eq (hS:MatS bs lits P F) (hR:RowS P F xs pr dd tail):w64 ((((xs.length+1:Nat):Int))-1)=((xs.length:Nat):Int):=by
 have h1:=RowS.lens hS hR
 have h2:=hR.plen
 rw [zau (by omega)];omega
theorem match_l10_tr (hS:MatS bs lits P F) (hR:RowS P F xs pr dd tail):∀ (rest:List Form) (j:Nat) (acc:List Hit),tail.drop j=rest→j≤tail.length→acc.length+Form.ws rest≤2 ^ 20 →
  Tr (fun m=>zcM m bs P lits F ((xs.length+1:Nat):Int) ((xs.length+2+j:Nat):Int) acc) (oR (oacc acc (Form.mts bs lits rest (F.kids.drop (xs.length+RowS.many F xs tail+j)))))
 | [],j,acc,hd,hj,ha=>by
   have:j=tail.length:=by have:=congrArg List.length hd;rw [List.length_drop] at this;simp at this;omega
   subst this
   have h2:=hR.plen
   have h3:=hR.len
   have e:xs.length+RowS.many F xs tail+tail.length=F.kids.length:=by unfold RowS.many;omega
   rw [e,List.drop_length,mts_nil,oR_nil]
   exact Tr.step (fun m=>by rw [zcM,← h2,zN,cond_false]) Tr.val
 | x::rest,j,acc,hd,hj,ha=>by
   obtain ⟨hx0,hd2,hlt⟩:=zhl hd
   have h1:=RowS.lens hS hR
   have h2:=hR.plen
   have h3:=hR.len
   have hm:=RowS.many_eq hS hR
   have hr:=RowS.row_eq hS hR
   have hx:P.kids[xs.length+2+j]?=some x:=by
    rw [hR.eq,List.getElem?_append_right (by omega)]
    rw [show xs.length+2+j-xs.length=j+1+1 by omega,List.getElem?_cons_succ,List.getElem?_cons_succ];exact hx0
   have hdx:=hR.post x (List.mem_of_getElem? hx0)
   have e:xs.length+RowS.many F xs tail+tail.length=F.kids.length:=by unfold RowS.many;omega
   generalize hM:RowS.many F xs tail=M at *
   have hq:xs.length+M+j < F.kids.length:=by omega
   have hy:F.kids[xs.length+M+j]?=some F.kids[xs.length+M+j]:=List.getElem?_eq_getElem hq
   have hdr:F.kids.drop (xs.length+M+j)=F.kids[xs.length+M+j]::F.kids.drop (xs.length+M+j+1):=List.drop_eq_getElem_cons hq
   have hidx:w64 ((w64 ((w64 ((w64 ((w64 (((xs.length+1:Nat):Int)-1))+(w64 ((F.kids.length:Int)-(w64 ((P.kids.length:Int)-2))))))+((xs.length+2+j:Nat):Int)))-((xs.length+1:Nat):Int)))-1)=((xs.length+M+j:Nat):Int):=by
    rw [hm,hr,zau (n:=((xs.length:Nat):Int)+(M:Int)) (by omega),zau (n:=((xs.length:Nat):Int)+(M:Int)+((xs.length+2+j:Nat):Int)) (by omega),zau (n:=((xs.length:Nat):Int)+(M:Int)+((xs.length+2+j:Nat):Int)-((xs.length+1:Nat):Int)) (by omega),zau (by omega)]
    omega
   rw [Form.ws] at ha
   refine Tr.step (fun m=>by rw [zcM,ltN (show xs.length+2+j < P.kids.length by omega),cond_true,zB hx,Option.bind_some,hidx,zB hy,Option.bind_some]) ?_
   refine Tr.bind (match1_tr hS (List.mem_of_getElem? hx) hdx (List.mem_of_getElem? hy) (by omega)) ?_
   have hnd:zbU rest=false:=nextD_no (fun z hz=>hR.post z (by rw [← hd2] at hz;exact List.mem_of_mem_drop hz))
   rw [hdr,mts_one hdx hnd]
   cases hmt:x.mt bs lits F.kids[xs.length+M+j] with
   | none=>rw [oR_none];exact Tr.tt rfl Tr.val
   | some h =>
     rw [oR_some]
     have hw:=mt_length hS (List.mem_of_getElem? hx) hdx hmt
     have:=match_l10_tr hS hR rest (j+1) (acc++h) hd2 hlt (by rw [List.length_append];omega)
     rw [hM] at this
     exact Tr.ff rfl (Tr.eq (fun m=>by rw [za6];rfl) this)
end
end Go.Abs
end
section
set_option linter.unusedVariables false
set_option linter.unusedSimpArgs false
namespace Go.Abs
section
variable {bs:List Bind} {lits:List Form} {P F:Form} {xs tail:List Form} {pr dd:Form}
theorem cntD_all:∀ {l:List Form},(∀ x∈l,zE x=false)→cntD l=0
 | [],_=>rfl
 | y::ys,h=>by rw [cntD,h y (by simp),cond_false,cntD_all (fun x hx=>h x (by simp [hx]))]
theorem cntD_app:∀ (a b:List Form),cntD (a++b)=cntD a+cntD b
 | [],b=>by simp [cntD]
 | x::a,b=>by rw [List.cons_append,cntD,cntD,cntD_app a b];omega
theorem set_end {α:Type} (l:List α) (z v:α):(l++[z]).set (l.length:Int).toNat v=l++[v]:=by
 rw [Int.toNat_natCast,List.set_append_right _ _ (Nat.le_refl _),Nat.sub_self];rfl
theorem idx_last {α:Type} (l:List α) (z:α):idx (l++[z]) (l.length:Int)=some z:=zB (by simp)
theorem match_l9_tr (v11:Int) (g34:List Hit) (v49:List Form) (g50:Int) (vs:List (Form × Int)) (rows:List (List Hit)) (inner:List Hit) (b:Bool) (hi:inner.length=vs.length) (hr:rows.length≤2 ^ 20) (hv:vs.length≤2 ^ 20) {v:List Hit × Bool}
  (hK:Tr (fun m=>zb6 m bs P lits F v11 g34 v49 (w64 (g50+1)) (rowH 0 vs (rows++[inner]))) v) (g51:List Hit) (hg:g51.length=vs.length) :
  Tr (fun m=>zct m bs P lits F v11 g34 v49 g50 g51 (inner,b) 0 (rowH 0 vs rows)) v:=by
 have key:=z8 vs (fun k zs=>Tr (fun m=>zct m bs P lits F v11 g34 v49 g50 g51 (inner,b) (k:Int) ((rowH 0 vs (rows++[inner])).take k++(rowH 0 vs rows).drop k)) v) ?_ ?_ 0 (Nat.zero_le _)
 ·simpa using key
 ·have e1:(rowH 0 vs (rows++[inner])).take vs.length=rowH 0 vs (rows++[inner]):=List.take_of_length_le (by rw [zgF];exact Nat.le_refl _)
  have e2:(rowH 0 vs rows).drop vs.length=[]:=List.drop_of_length_le (by rw [zgF];exact Nat.le_refl _)
  rw [e1,e2,List.append_nil]
  exact Tr.step (fun m=>by rw [zct,hg,zN,cond_false]) hK
 ·intro k x zs hk hx hd ih
  have hl1:(rowH 0 vs (rows++[inner])).length=vs.length:=zgF _ _ _
  have hl2:(rowH 0 vs rows).length=vs.length:=zgF _ _ _
  have ht:((rowH 0 vs (rows++[inner])).take k).length=k:=by rw [List.length_take,hl1];omega
  have g1:=rowH_get (k:=0) (rows:=rows) hx
  have g2:=rowH_get (k:=0) (rows:=rows++[inner]) hx
  rw [Nat.zero_add] at g1 g2
  have hget:((rowH 0 vs (rows++[inner])).take k++(rowH 0 vs rows).drop k)[k]?=some (Hit.mk x.1 (x.2+1) zci (rows.map fun r=>r.getD k hit0)):=by
   rw [List.getElem?_append_right (by omega),ht,Nat.sub_self,List.getElem?_drop,Nat.add_zero];exact g1
  have hin:inner[k]?=some (inner.getD k hit0):=by
   have:k < inner.length:=by omega
   rw [List.getD_eq_getElem?_getD,List.getElem?_eq_getElem this];rfl
  have hset:((rowH 0 vs (rows++[inner])).take k++(rowH 0 vs rows).drop k).set (k:Int).toNat (Hit.mk x.1 (x.2+1) zci ((rows.map fun r=>r.getD k hit0)++[inner.getD k hit0]))=(rowH 0 vs (rows++[inner])).take (k+1)++(rowH 0 vs rows).drop (k+1):=by
   have h3:(rowH 0 vs rows).drop k=Hit.mk x.1 (x.2+1) zci (rows.map fun r=>r.getD k hit0)::(rowH 0 vs rows).drop (k+1):=drop_get g1
   rw [Int.toNat_natCast,List.set_append_right _ _ (by omega),ht,Nat.sub_self,h3,List.set_cons_zero,List.take_add_one,g2,List.append_assoc]
   simp
  refine Tr.step (fun m=>by rw [zct,hg,ltN hk,cond_true,zB hget,Option.bind_some,zB hin,Option.bind_some]) ?_
  refine Tr.chk (decide_eq_true (by simp [Hit.many];omega)) ?_
  refine Tr.eq (fun m=>by rw [idx_last,Option.bind_some,Option.bind_some,zau (by omega),za6,set_end]) ?_
  simp only [Hit.name,Hit.depth,Hit.one,Hit.many]
  rw [hset];exact ih
theorem match_l8_tr (hS:MatS bs lits P F) (hR:RowS P F xs pr dd tail) (g34:List Hit) (v49:List Form) (hv:∀ f∈v49,f∈F.kids) (hvl:v49.length≤F.kids.length) (J:List Hit→List Hit × Bool)
  (hJ:∀ rows,rows.length=v49.length→(∀ r∈rows,r.length=(pr.vd lits 0).length)→Tr (fun m=>zdV m bs P lits F ((xs.length+1:Nat):Int) g34 (rowH 0 (pr.vd lits 0) rows)) (J (rowH 0 (pr.vd lits 0) rows))) :
  Tr (fun m=>zb6 m bs P lits F ((xs.length+1:Nat):Int) g34 v49 0 (rowH 0 (pr.vd lits 0) [])) (match allM (fun f=>pr.mt bs lits f) v49 with
   | none=>([],false)
   | some rows=>J (rowH 0 (pr.vd lits 0) rows)):=by
 have h1:=RowS.lens hS hR
 have h2:=hR.plen
 have hpm:=List.mem_of_getElem? hR.at_pr
 have hpp:PatS pr:=(hS.kid pr hpm).pat hR.row
 have hpw:=Form.ws_mem hpm
 have hwp:=hS.wp
 have hvd:=Form.vd_len lits pr 0
 have key:=z8 v49 (fun k zs=>∀ rows:List (List Hit),rows.length=k→(∀ r∈rows,r.length=(pr.vd lits 0).length)→Tr (fun m=>zb6 m bs P lits F ((xs.length+1:Nat):Int) g34 v49 (k:Int) (rowH 0 (pr.vd lits 0) rows)) (match allM (fun f=>pr.mt bs lits f) zs with
   | none=>([],false)
   | some ys=>J (rowH 0 (pr.vd lits 0) (rows++ys)))) ?_ ?_ 0 (Nat.zero_le _) [] rfl (fun r hr=>by cases hr)
 ·simpa using key
 ·intro rows hr hl
  rw [allM]
  simp only [List.append_nil]
  exact Tr.step (fun m=>by rw [zb6,zN,cond_false]) (hJ rows hr hl)
 ·intro k x zs hk hx hd ih rows hr hl
  refine Tr.step (fun m=>by rw [zb6,ltN hk,cond_true,zB hx,Option.bind_some,RowS.row_eq hS hR,zB hR.at_pr,Option.bind_some]) ?_
  refine Tr.bind (hS.ih pr hpm hR.row x (hv x (List.mem_of_getElem? hx))) ?_
  rw [allM]
  cases hm:pr.mt bs lits x with
  | none=>exact Tr.tt rfl Tr.val
  | some h =>
    have hlen:=mt_len hpp hm
    refine Tr.ff rfl ?_
    refine Tr.eq (fun m=>rfl) (match_l9_tr (bs:=bs) (lits:=lits) (P:=P) (F:=F) ((xs.length+1:Nat):Int) g34 v49 (k:Int) (pr.vd lits 0) rows h true hlen (by omega) (by omega) ?_ _ (zgF _ _ _))
    refine Tr.eq (fun m=>by rw [zau (by omega),za6]) ?_
    have:=ih (rows++[h]) (by simp [hr]) (fun r hr'=>by
     rcases List.mem_append.1 hr' with hr' | hr'
     ·exact hl r hr'
     ·rw [List.mem_singleton.1 hr'];exact hlen)
    cases ha:allM (fun f=>pr.mt bs lits f) zs with
    | none=>rw [ha] at this;exact this
    | some ys =>
      rw [ha] at this
      simp only [List.append_assoc,List.singleton_append] at this
      exact this
theorem match_l6_tr (v11:Int) (g34:List Hit) (vs:List (Form × Int)) (hw:∀ v∈vs,v.1.w≤2 ^ 30) (h0:∀ v∈vs,0≤v.2∧v.2≤2 ^ 30) (hl:vs.length≤2 ^ 20) {r:List Hit × Bool}
  (hK:Tr (fun m=>zeE m bs P lits F v11 g34 (rowH 0 vs [])) r):Tr (fun m=>zcu m bs P lits F v11 g34 (vs.map (·.1),vs.map (·.2)) ([]:List Hit) 0) r:=by
 have key:=z8 vs (fun k zs=>∀ g:List Hit,g.length=k→g++rowH k zs []=rowH 0 vs []→Tr (fun m=>zcu m bs P lits F v11 g34 (vs.map (·.1),vs.map (·.2)) g (k:Int)) r) ?_ ?_ 0 (Nat.zero_le _) [] rfl (by rw [List.nil_append,List.drop_zero])
 ·exact key
 ·intro g hg he
  rw [rowH,List.append_nil] at he
  rw [he]
  exact Tr.step (fun m=>by rw [zcu,List.length_map,zN,cond_false]) hK
 ·intro k v zs hk hx hd ih g hg he
  have hx1:(vs.map (·.1))[k]?=some v.1:=by rw [List.getElem?_map,hx];rfl
  have hx2:(vs.map (·.2))[k]?=some v.2:=by rw [List.getElem?_map,hx];rfl
  have hm:=List.mem_of_getElem? hx
  have hvw:=hw v hm
  have V0:=h0 v hm
  refine Tr.step (fun m=>by rw [zcu,List.length_map,ltN hk,cond_true,zB hx1,Option.bind_some]) (Tr.bind (zhm v.1 (by omega)) ?_)
  refine Tr.eq (fun m=>by rw [zB hx2,Option.bind_some,zau (n:=v.2+1) (by omega),za6]) (Tr.chk (decide_eq_true (by simp;omega)) ?_)
  refine ih (g++[Hit.mk v.1 (v.2+1) zci []]) (by simp [hg]) ?_
  rw [rowH] at he
  rw [List.append_assoc];exact he
theorem mts_row (hS:MatS bs lits P F) (hR:RowS P F xs pr dd tail):Form.mts bs lits (pr::dd::tail) (F.kids.drop xs.length)=match allM (fun f=>pr.mt bs lits f) ((F.kids.drop xs.length).take (RowS.many F xs tail)) with
  | none=>none
  | some rows=>oapp (some (rowH 0 (pr.vd lits 0) rows)) (Form.mts bs lits tail (F.kids.drop (xs.length+RowS.many F xs tail))):=by
 have h3:=hR.len
 have hl:(F.kids.drop xs.length).length=F.kids.length-xs.length:=List.length_drop
 have hN:(F.kids.drop xs.length).length+1-(dd::tail).length=RowS.many F xs tail:=by rw [hl,List.length_cons];unfold RowS.many;omega
 rw [Form.mts_eq,hR.row,cond_false,show zbU (dd::tail)=zE dd from rfl,hR.dots,cond_true,decide_eq_false (by rw [hl,List.length_cons];omega),cond_false,hN]
 cases allM (fun f=>pr.mt bs lits f) ((F.kids.drop xs.length).take (RowS.many F xs tail)) with
 | none=>rfl
 | some rows=>simp only;rw [Form.mts_eq bs lits dd,hR.dots,cond_true,List.drop_drop]
theorem match_j3_tr (hS:MatS bs lits P F) (hR:RowS P F xs pr dd tail) (acc:List Hit) (ha:acc.length≤2 ^ 18):Tr (fun m=>zeF m bs P lits F ((xs.length+1:Nat):Int) acc) (oR (oacc acc (Form.mts bs lits (pr::dd::tail) (F.kids.drop xs.length)))):=by
 have h1:=RowS.lens hS hR
 have h2:=hR.plen
 have h3:=hR.len
 have hpm:=List.mem_of_getElem? hR.at_pr
 have hpp:PatS pr:=(hS.kid pr hpm).pat hR.row
 have hpw:=Form.ws_mem hpm
 have hwp:=hS.wp
 have hvd:=Form.vd_len lits pr 0
 have hhi:=Form.vd_hi lits pr 0
 have hnn:=Form.vd_nn lits pr 0
 refine Tr.step (fun m=>by rw [zeF,RowS.row_eq hS hR,zB hR.at_pr,Option.bind_some]) (Tr.bind (varsOf_tr pr lits (by omega)) ?_)
 have hvw:∀ v∈pr.vd lits 0,v.1.w≤2 ^ 30:=fun v hv=>by
  have hm:v.1∈pr.vs lits:=by rw [← Form.vd_fst lits pr 0];exact List.mem_map.2 ⟨v,hv,rfl⟩
  have:=Form.vs_w lits pr v.1 hm;omega
 refine match_l6_tr (bs:=bs) (lits:=lits) (P:=P) (F:=F) _ acc (pr.vd lits 0) hvw (fun v hv=>⟨hnn v hv,by have:=hhi v hv;omega⟩) (by omega) ?_
 have hsub:sub F.kids ((xs.length:Nat):Int) ((xs.length+RowS.many F xs tail:Nat):Int)=some ((F.kids.drop xs.length).take (RowS.many F xs tail)):=by
  have hle:xs.length+RowS.many F xs tail≤F.kids.length:=by unfold RowS.many;omega
  unfold sub
  rw [decide_eq_true (by omega),decide_eq_true (by omega),decide_eq_true (by omega)]
  simp only [Bool.and_self,cond_true,Int.toNat_natCast,Option.some.injEq]
  rw [List.take_drop]
 have hbnd:RowS.many F xs tail≤F.kids.length:=by unfold RowS.many;omega
 refine Tr.step (fun m=>by rw [zeE,RowS.row_eq hS hR,RowS.many_eq hS hR,zau (n:=((xs.length:Nat):Int)+((RowS.many F xs tail:Nat):Int)) (by omega),show ((xs.length:Nat):Int)+((RowS.many F xs tail:Nat):Int)=((xs.length+RowS.many F xs tail:Nat):Int) by simp,hsub,Option.bind_some]) ?_
 have hj7:∀ rows:List (List Hit),Tr (fun m=>zdV m bs P lits F ((xs.length+1:Nat):Int) acc (rowH 0 (pr.vd lits 0) rows)) (oR (oacc (acc++rowH 0 (pr.vd lits 0) rows) (Form.mts bs lits tail (F.kids.drop (xs.length+RowS.many F xs tail))))):=fun rows=>by
  have hrl:=zgF (pr.vd lits 0) 0 rows
  refine Tr.step (fun m=>by rw [zdV]) (Tr.chk (decide_eq_true (by omega)) ?_)
  have htw:Form.ws tail≤Form.ws P.kids:=by
   rw [hR.eq,Form.ws_append,Form.ws,Form.ws];omega
  have:=match_l10_tr hS hR tail 0 (acc++rowH 0 (pr.vd lits 0) rows) (by rw [List.drop_zero]) (Nat.zero_le _) (by rw [List.length_append,hrl];omega)
  refine Tr.eq (fun m=>by rw [zau (by omega),za6]) ?_
  exact this
 have h8:=match_l8_tr hS hR acc ((F.kids.drop xs.length).take (RowS.many F xs tail)) (fun f hf=>List.mem_of_mem_drop (List.mem_of_mem_take hf)) (by rw [List.length_take,List.length_drop];omega)
  (fun hits=>oR (oacc (acc++hits) (Form.mts bs lits tail (F.kids.drop (xs.length+RowS.many F xs tail))))) (fun rows _ _=>hj7 rows)
 rw [mts_row hS hR]
 cases ha:allM (fun f=>pr.mt bs lits f) ((F.kids.drop xs.length).take (RowS.many F xs tail)) with
 | none=>rw [ha] at h8;exact h8
 | some rows=>rw [ha] at h8;simp only;rw [oR_some];exact h8
theorem match_l4_tr (hS:MatS bs lits P F) (hR:RowS P F xs pr dd tail):∀ (rest:List Form) (k:Nat) (acc:List Hit),xs.drop k=rest→k≤xs.length→acc.length+Form.ws rest≤2 ^ 18 →
  Tr (fun m=>zde m bs P lits F ((xs.length+1:Nat):Int) (k:Int) acc) (oR (oacc acc (Form.mts bs lits (rest++pr::dd::tail) (F.kids.drop k))))
 | [],k,acc,hd,hk,ha=>by
   have:k=xs.length:=by have:=congrArg List.length hd;rw [List.length_drop] at this;simp at this;omega
   subst this
   rw [List.nil_append]
   exact Tr.step (fun m=>by rw [zde,RowS.row_eq hS hR,zN,cond_false]) (match_j3_tr hS hR acc (by omega))
 | x::rest,k,acc,hd,hk,ha=>by
   obtain ⟨hx0,hd2,hlt⟩:=zhl hd
   have h1:=RowS.lens hS hR
   have h2:=hR.plen
   have h3:=hR.len
   have hx:P.kids[k]?=some x:=by rw [hR.eq,List.getElem?_append_left hlt];exact hx0
   have hdx:=hR.pre x (List.mem_of_getElem? hx0)
   have hy:F.kids[k]?=some F.kids[k]:=List.getElem?_eq_getElem (by omega)
   have hdr:F.kids.drop k=F.kids[k]::F.kids.drop (k+1):=List.drop_eq_getElem_cons (by omega)
   have hnd:zbU (rest++pr::dd::tail)=false:=by
    cases rest with
    | nil=>exact hR.row
    | cons z zs=>exact hR.pre z (by have:z∈xs.drop (k+1):=by rw [hd2];simp
                                    exact List.mem_of_mem_drop this)
   rw [Form.ws] at ha
   refine Tr.step (fun m=>by rw [zde,RowS.row_eq hS hR,ltN hlt,cond_true,zB hx,Option.bind_some,zB hy,Option.bind_some]) ?_
   refine Tr.bind (match1_tr hS (List.mem_of_getElem? hx) hdx (List.mem_of_getElem? hy) (by omega)) ?_
   rw [hdr,List.cons_append,mts_one hdx hnd]
   cases hm:x.mt bs lits F.kids[k] with
   | none=>rw [oR_none];exact Tr.tt rfl Tr.val
   | some h =>
     rw [oR_some]
     have hw:=mt_length hS (List.mem_of_getElem? hx) hdx hm
     exact Tr.ff rfl (Tr.eq (fun m=>by rw [zau (by omega),za6];rfl) (match_l4_tr hS hR rest (k+1) (acc++h) hd2 hlt (by rw [List.length_append];omega)))
end
theorem implMatch_n (bs:List Bind) (lits:List Form) (hbs:bs.length≤2 ^ 36) (hbf:∀ b∈bs,b.fit) (hbv:bvOk bs=true):∀ (n:Nat) (p:Form),p.w≤n→PatS p→p.fit→p.w≤2 ^ 17→∀ f:Form,f.valid=true→f.fit→f.w≤2 ^ 17 →
  Tr (fun m=>zcN m bs p lits f) (oR (p.mt bs lits f)):=by
 intro n
 induction n with
 | zero=>intro p h;have:=p.w_kids;omega
 | succ n ih =>
   intro p hp hs hpf hpb f hfv hff hfb
   have hw:=p.w_kids
   have hfw:=f.w_kids
   obtain ⟨q1,q2,q3,q4,q5⟩:=hs.parts
   refine Tr.step (fun m=>by rw [zcN]) ?_
   rw [Form.mt_eq]
   by_cases h1:p.kind=1
   ·rw [decide_eq_true h1,cond_true]
    refine Tr.tt rfl ?_
    by_cases h2:p.name=zgJ
    ·rw [decide_eq_true h2,cond_true]
     exact Tr.tt rfl Tr.val
    ·rw [decide_eq_false h2,cond_false]
     refine Tr.ff rfl (Tr.bind (isIn_tr lits p) ?_)
     cases inF lits p with
     | true =>
       refine Tr.tt rfl (Tr.bind (sameRef_tr bs p f hbs hbf hpf hff) ?_)
       rw [cond_true,hbv,Bool.true_and]
       have hnp:isNm p=true:=by
        unfold isNm;rw [decide_eq_true h1,Bool.true_and]
        obtain ⟨d,hd⟩:=hs.ok
        exact (isOk_name hd h1).1
       have hnf:isNm f=decide (f.kind=1):=by unfold isNm;rw [hfv,Bool.and_true]
       rw [hnp,Bool.true_and,hnf]
       cases decide (f.kind=1)&&refS bs p f<;>exact Tr.val
     | false =>
       refine Tr.ff rfl (Tr.bind (zhm p (by omega)) (Tr.bind (zhm f (by omega)) ?_))
       rw [cond_false];exact Tr.val
   ·rw [decide_eq_false h1,cond_false]
    refine Tr.ff rfl ?_
    by_cases h2:p.kind=2
    ·rw [decide_eq_true h2,cond_true]
     refine Tr.tt rfl (Tr.bind (zbP p f) ?_)
     cases same p f<;>exact Tr.val
    ·rw [decide_eq_false h2,cond_false]
     refine Tr.ff rfl ?_
     by_cases h3:f.kind≠3
     ·rw [decide_eq_true h3,cond_true];exact Tr.tt rfl Tr.val
     ·rw [decide_eq_false h3,cond_false]
      refine Tr.ff rfl (Tr.bind (dotsAt_tr p.kids) ?_)
      have hl1:=Form.ws_len p.kids
      have hl2:=Form.ws_len f.kids
      have hS:MatS bs lits p f:=⟨q4,fun x hx hd g hg=>ih x (by have:=Form.ws_mem hx;omega) ((q4 x hx).pat hd) (Form.fits_mem hpf.parts.2.2.2 hx) (by have:=Form.ws_mem hx;omega) g (valid_kid hfv hg) (Form.fits_mem hff.parts.2.2.2 hg) (by have:=Form.ws_mem hg;omega),by omega,by omega⟩
      have hacc:∀ o:Option (List Hit),oacc [] o=o:=fun o=>by cases o<;>simp [oacc]
      rcases cntD_split q3 with hno | ⟨ys,dd,tail,he,e1,e2,e3⟩
      ·rw [fnd_no hno]
       refine Tr.tt rfl ?_
       by_cases hlen:p.kids.length=f.kids.length
       ·refine Tr.ff (lenE hlen) ?_
        have:=match_l2_tr hS hlen p.kids 0 [] (by rw [List.drop_zero]) (Nat.zero_le _) hno (by simp;omega)
        rw [hacc,List.drop_zero] at this
        exact this
       ·refine Tr.tt (decide_eq_true (by omega)) ?_
        have hmn:Form.mts bs lits p.kids f.kids=none:=by
         cases hm:Form.mts bs lits p.kids f.kids with
         | none=>rfl
         | some h =>
           exact absurd ((mts_len hm).1 (cntD_all hno)) hlen
        rw [hmn];exact Tr.val
      ·obtain ⟨zs,pr,hz⟩:∃ zs pr,ys=zs++[pr]:=by
        rcases List.eq_nil_or_concat ys with h0 | ⟨zs,pr,h0⟩
        ·subst h0
         rw [he,List.nil_append,Form.kP,e2] at q2
         simp at q2
        ·exact ⟨zs,pr,by simpa using h0⟩
       subst hz
       have hat:fnd zE p.kids 0=((zs.length+1:Nat):Int):=by
        rw [he,fnd_pre e1 e2];simp
       rw [hat]
       have hpk:p.kids=zs++pr::dd::tail:=by rw [he,List.append_assoc];rfl
       have hplen:p.kids.length=zs.length+2+tail.length:=by rw [hpk];simp;omega
       refine Tr.ff (decide_eq_false (by omega)) ?_
       by_cases hlen:zs.length+tail.length≤f.kids.length
       ·have hR:RowS p f zs pr dd tail:=⟨hpk,fun x hx=>e1 x (by simp [hx]),e1 pr (by simp),e2,e3,hlen⟩
        refine Tr.ff (decide_eq_false (by rw [RowS.many_eq hS hR];omega)) ?_
        have hzw:Form.ws zs≤Form.ws p.kids:=by rw [hpk,Form.ws_append];omega
        have:=match_l4_tr hS hR zs 0 [] (by rw [List.drop_zero]) (Nat.zero_le _) (by simp;omega)
        rw [hacc,List.drop_zero,← hpk] at this
        exact this
       ·refine Tr.tt (decide_eq_true (by rw [zau (n:=(p.kids.length:Int)-2) (by omega),zau (by omega)];omega)) ?_
        have hmn:Form.mts bs lits p.kids f.kids=none:=by
         cases hm:Form.mts bs lits p.kids f.kids with
         | none=>rfl
         | some h =>
           have hc:cntD p.kids=1:=by
            rw [he,cntD_app,cntD_all e1,cntD,e2,cntD_all e3];rfl
           have hnd:zbU p.kids=false:=by
            rw [hpk]
            cases zs with
            | nil=>exact e1 pr (by simp)
            | cons z zs=>exact e1 z (by simp)
           have:=(mts_len hm).2.2 hc hnd
           omega
        rw [hmn];exact Tr.val
end Go.Abs
end
section
set_option linter.unusedVariables false
set_option linter.unusedSimpArgs false
namespace Go.Abs
theorem implMatchPattern_tr (bs:List Bind) (p:Form) (lits:List Form) (f:Form) (hb:∀ b∈bs,b.fit) (hbl:bs.length≤2 ^ 36) (hp:p.fit) (hpw:p.w≤2 ^ 17) (hl:Form.fits lits) (hf:f.fit) (hfw:f.w≤2 ^ 17) :
  Tr (fun m=>zdY m bs p lits f) (matchP bs p lits f):=by
 refine Tr.eq (fun m=>by unfold zdY;rfl) (Tr.bind (zf6 bs (by omega) hb) ?_)
 unfold matchP
 have no:Tr (fun m=>zaJ m bs p lits f true) (([]:List Hit),false):=Tr.step (fun m=>by rw [zaJ];rfl) Tr.val
 cases hbv:bvOk bs with
 | false=>exact Tr.tt rfl no
 | true =>
 refine Tr.ff rfl (Tr.bind (zic p lits hp (by omega) hl) ?_)
 cases hpo:ziA p lits with
 | false=>exact Tr.tt rfl no
 | true =>
 refine Tr.ff rfl (Tr.bind (zcP f hf) ?_)
 cases hfv:f.valid with
 | false=>exact no
 | true =>
 refine Tr.step (fun m=>by rw [zaJ,Bool.not_true,cond_false]) ?_
 rw [Bool.true_and,Bool.true_and,cond_true]
 refine Tr.bind (implMatch_n bs lits hbl hb hbv _ p (Nat.le_refl _) (ziz hpo) hp hpw f hfv hf hfw) ?_
 cases hm:p.mt bs lits f with
 | none=>exact Tr.tt rfl Tr.val
 | some h=>exact Tr.ff rfl Tr.val
theorem FormSize_n:∀ (n:Nat) (f:Form),f.w≤n→f.w≤2 ^ 40→Tr (fun m=>zdi m f) (f.cnt:Int)∧f.cnt≤f.w:=by
 intro n
 induction n with
 | zero=>intro f h;have:=f.w_kids;omega
 | succ n ih =>
   intro f hn hb
   have hw:=f.w_kids
   have hc:f.cnt=1+Form.cnts f.kids:=by obtain ⟨a,b,c,d,e⟩:=f;rw [Form.cnt];rfl
   have hle:Form.cnts f.kids≤Form.ws f.kids:=by
    have:∀ l:List Form,(∀ x∈l,x∈f.kids)→Form.cnts l≤Form.ws l:=by
     intro l
     induction l with
     | nil=>intro _;rw [Form.cnts];omega
     | cons x l ihl =>
       intro hx
       have h1:=ihl (fun y hy=>hx y (by simp [hy]))
       have h2:=Form.ws_mem (hx x (by simp))
       have h3:=(ih x (by omega) (by omega)).2
       rw [Form.cnts,Form.ws];omega
    exact this _ (fun x hx=>hx)
   refine ⟨?_,by omega⟩
   rw [hc]
   refine Tr.step (fun m=>by rw [zdi]) ?_
   have key:=z8 f.kids (fun k zs=>∀ g:Nat,g+Form.cnts zs=1+Form.cnts f.kids→Tr (fun m=>zb3 m f (g:Int) (k:Int)) ((1+Form.cnts f.kids:Nat):Int)) ?_ ?_ 0 (Nat.zero_le _) 1 (by rw [List.drop_zero])
   ·exact key
   ·intro g hg
    rw [Form.cnts,Nat.add_zero] at hg
    rw [← hg]
    exact Tr.step (fun m=>by rw [zb3,zN,cond_false]) Tr.val
   ·intro k x zs hk hx hd ihk g hg
    have hm:=List.mem_of_getElem? hx
    have h2:=Form.ws_mem hm
    have h3:=ih x (by omega) (by omega)
    rw [Form.cnts] at hg
    refine Tr.step (fun m=>by rw [zb3,ltN hk,cond_true,zB hx,Option.bind_some]) (Tr.bind h3.1 ?_)
    refine Tr.eq (fun m=>by rw [zau (by omega),za6,show (g:Int)+(x.cnt:Int)=((g+x.cnt:Nat):Int) by simp]) (ihk (g+x.cnt) (by omega))
theorem FormSize_tr (f:Form) (h:f.w≤2 ^ 40):Tr (fun m=>zdi m f) (f.cnt:Int):=(FormSize_n _ f (Nat.le_refl _) h).1
end Go.Abs
end
section
set_option linter.unusedVariables false
set_option linter.unusedSimpArgs false
namespace Go.Abs
theorem PatS.kind {p:Form} (h:PatS p) (h1:¬ p.kind=1) (h2:¬ p.kind=2):p.kind=3:=by
 obtain ⟨d,hd⟩:=h.ok
 rw [Form.isOk_eq] at hd
 cases hd0:decide (d=0) with
 | true=>rw [hd0] at hd;cases hd
 | false =>
   rw [hd0,cond_false,decide_eq_false h1,cond_false,decide_eq_false h2,cond_false,Bool.and_eq_true,decide_eq_true_eq] at hd
   exact hd.1
theorem cnt_eq (f:Form):f.cnt=1+Form.cnts f.kids:=by obtain ⟨a,b,c,d,e⟩:=f;rw [Form.cnt];rfl
end Go.Abs
end
