/- A part of the proof: what the functions that the law calls answer, as pure values. -/
import Derived.KernelRfl
import Derived.Test.YtcllpfmjggkpnaaGreatKcd1b73107f87
import Derived.Test.YtcllpfmjggkpnaaGreatK901cfc26645b
import Derived.Test.YtcllpfmjggkpnaaGreatKeb4b50ffd121
import Derived.Test.YtcllpfmjggkpnaaGreatKa8136476e481
import Derived.Test.YtcllpfmjggkpnaaGreatK9007fc86218d
set_option linter.unusedSimpArgs false
set_option linter.unusedVariables false
section
set_option linter.unusedVariables false
set_option maxRecDepth 100000
namespace Go.Abs
def t5F0:Form:=(Form.mk 3 (⟨#[]⟩:ByteArray) 0 ([]:List Int) [(Form.mk 1 (⟨#[114,117,108,101,115]⟩:ByteArray) 0 ([]:List Int) ([]:List Form)),(Form.mk 3 (⟨#[]⟩:ByteArray) 0 ([]:List Int) ([]:List Form)),(Form.mk 3 (⟨#[]⟩:ByteArray) 0 ([]:List Int) [(Form.mk 3 (⟨#[]⟩:ByteArray) 0 ([]:List Int) [(Form.mk 1 (⟨#[95]⟩:ByteArray) 0 ([]:List Int) ([]:List Form)),(Form.mk 1 (⟨#[97]⟩:ByteArray) 0 ([]:List Int) ([]:List Form)),(Form.mk 1 (⟨#[98]⟩:ByteArray) 0 ([]:List Int) ([]:List Form))]),(Form.mk 3 (⟨#[]⟩:ByteArray) 0 ([]:List Int) [(Form.mk 1 (⟨#[108,101,116]⟩:ByteArray) 0 ([]:List Int) ([]:List Form)),(Form.mk 3 (⟨#[]⟩:ByteArray) 0 ([]:List Int) [(Form.mk 3 (⟨#[]⟩:ByteArray) 0 ([]:List Int) [(Form.mk 1 (⟨#[116,109,112]⟩:ByteArray) 0 ([]:List Int) ([]:List Form)),(Form.mk 1 (⟨#[97]⟩:ByteArray) 0 ([]:List Int) ([]:List Form))])]),(Form.mk 3 (⟨#[]⟩:ByteArray) 0 ([]:List Int) [(Form.mk 1 (⟨#[108,105,115,116]⟩:ByteArray) 0 ([]:List Int) ([]:List Form)),(Form.mk 1 (⟨#[98]⟩:ByteArray) 0 ([]:List Int) ([]:List Form)),(Form.mk 1 (⟨#[116,109,112]⟩:ByteArray) 0 ([]:List Int) ([]:List Form))])])])])
theorem t5P0:zdy (⟨#[40,114,117,108,101,115,32,40,41,32,40,40,95,32,97,32,98,41,32,40,108,101,116,32,40,40,116,109,112,32,97,41,41,32,40,108,105,115,116,32,98,32,116,109,112,41,41,41,41]⟩:ByteArray) t5F0:=⟨Tr.add 100 (fun m=>by kernel_rfl),of_decide_eq_true (by kernel_rfl),Form.fitB_fit (by kernel_rfl)⟩
def t5F1:Form:=(Form.mk 3 (⟨#[]⟩:ByteArray) 0 ([]:List Int) [(Form.mk 1 (⟨#[115,119,97,112]⟩:ByteArray) 0 ([]:List Int) ([]:List Form)),(Form.mk 1 (⟨#[120]⟩:ByteArray) 0 ([]:List Int) ([]:List Form)),(Form.mk 1 (⟨#[121]⟩:ByteArray) 0 ([]:List Int) ([]:List Form))])
theorem t5P1:zdy (⟨#[40,115,119,97,112,32,120,32,121,41]⟩:ByteArray) t5F1:=⟨Tr.add 100 (fun m=>by kernel_rfl),of_decide_eq_true (by kernel_rfl),Form.fitB_fit (by kernel_rfl)⟩
def t5F2:Form:=(Form.mk 3 (⟨#[]⟩:ByteArray) 0 ([]:List Int) [(Form.mk 1 (⟨#[114,117,108,101,115]⟩:ByteArray) 0 ([]:List Int) ([]:List Form)),(Form.mk 3 (⟨#[]⟩:ByteArray) 0 ([]:List Int) ([]:List Form)),(Form.mk 3 (⟨#[]⟩:ByteArray) 0 ([]:List Int) [(Form.mk 3 (⟨#[]⟩:ByteArray) 0 ([]:List Int) [(Form.mk 1 (⟨#[95]⟩:ByteArray) 0 ([]:List Int) ([]:List Form))]),(Form.mk 2 (⟨#[]⟩:ByteArray) 0 ([]:List Int) ([]:List Form))]),(Form.mk 3 (⟨#[]⟩:ByteArray) 0 ([]:List Int) [(Form.mk 3 (⟨#[]⟩:ByteArray) 0 ([]:List Int) [(Form.mk 1 (⟨#[95]⟩:ByteArray) 0 ([]:List Int) ([]:List Form)),(Form.mk 1 (⟨#[97]⟩:ByteArray) 0 ([]:List Int) ([]:List Form))]),(Form.mk 1 (⟨#[97]⟩:ByteArray) 0 ([]:List Int) ([]:List Form))]),(Form.mk 3 (⟨#[]⟩:ByteArray) 0 ([]:List Int) [(Form.mk 3 (⟨#[]⟩:ByteArray) 0 ([]:List Int) [(Form.mk 1 (⟨#[95]⟩:ByteArray) 0 ([]:List Int) ([]:List Form)),(Form.mk 1 (⟨#[97]⟩:ByteArray) 0 ([]:List Int) ([]:List Form)),(Form.mk 1 (⟨#[98]⟩:ByteArray) 0 ([]:List Int) ([]:List Form)),(Form.mk 1 (⟨#[46,46,46]⟩:ByteArray) 0 ([]:List Int) ([]:List Form))]),(Form.mk 3 (⟨#[]⟩:ByteArray) 0 ([]:List Int) [(Form.mk 1 (⟨#[105,102]⟩:ByteArray) 0 ([]:List Int) ([]:List Form)),(Form.mk 1 (⟨#[97]⟩:ByteArray) 0 ([]:List Int) ([]:List Form)),(Form.mk 2 (⟨#[]⟩:ByteArray) 1 ([]:List Int) ([]:List Form)),(Form.mk 3 (⟨#[]⟩:ByteArray) 0 ([]:List Int) [(Form.mk 1 (⟨#[111,114]⟩:ByteArray) 0 ([]:List Int) ([]:List Form)),(Form.mk 1 (⟨#[98]⟩:ByteArray) 0 ([]:List Int) ([]:List Form)),(Form.mk 1 (⟨#[46,46,46]⟩:ByteArray) 0 ([]:List Int) ([]:List Form))])])])])
theorem t5P2:zdy (⟨#[40,114,117,108,101,115,32,40,41,32,40,40,95,41,32,48,41,32,40,40,95,32,97,41,32,97,41,32,40,40,95,32,97,32,98,32,46,46,46,41,32,40,105,102,32,97,32,49,32,40,111,114,32,98,32,46,46,46,41,41,41,41]⟩:ByteArray) t5F2:=⟨Tr.add 100 (fun m=>by kernel_rfl),of_decide_eq_true (by kernel_rfl),Form.fitB_fit (by kernel_rfl)⟩
def t5F3:Form:=(Form.mk 3 (⟨#[]⟩:ByteArray) 0 ([]:List Int) [(Form.mk 1 (⟨#[111,114]⟩:ByteArray) 0 ([]:List Int) ([]:List Form)),(Form.mk 1 (⟨#[120]⟩:ByteArray) 0 ([]:List Int) ([]:List Form)),(Form.mk 1 (⟨#[121]⟩:ByteArray) 0 ([]:List Int) ([]:List Form)),(Form.mk 1 (⟨#[122]⟩:ByteArray) 0 ([]:List Int) ([]:List Form))])
theorem t5P3:zdy (⟨#[40,111,114,32,120,32,121,32,122,41]⟩:ByteArray) t5F3:=⟨Tr.add 100 (fun m=>by kernel_rfl),of_decide_eq_true (by kernel_rfl),Form.fitB_fit (by kernel_rfl)⟩
def t5F4:Form:=(Form.mk 3 (⟨#[]⟩:ByteArray) 0 ([]:List Int) [(Form.mk 1 (⟨#[114,117,108,101,115]⟩:ByteArray) 0 ([]:List Int) ([]:List Form)),(Form.mk 3 (⟨#[]⟩:ByteArray) 0 ([]:List Int) ([]:List Form)),(Form.mk 3 (⟨#[]⟩:ByteArray) 0 ([]:List Int) [(Form.mk 3 (⟨#[]⟩:ByteArray) 0 ([]:List Int) [(Form.mk 1 (⟨#[95]⟩:ByteArray) 0 ([]:List Int) ([]:List Form)),(Form.mk 3 (⟨#[]⟩:ByteArray) 0 ([]:List Int) [(Form.mk 3 (⟨#[]⟩:ByteArray) 0 ([]:List Int) [(Form.mk 1 (⟨#[120]⟩:ByteArray) 0 ([]:List Int) ([]:List Form)),(Form.mk 1 (⟨#[118]⟩:ByteArray) 0 ([]:List Int) ([]:List Form))]),(Form.mk 1 (⟨#[46,46,46]⟩:ByteArray) 0 ([]:List Int) ([]:List Form))]),(Form.mk 1 (⟨#[98,111,100,121]⟩:ByteArray) 0 ([]:List Int) ([]:List Form))]),(Form.mk 3 (⟨#[]⟩:ByteArray) 0 ([]:List Int) [(Form.mk 3 (⟨#[]⟩:ByteArray) 0 ([]:List Int) [(Form.mk 1 (⟨#[108,97,109,98,100,97]⟩:ByteArray) 0 ([]:List Int) ([]:List Form)),(Form.mk 3 (⟨#[]⟩:ByteArray) 0 ([]:List Int) [(Form.mk 1 (⟨#[120]⟩:ByteArray) 0 ([]:List Int) ([]:List Form)),(Form.mk 1 (⟨#[46,46,46]⟩:ByteArray) 0 ([]:List Int) ([]:List Form))]),(Form.mk 1 (⟨#[98,111,100,121]⟩:ByteArray) 0 ([]:List Int) ([]:List Form))]),(Form.mk 1 (⟨#[118]⟩:ByteArray) 0 ([]:List Int) ([]:List Form)),(Form.mk 1 (⟨#[46,46,46]⟩:ByteArray) 0 ([]:List Int) ([]:List Form))])])])
theorem t5P4:zdy (⟨#[40,114,117,108,101,115,32,40,41,32,40,40,95,32,40,40,120,32,118,41,32,46,46,46,41,32,98,111,100,121,41,32,40,40,108,97,109,98,100,97,32,40,120,32,46,46,46,41,32,98,111,100,121,41,32,118,32,46,46,46,41,41,41]⟩:ByteArray) t5F4:=⟨Tr.add 100 (fun m=>by kernel_rfl),of_decide_eq_true (by kernel_rfl),Form.fitB_fit (by kernel_rfl)⟩
def t5F5:Form:=(Form.mk 3 (⟨#[]⟩:ByteArray) 0 ([]:List Int) [(Form.mk 1 (⟨#[109,121,108,101,116]⟩:ByteArray) 0 ([]:List Int) ([]:List Form)),(Form.mk 3 (⟨#[]⟩:ByteArray) 0 ([]:List Int) [(Form.mk 3 (⟨#[]⟩:ByteArray) 0 ([]:List Int) [(Form.mk 1 (⟨#[112]⟩:ByteArray) 0 ([]:List Int) ([]:List Form)),(Form.mk 2 (⟨#[]⟩:ByteArray) 1 ([]:List Int) ([]:List Form))]),(Form.mk 3 (⟨#[]⟩:ByteArray) 0 ([]:List Int) [(Form.mk 1 (⟨#[113]⟩:ByteArray) 0 ([]:List Int) ([]:List Form)),(Form.mk 2 (⟨#[]⟩:ByteArray) 2 ([]:List Int) ([]:List Form))])]),(Form.mk 3 (⟨#[]⟩:ByteArray) 0 ([]:List Int) [(Form.mk 1 (⟨#[102]⟩:ByteArray) 0 ([]:List Int) ([]:List Form)),(Form.mk 1 (⟨#[112]⟩:ByteArray) 0 ([]:List Int) ([]:List Form)),(Form.mk 1 (⟨#[113]⟩:ByteArray) 0 ([]:List Int) ([]:List Form))])])
theorem t5P5:zdy (⟨#[40,109,121,108,101,116,32,40,40,112,32,49,41,32,40,113,32,50,41,41,32,40,102,32,112,32,113,41,41]⟩:ByteArray) t5F5:=⟨Tr.add 100 (fun m=>by kernel_rfl),of_decide_eq_true (by kernel_rfl),Form.fitB_fit (by kernel_rfl)⟩
def t5F6:Form:=(Form.mk 3 (⟨#[]⟩:ByteArray) 0 ([]:List Int) [(Form.mk 1 (⟨#[114,117,108,101,115]⟩:ByteArray) 0 ([]:List Int) ([]:List Form)),(Form.mk 3 (⟨#[]⟩:ByteArray) 0 ([]:List Int) [(Form.mk 1 (⟨#[101,108,115,101]⟩:ByteArray) 0 ([]:List Int) ([]:List Form))]),(Form.mk 3 (⟨#[]⟩:ByteArray) 0 ([]:List Int) [(Form.mk 3 (⟨#[]⟩:ByteArray) 0 ([]:List Int) [(Form.mk 1 (⟨#[95]⟩:ByteArray) 0 ([]:List Int) ([]:List Form)),(Form.mk 1 (⟨#[101,108,115,101]⟩:ByteArray) 0 ([]:List Int) ([]:List Form)),(Form.mk 1 (⟨#[101]⟩:ByteArray) 0 ([]:List Int) ([]:List Form))]),(Form.mk 1 (⟨#[101]⟩:ByteArray) 0 ([]:List Int) ([]:List Form))]),(Form.mk 3 (⟨#[]⟩:ByteArray) 0 ([]:List Int) [(Form.mk 3 (⟨#[]⟩:ByteArray) 0 ([]:List Int) [(Form.mk 1 (⟨#[95]⟩:ByteArray) 0 ([]:List Int) ([]:List Form)),(Form.mk 1 (⟨#[99]⟩:ByteArray) 0 ([]:List Int) ([]:List Form)),(Form.mk 1 (⟨#[101]⟩:ByteArray) 0 ([]:List Int) ([]:List Form)),(Form.mk 1 (⟨#[114]⟩:ByteArray) 0 ([]:List Int) ([]:List Form)),(Form.mk 1 (⟨#[46,46,46]⟩:ByteArray) 0 ([]:List Int) ([]:List Form))]),(Form.mk 3 (⟨#[]⟩:ByteArray) 0 ([]:List Int) [(Form.mk 1 (⟨#[105,102]⟩:ByteArray) 0 ([]:List Int) ([]:List Form)),(Form.mk 1 (⟨#[99]⟩:ByteArray) 0 ([]:List Int) ([]:List Form)),(Form.mk 1 (⟨#[101]⟩:ByteArray) 0 ([]:List Int) ([]:List Form)),(Form.mk 3 (⟨#[]⟩:ByteArray) 0 ([]:List Int) [(Form.mk 1 (⟨#[99,111,110,100]⟩:ByteArray) 0 ([]:List Int) ([]:List Form)),(Form.mk 1 (⟨#[114]⟩:ByteArray) 0 ([]:List Int) ([]:List Form)),(Form.mk 1 (⟨#[46,46,46]⟩:ByteArray) 0 ([]:List Int) ([]:List Form))])])])])
theorem t5P6:zdy (⟨#[40,114,117,108,101,115,32,40,101,108,115,101,41,32,40,40,95,32,101,108,115,101,32,101,41,32,101,41,32,40,40,95,32,99,32,101,32,114,32,46,46,46,41,32,40,105,102,32,99,32,101,32,40,99,111,110,100,32,114,32,46,46,46,41,41,41,41]⟩:ByteArray) t5F6:=⟨Tr.add 100 (fun m=>by kernel_rfl),of_decide_eq_true (by kernel_rfl),Form.fitB_fit (by kernel_rfl)⟩
def t5F7:Form:=(Form.mk 3 (⟨#[]⟩:ByteArray) 0 ([]:List Int) [(Form.mk 1 (⟨#[99,111,110,100]⟩:ByteArray) 0 ([]:List Int) ([]:List Form)),(Form.mk 1 (⟨#[112]⟩:ByteArray) 0 ([]:List Int) ([]:List Form)),(Form.mk 2 (⟨#[]⟩:ByteArray) 1 ([]:List Int) ([]:List Form)),(Form.mk 1 (⟨#[101,108,115,101]⟩:ByteArray) 0 ([]:List Int) ([]:List Form)),(Form.mk 2 (⟨#[]⟩:ByteArray) 2 ([]:List Int) ([]:List Form))])
theorem t5P7:zdy (⟨#[40,99,111,110,100,32,112,32,49,32,101,108,115,101,32,50,41]⟩:ByteArray) t5F7:=⟨Tr.add 100 (fun m=>by kernel_rfl),of_decide_eq_true (by kernel_rfl),Form.fitB_fit (by kernel_rfl)⟩
def t5F8:Form:=(Form.mk 3 (⟨#[]⟩:ByteArray) 0 ([]:List Int) [(Form.mk 1 (⟨#[114,117,108,101,115]⟩:ByteArray) 0 ([]:List Int) ([]:List Form)),(Form.mk 3 (⟨#[]⟩:ByteArray) 0 ([]:List Int) ([]:List Form)),(Form.mk 3 (⟨#[]⟩:ByteArray) 0 ([]:List Int) [(Form.mk 3 (⟨#[]⟩:ByteArray) 0 ([]:List Int) [(Form.mk 1 (⟨#[95]⟩:ByteArray) 0 ([]:List Int) ([]:List Form)),(Form.mk 3 (⟨#[]⟩:ByteArray) 0 ([]:List Int) [(Form.mk 1 (⟨#[97]⟩:ByteArray) 0 ([]:List Int) ([]:List Form)),(Form.mk 1 (⟨#[98]⟩:ByteArray) 0 ([]:List Int) ([]:List Form)),(Form.mk 1 (⟨#[46,46,46]⟩:ByteArray) 0 ([]:List Int) ([]:List Form))]),(Form.mk 1 (⟨#[46,46,46]⟩:ByteArray) 0 ([]:List Int) ([]:List Form))]),(Form.mk 3 (⟨#[]⟩:ByteArray) 0 ([]:List Int) [(Form.mk 1 (⟨#[109]⟩:ByteArray) 0 ([]:List Int) ([]:List Form)),(Form.mk 3 (⟨#[]⟩:ByteArray) 0 ([]:List Int) [(Form.mk 1 (⟨#[97]⟩:ByteArray) 0 ([]:List Int) ([]:List Form)),(Form.mk 1 (⟨#[46,46,46]⟩:ByteArray) 0 ([]:List Int) ([]:List Form))]),(Form.mk 3 (⟨#[]⟩:ByteArray) 0 ([]:List Int) [(Form.mk 3 (⟨#[]⟩:ByteArray) 0 ([]:List Int) [(Form.mk 1 (⟨#[97]⟩:ByteArray) 0 ([]:List Int) ([]:List Form)),(Form.mk 1 (⟨#[98]⟩:ByteArray) 0 ([]:List Int) ([]:List Form)),(Form.mk 1 (⟨#[46,46,46]⟩:ByteArray) 0 ([]:List Int) ([]:List Form))]),(Form.mk 1 (⟨#[46,46,46]⟩:ByteArray) 0 ([]:List Int) ([]:List Form))]),(Form.mk 2 (⟨#[]⟩:ByteArray) 1 ([]:List Int) ([]:List Form))])])])
theorem t5P8:zdy (⟨#[40,114,117,108,101,115,32,40,41,32,40,40,95,32,40,97,32,98,32,46,46,46,41,32,46,46,46,41,32,40,109,32,40,97,32,46,46,46,41,32,40,40,97,32,98,32,46,46,46,41,32,46,46,46,41,32,49,41,41,41]⟩:ByteArray) t5F8:=⟨Tr.add 100 (fun m=>by kernel_rfl),of_decide_eq_true (by kernel_rfl),Form.fitB_fit (by kernel_rfl)⟩
def t5F9:Form:=(Form.mk 3 (⟨#[]⟩:ByteArray) 0 ([]:List Int) [(Form.mk 1 (⟨#[109]⟩:ByteArray) 0 ([]:List Int) ([]:List Form)),(Form.mk 3 (⟨#[]⟩:ByteArray) 0 ([]:List Int) [(Form.mk 1 (⟨#[120]⟩:ByteArray) 0 ([]:List Int) ([]:List Form)),(Form.mk 2 (⟨#[]⟩:ByteArray) 1 ([]:List Int) ([]:List Form)),(Form.mk 2 (⟨#[]⟩:ByteArray) 2 ([]:List Int) ([]:List Form))]),(Form.mk 3 (⟨#[]⟩:ByteArray) 0 ([]:List Int) [(Form.mk 1 (⟨#[121]⟩:ByteArray) 0 ([]:List Int) ([]:List Form))])])
theorem t5P9:zdy (⟨#[40,109,32,40,120,32,49,32,50,41,32,40,121,41,41]⟩:ByteArray) t5F9:=⟨Tr.add 100 (fun m=>by kernel_rfl),of_decide_eq_true (by kernel_rfl),Form.fitB_fit (by kernel_rfl)⟩
def t5F10:Form:=(Form.mk 3 (⟨#[]⟩:ByteArray) 0 ([]:List Int) [(Form.mk 1 (⟨#[114,117,108,101,115]⟩:ByteArray) 0 ([]:List Int) ([]:List Form)),(Form.mk 3 (⟨#[]⟩:ByteArray) 0 ([]:List Int) ([]:List Form)),(Form.mk 3 (⟨#[]⟩:ByteArray) 0 ([]:List Int) [(Form.mk 3 (⟨#[]⟩:ByteArray) 0 ([]:List Int) [(Form.mk 1 (⟨#[95]⟩:ByteArray) 0 ([]:List Int) ([]:List Form)),(Form.mk 1 (⟨#[97]⟩:ByteArray) 0 ([]:List Int) ([]:List Form)),(Form.mk 1 (⟨#[46,46,46]⟩:ByteArray) 0 ([]:List Int) ([]:List Form))]),(Form.mk 3 (⟨#[]⟩:ByteArray) 0 ([]:List Int) [(Form.mk 1 (⟨#[108,105,115,116]⟩:ByteArray) 0 ([]:List Int) ([]:List Form)),(Form.mk 1 (⟨#[97]⟩:ByteArray) 0 ([]:List Int) ([]:List Form)),(Form.mk 1 (⟨#[46,46,46]⟩:ByteArray) 0 ([]:List Int) ([]:List Form)),(Form.mk 1 (⟨#[97]⟩:ByteArray) 0 ([]:List Int) ([]:List Form)),(Form.mk 1 (⟨#[46,46,46]⟩:ByteArray) 0 ([]:List Int) ([]:List Form))])])])
theorem t5P10:zdy (⟨#[40,114,117,108,101,115,32,40,41,32,40,40,95,32,97,32,46,46,46,41,32,40,108,105,115,116,32,97,32,46,46,46,32,97,32,46,46,46,41,41,41]⟩:ByteArray) t5F10:=⟨Tr.add 100 (fun m=>by kernel_rfl),of_decide_eq_true (by kernel_rfl),Form.fitB_fit (by kernel_rfl)⟩
def t5F11:Form:=(Form.mk 3 (⟨#[]⟩:ByteArray) 0 ([]:List Int) [(Form.mk 1 (⟨#[116,119,105,99,101]⟩:ByteArray) 0 ([]:List Int) ([]:List Form)),(Form.mk 2 (⟨#[]⟩:ByteArray) 1 ([]:List Int) ([]:List Form)),(Form.mk 2 (⟨#[]⟩:ByteArray) 2 ([]:List Int) ([]:List Form))])
theorem t5P11:zdy (⟨#[40,116,119,105,99,101,32,49,32,50,41]⟩:ByteArray) t5F11:=⟨Tr.add 100 (fun m=>by kernel_rfl),of_decide_eq_true (by kernel_rfl),Form.fitB_fit (by kernel_rfl)⟩
def t5F12:Form:=(Form.mk 3 (⟨#[]⟩:ByteArray) 0 ([]:List Int) [(Form.mk 1 (⟨#[114,117,108,101,115]⟩:ByteArray) 0 ([]:List Int) ([]:List Form)),(Form.mk 3 (⟨#[]⟩:ByteArray) 0 ([]:List Int) ([]:List Form)),(Form.mk 3 (⟨#[]⟩:ByteArray) 0 ([]:List Int) [(Form.mk 3 (⟨#[]⟩:ByteArray) 0 ([]:List Int) [(Form.mk 1 (⟨#[95]⟩:ByteArray) 0 ([]:List Int) ([]:List Form)),(Form.mk 1 (⟨#[97]⟩:ByteArray) 0 ([]:List Int) ([]:List Form)),(Form.mk 1 (⟨#[46,46,46]⟩:ByteArray) 0 ([]:List Int) ([]:List Form))]),(Form.mk 3 (⟨#[]⟩:ByteArray) 0 ([]:List Int) [(Form.mk 3 (⟨#[]⟩:ByteArray) 0 ([]:List Int) [(Form.mk 1 (⟨#[97]⟩:ByteArray) 0 ([]:List Int) ([]:List Form)),(Form.mk 2 (⟨#[]⟩:ByteArray) 1 ([]:List Int) ([]:List Form))]),(Form.mk 1 (⟨#[46,46,46]⟩:ByteArray) 0 ([]:List Int) ([]:List Form))])]),(Form.mk 3 (⟨#[]⟩:ByteArray) 0 ([]:List Int) [(Form.mk 3 (⟨#[]⟩:ByteArray) 0 ([]:List Int) [(Form.mk 1 (⟨#[95]⟩:ByteArray) 0 ([]:List Int) ([]:List Form)),(Form.mk 1 (⟨#[98]⟩:ByteArray) 0 ([]:List Int) ([]:List Form))]),(Form.mk 1 (⟨#[98]⟩:ByteArray) 0 ([]:List Int) ([]:List Form))])])
theorem t5P12:zdy (⟨#[40,114,117,108,101,115,32,40,41,32,40,40,95,32,97,32,46,46,46,41,32,40,40,97,32,49,41,32,46,46,46,41,41,32,40,40,95,32,98,41,32,98,41,41]⟩:ByteArray) t5F12:=⟨Tr.add 100 (fun m=>by kernel_rfl),of_decide_eq_true (by kernel_rfl),Form.fitB_fit (by kernel_rfl)⟩
def t5F13:Form:=(Form.mk 3 (⟨#[]⟩:ByteArray) 0 ([]:List Int) [(Form.mk 1 (⟨#[112,97,105,114,115]⟩:ByteArray) 0 ([]:List Int) ([]:List Form)),(Form.mk 1 (⟨#[112]⟩:ByteArray) 0 ([]:List Int) ([]:List Form)),(Form.mk 1 (⟨#[113]⟩:ByteArray) 0 ([]:List Int) ([]:List Form))])
theorem t5P13:zdy (⟨#[40,112,97,105,114,115,32,112,32,113,41]⟩:ByteArray) t5F13:=⟨Tr.add 100 (fun m=>by kernel_rfl),of_decide_eq_true (by kernel_rfl),Form.fitB_fit (by kernel_rfl)⟩
def t5F14:Form:=(Form.mk 3 (⟨#[]⟩:ByteArray) 0 ([]:List Int) [(Form.mk 1 (⟨#[114,117,108,101,115]⟩:ByteArray) 0 ([]:List Int) ([]:List Form)),(Form.mk 3 (⟨#[]⟩:ByteArray) 0 ([]:List Int) ([]:List Form)),(Form.mk 3 (⟨#[]⟩:ByteArray) 0 ([]:List Int) [(Form.mk 3 (⟨#[]⟩:ByteArray) 0 ([]:List Int) [(Form.mk 1 (⟨#[95]⟩:ByteArray) 0 ([]:List Int) ([]:List Form)),(Form.mk 1 (⟨#[97]⟩:ByteArray) 0 ([]:List Int) ([]:List Form))]),(Form.mk 1 (⟨#[97]⟩:ByteArray) 0 ([]:List Int) ([]:List Form))]),(Form.mk 3 (⟨#[]⟩:ByteArray) 0 ([]:List Int) [(Form.mk 3 (⟨#[]⟩:ByteArray) 0 ([]:List Int) [(Form.mk 1 (⟨#[95]⟩:ByteArray) 0 ([]:List Int) ([]:List Form)),(Form.mk 2 (⟨#[]⟩:ByteArray) 5 ([]:List Int) ([]:List Form))]),(Form.mk 2 (⟨#[]⟩:ByteArray) 6 ([]:List Int) ([]:List Form))]),(Form.mk 3 (⟨#[]⟩:ByteArray) 0 ([]:List Int) [(Form.mk 3 (⟨#[]⟩:ByteArray) 0 ([]:List Int) [(Form.mk 1 (⟨#[95]⟩:ByteArray) 0 ([]:List Int) ([]:List Form)),(Form.mk 1 (⟨#[97]⟩:ByteArray) 0 ([]:List Int) ([]:List Form)),(Form.mk 1 (⟨#[98]⟩:ByteArray) 0 ([]:List Int) ([]:List Form))]),(Form.mk 1 (⟨#[98]⟩:ByteArray) 0 ([]:List Int) ([]:List Form))])])
theorem t5P14:zdy (⟨#[40,114,117,108,101,115,32,40,41,32,40,40,95,32,97,41,32,97,41,32,40,40,95,32,53,41,32,54,41,32,40,40,95,32,97,32,98,41,32,98,41,41]⟩:ByteArray) t5F14:=⟨Tr.add 100 (fun m=>by kernel_rfl),of_decide_eq_true (by kernel_rfl),Form.fitB_fit (by kernel_rfl)⟩
def t5F15:Form:=(Form.mk 3 (⟨#[]⟩:ByteArray) 0 ([]:List Int) [(Form.mk 1 (⟨#[107]⟩:ByteArray) 0 ([]:List Int) ([]:List Form)),(Form.mk 2 (⟨#[]⟩:ByteArray) 5 ([]:List Int) ([]:List Form))])
theorem t5P15:zdy (⟨#[40,107,32,53,41]⟩:ByteArray) t5F15:=⟨Tr.add 100 (fun m=>by kernel_rfl),of_decide_eq_true (by kernel_rfl),Form.fitB_fit (by kernel_rfl)⟩
def t5T:List (List ByteArray):=[[(⟨#[40,114,117,108,101,115,32,40,41,32,40,40,95,32,97,32,98,41,32,40,108,101,116,32,40,40,116,109,112,32,97,41,41,32,40,108,105,115,116,32,98,32,116,109,112,41,41,41,41]⟩:ByteArray),(⟨#[40,115,119,97,112,32,120,32,121,41]⟩:ByteArray)],[(⟨#[40,114,117,108,101,115,32,40,41,32,40,40,95,41,32,48,41,32,40,40,95,32,97,41,32,97,41,32,40,40,95,32,97,32,98,32,46,46,46,41,32,40,105,102,32,97,32,49,32,40,111,114,32,98,32,46,46,46,41,41,41,41]⟩:ByteArray),(⟨#[40,111,114,32,120,32,121,32,122,41]⟩:ByteArray)],[(⟨#[40,114,117,108,101,115,32,40,41,32,40,40,95,32,40,40,120,32,118,41,32,46,46,46,41,32,98,111,100,121,41,32,40,40,108,97,109,98,100,97,32,40,120,32,46,46,46,41,32,98,111,100,121,41,32,118,32,46,46,46,41,41,41]⟩:ByteArray),(⟨#[40,109,121,108,101,116,32,40,40,112,32,49,41,32,40,113,32,50,41,41,32,40,102,32,112,32,113,41,41]⟩:ByteArray)],[(⟨#[40,114,117,108,101,115,32,40,101,108,115,101,41,32,40,40,95,32,101,108,115,101,32,101,41,32,101,41,32,40,40,95,32,99,32,101,32,114,32,46,46,46,41,32,40,105,102,32,99,32,101,32,40,99,111,110,100,32,114,32,46,46,46,41,41,41,41]⟩:ByteArray),(⟨#[40,99,111,110,100,32,112,32,49,32,101,108,115,101,32,50,41]⟩:ByteArray)],[(⟨#[40,114,117,108,101,115,32,40,41,32,40,40,95,32,40,97,32,98,32,46,46,46,41,32,46,46,46,41,32,40,109,32,40,97,32,46,46,46,41,32,40,40,97,32,98,32,46,46,46,41,32,46,46,46,41,32,49,41,41,41]⟩:ByteArray),(⟨#[40,109,32,40,120,32,49,32,50,41,32,40,121,41,41]⟩:ByteArray)],[(⟨#[40,114,117,108,101,115,32,40,41,32,40,40,95,32,97,32,46,46,46,41,32,40,108,105,115,116,32,97,32,46,46,46,32,97,32,46,46,46,41,41,41]⟩:ByteArray),(⟨#[40,116,119,105,99,101,32,49,32,50,41]⟩:ByteArray)],[(⟨#[40,114,117,108,101,115,32,40,41,32,40,40,95,32,97,32,46,46,46,41,32,40,40,97,32,49,41,32,46,46,46,41,41,32,40,40,95,32,98,41,32,98,41,41]⟩:ByteArray),(⟨#[40,112,97,105,114,115,32,112,32,113,41]⟩:ByteArray)],[(⟨#[40,114,117,108,101,115,32,40,41,32,40,40,95,32,97,41,32,97,41,32,40,40,95,32,53,41,32,54,41,32,40,40,95,32,97,32,98,41,32,98,41,41]⟩:ByteArray),(⟨#[40,107,32,53,41]⟩:ByteArray)]]
theorem t5T_tr:Tr (fun m=>zgq m) t5T:=Tr.of (fun m=>rfl)
theorem t5T_all:Pairs [(t5F0,t5F1),(t5F2,t5F3),(t5F4,t5F5),(t5F6,t5F7),(t5F8,t5F9),(t5F10,t5F11),(t5F12,t5F13),(t5F14,t5F15)] t5T:=⟨_,_,rfl,⟨_,_,rfl,t5P0,t5P1⟩,⟨_,_,rfl,⟨_,_,rfl,t5P2,t5P3⟩,⟨_,_,rfl,⟨_,_,rfl,t5P4,t5P5⟩,⟨_,_,rfl,⟨_,_,rfl,t5P6,t5P7⟩,⟨_,_,rfl,⟨_,_,rfl,t5P8,t5P9⟩,⟨_,_,rfl,⟨_,_,rfl,t5P10,t5P11⟩,⟨_,_,rfl,⟨_,_,rfl,t5P12,t5P13⟩,⟨_,_,rfl,⟨_,_,rfl,t5P14,t5P15⟩,rfl⟩⟩⟩⟩⟩⟩⟩⟩
end Go.Abs
end
section
set_option linter.unusedVariables false
set_option linter.unusedSimpArgs false
namespace Go.Abs
theorem Tr.uniq {α:Type} {F:Nat→Option α} {v w:α} (h1:Tr F v) (h2:Tr F w):v=w:=by
 obtain ⟨n1,h1⟩:=h1
 obtain ⟨n2,h2⟩:=h2
 have a:=h1 (n1+n2) (by omega)
 rw [h2 (n1+n2) (by omega)] at a
 exact (Option.some.inj a).symm
theorem TQ.and {α:Type} {F:Nat→Option α} {Q R:α→Prop} (h1:TQ F Q) (h2:TQ F R):TQ F (fun r=>Q r∧R r):=by
 obtain ⟨v,h1,q⟩:=h1
 obtain ⟨w,h2,r⟩:=h2
 obtain rfl:=h1.uniq h2
 exact ⟨v,h1,q,r⟩
theorem TQ.of_tr {α:Type} {F:Nat→Option α} {Q:α→Prop} {v:α} (h:Tr F v) (hq:TQ F Q):Q v:=by
 obtain ⟨w,h2,q⟩:=hq
 obtain rfl:=h.uniq h2
 exact q
theorem l1Mutate_len (c:Form) (o:zba) (K:Int) (ho:OkRd o K) (hb:c.w≤2 ^ 30) (hf:c.fit) (hK:K+3*c.w≤1000000000):TQ (fun m=>zao m o c) (fun r=>r.1.kids.length=c.kids.length):=by
 have hw:=c.w_kids
 obtain ⟨f1,f2,f3,f4⟩:=hf.parts
 have leaf:∀ (o:zba) (K:Int),OkRd o K→K+2≤1000000000→TQ (mutF c o) (fun r=>r.1.kids.length=c.kids.length):=by
  intro o K ho hK
  unfold mutF
  refine TQ.bind (zeT o 14 _ ho (by omega)) (fun v hv=>?_)
  refine TQ.cond (fun _=>?_) (fun _=>TQ.cond (fun _=>?_) (fun _=>TQ.cond (fun _=>?_) (fun _=>TQ.cond (fun _=>?_) (fun _=>?_))))
  ·exact TQ.bind (num_tq _ _ _ hv.1 (by omega) (by decide)) (fun w hw=>TQ.val rfl)
  ·exact TQ.bind (of_tq _ _ _ hv.1 (by omega) (by decide)) (fun w hw=>TQ.val rfl)
  ·exact TQ.bind (num_tq _ _ _ hv.1 (by omega) (by decide)) (fun w hw=>TQ.val rfl)
  ·exact TQ.bind (num_tq _ _ _ hv.1 (by omega) (by decide)) (fun w hw=>TQ.chk (by simp;omega) (TQ.val rfl))
  ·exact TQ.val rfl
 refine TQ.step (fun m=>by rw [zao]) ?_
 refine TQ.ev (zfr _ c (Nat.le_refl _) (by omega)) ?_
 refine TQ.cond (fun hc=>?_) (fun _=>leaf o K ho (by omega))
 have hpos:0 < c.kids.length:=by simpa using hc
 have hl:=Form.ws_len c.kids
 refine TQ.bind (zeT o 2 _ ho (by omega)) (fun v hv=>?_)
 refine TQ.cond (fun _=>?_) (fun _=>leaf _ _ hv.1 (by omega))
 refine TQ.bind (zeT _ _ _ hv.1 (by omega)) (fun w hw2=>?_)
 obtain ⟨h1,_,h2,_⟩:=hw2
 obtain ⟨h2,h3⟩:=h2 (by omega)
 obtain ⟨x,hx,hm⟩:=idx_int h2 h3
 have hxw:=Form.ws_mem hm
 obtain ⟨r,hr,_⟩:=zg5 _ x w.2 _ (Nat.le_refl _) h1 (by omega) (Form.fits_mem f4 hm) (by omega)
 exact ⟨_,Tr.idx hx (Tr.bind hr (Tr.idx hx Tr.val)),by show (c.kids.set _ _).length=_;rw [List.length_set]⟩
theorem mutate2_len (c:Form) (o:zba) (K:Int) (ho:OkRd o K) (hc:Dr 1000 c) (hK:K≤1000000) {β:Type} {g:Form→zba→Nat→Option β} {R:β→Prop}
  (h:∀ f o',OkRd o' (K+7000)→Dr (c.w+2) f→f.kids.length=c.kids.length→TQ (fun m=>g f o' m) R):TQ (fun m=>(zao m o c).bind fun v=>(zao m v.2 v.1).bind fun u=>g u.1 u.2 m) R:=by
 have h1:=hc.w
 refine TQ.bind (TQ.and (zg5 _ c o K (Nat.le_refl _) ho (by omega) hc.fit (by omega)) (l1Mutate_len c o K ho (by omega) hc.fit (by omega))) (fun v hv=>?_)
 obtain ⟨⟨v1,v2,v3⟩,v4⟩:=hv
 refine TQ.bind (TQ.and (zg5 _ v.1 v.2 _ (Nat.le_refl _) v1 (by omega) v3 (by omega)) (l1Mutate_len v.1 v.2 _ v1 (by omega) v3 (by omega))) (fun u hu=>?_)
 obtain ⟨⟨u1,u2,u3⟩,u4⟩:=hu
 exact h _ _ (u1.mono (by omega)) ⟨by omega,u3⟩ (by omega)
noncomputable def zgo (rules:List Rule) (lits:List Form):Bool:=alls (fun r=>ruleOk r lits) rules&&(decide ((rules.length:Int)≤9)&&litOk lits)
structure DrR (n:Nat) (r:Rule):Prop where
 p:Dr n r.pattern
 t:Dr n r.template
theorem l5Rules_tr (rules:List Rule) (lits:List Form) (hr:∀ r∈rules,DrR (2 ^ 36) r) (hl:Form.fits lits) (hlb:Form.ws lits≤2 ^ 36):Tr (fun m=>zeD m rules lits) (zgo rules lits):=by
 refine Tr.eq (fun m=>by unfold zeD;rfl) ?_
 have key:=zak rules (fun k zs=>(∀ z∈zs,z∈rules)→Tr (fun m=>zb0 m rules lits (k:Int)) (alls (fun r=>ruleOk r lits) zs&&(decide ((rules.length:Int)≤9)&&litOk lits))) ?_ ?_ 0 (Nat.zero_le _) (fun z hz=>by simpa using hz)
 ·exact key
 ·intro _
  refine Tr.step (fun m=>by rw [zb0,z6,cond_false]) (Tr.step (fun m=>by rw [zb1,cond_false]) ?_)
  rw [alls,Bool.true_and]
  by_cases h9:(rules.length:Int)≤9
  ·rw [decide_eq_true h9,Bool.true_and]
   exact Tr.tt (decide_eq_true (by omega)) (Tr.bind (specLit_tr lits hl hlb) Tr.val)
  ·rw [decide_eq_false h9,Bool.false_and]
   exact Tr.ff (decide_eq_false (by omega)) Tr.val
 ·intro k x zs hk hx hd ih hz
  have hxr:=hr x (hz x (by simp))
  refine Tr.step (fun m=>by rw [zb0,ltN hk,cond_true]) ?_
  by_cases h10:(k:Int) < 10
  ·refine Tr.step (fun m=>by rw [zb1,decide_eq_true h10,cond_true,zE hx,Option.bind_some]) ?_
   have hsr:=specRuleValid_tr x lits hxr.p.fit hxr.p.w hxr.t.fit hxr.t.w hl hlb
   have hsr2:Tr (fun m=>zc9 m x lits) (ruleOk x lits):=by
    obtain ⟨n,h⟩:=hsr
    refine ⟨n,fun m hm=>?_⟩
    have:=h m hm
    unfold zgE at this
    show zc9 m x lits=_
    replace this:(zc9 m x lits).bind (fun v1=>some v1)=some (ruleOk x lits):=this
    cases h5:zc9 m x lits with
    | none=>rw [h5] at this;cases this
    | some b=>rw [h5] at this;exact this
   refine Tr.bind hsr2 ?_
   rw [alls]
   cases ruleOk x lits with
   | false=>exact Tr.tt rfl Tr.val
   | true=>exact Tr.ff rfl (Tr.eq (fun m=>by rw [zaG (by omega),zbp]) (ih (fun z h=>hz z (by simp [h]))))
  ·refine Tr.step (fun m=>by rw [zb1,decide_eq_false h10,cond_false]) ?_
   rw [decide_eq_false (show ¬ (rules.length:Int)≤9 by omega),Bool.false_and,Bool.and_false]
   exact Tr.ff (decide_eq_false (by omega)) Tr.val
def zgw (x:Form):Rule:=Rule.mk (x.kids.getD 0 zbQ) (x.kids.getD 1 zbQ)
def zc4 (x:Form):Bool:=decide (x.kind=3)&&decide (x.kids.length=2)
def rulesN:ByteArray:=⟨#[114,117,108,101,115]⟩
def isRules (f:Form):Bool:=f.valid&&(decide (f.kind=3)&&(decide (2≤f.kids.length)&&(decide ((f.kids.getD 0 zbQ).name=rulesN)&&decide ((f.kids.getD 1 zbQ).kind=3))))
noncomputable def parseR (f:Form):List Form × List Rule × Bool :=
 bif isRules f then
  bif alls zc4 (f.kids.drop 2) then
   bif zgo ((f.kids.drop 2).map zgw) (f.kids.getD 1 zbQ).kids then ((f.kids.getD 1 zbQ).kids,(f.kids.drop 2).map zgw,true) else ([],[],false)
  else ([],[],false)
 else ([],[],false)
theorem zhR {α:Type} {l:List α} {k:Nat} {d:α} (h:k < l.length):l[k]?=some (l.getD k d)∧l.getD k d∈l:=by
 have:l[k]?=some (l.getD k d):=by rw [List.getD_eq_getElem?_getD,List.getElem?_eq_getElem h];rfl
 exact ⟨this,List.mem_of_getElem? this⟩
theorem kid_dr {n:Nat} {f x:Form} (h:Dr n f) (hx:x∈f.kids):Dr n x:=⟨by have:=Form.ws_mem hx;have:=f.w_kids;have:=h.w;omega,Form.fits_mem h.fit.parts.2.2.2 hx⟩
theorem ruleOf_dr {n:Nat} {x:Form} (h:Dr n x) (hs:zc4 x=true):DrR n (zgw x):=by
 unfold zc4 at hs
 rw [Bool.and_eq_true,decide_eq_true_eq,decide_eq_true_eq] at hs
 exact ⟨kid_dr h (zhR (by omega)).2,kid_dr h (zhR (by omega)).2⟩
theorem zgj (f:Form) (hf:Dr (2 ^ 30) f):Tr (fun m=>zcE m f) (parseR f):=by
 have hw:=f.w_kids
 have hfw:=hf.w
 have hfl:=Form.ws_len f.kids
 refine Tr.eq (fun m=>by unfold zcE;rfl) (Tr.bind (zbR f hf.fit (by omega)) ?_)
 have no:Tr (fun m=>zay m f true) (([]:List Form),([]:List Rule),false):=Tr.step (fun m=>by rw [zay];rfl) Tr.val
 unfold parseR isRules
 cases f.valid with
 | false=>exact Tr.tt rfl no
 | true =>
 refine Tr.ff rfl ?_
 by_cases h3:f.kind=3
 case neg=>rw [decide_eq_false h3];exact Tr.tt (by simpa using h3) no
 rw [decide_eq_true h3]
 refine Tr.ff (by simpa using h3) ?_
 by_cases h2:2≤f.kids.length
 case neg=>rw [decide_eq_false h2];exact Tr.tt (decide_eq_true (by omega)) no
 rw [decide_eq_true h2]
 obtain ⟨g0,m0⟩:=zhR (l:=f.kids) (k:=0) (d:=zbQ) (by omega)
 obtain ⟨g1,m1⟩:=zhR (l:=f.kids) (k:=1) (d:=zbQ) (by omega)
 generalize hk0:f.kids.getD 0 zbQ=k0 at g0 m0
 generalize hk1:f.kids.getD 1 zbQ=k1 at g1 m1
 have i0:idx f.kids 0=some k0:=zE g0
 have i1:idx f.kids 1=some k1:=zE g1
 refine Tr.ff (decide_eq_false (by omega)) (Tr.eq (fun m=>by rw [i0,Option.bind_some]) ?_)
 by_cases hn:k0.name=rulesN
 case neg=>rw [decide_eq_false hn];exact Tr.tt (decide_eq_true hn) no
 rw [decide_eq_true hn]
 refine Tr.ff (decide_eq_false (not_not_intro hn)) (Tr.eq (fun m=>by rw [i1,Option.bind_some]) ?_)
 by_cases hk:k1.kind=3
 case neg=>rw [decide_eq_false hk];exact Tr.eq (fun m=>by rw [decide_eq_true (show k1.kind≠3 from hk)]) no
 rw [decide_eq_true hk]
 refine Tr.step (fun m=>by rw [zay,decide_eq_false (show ¬ k1.kind≠3 by simp [hk]),cond_false]) ?_
 rw [Bool.and_true,Bool.and_true,Bool.and_true,Bool.and_true,cond_true]
 have d1:=kid_dr hf m1
 have d1w:=d1.w
 have k1w:=k1.w_kids
 have k1l:=Form.ws_len k1.kids
 -- what comes behind the literals
 have tail:Tr (fun m=>zci m f k1.kids) (bif alls zc4 (f.kids.drop 2) then
   bif zgo ((f.kids.drop 2).map zgw) k1.kids then (k1.kids,(f.kids.drop 2).map zgw,true) else ([],[],false)
    else ([],[],false)):=by
  refine Tr.step (fun m=>by rw [zci]) ?_
  have key:∀ (zs:List Form) (k:Nat) (rs:List Rule),f.kids.drop k=zs→rs.length≤k→alls zc4 zs=alls zc4 (f.kids.drop 2)→(alls zc4 zs=true→rs++zs.map zgw=(f.kids.drop 2).map zgw)→Tr (fun m=>zbc m f k1.kids rs (k:Int)) (bif alls zc4 (f.kids.drop 2) then
   bif zgo ((f.kids.drop 2).map zgw) k1.kids then (k1.kids,(f.kids.drop 2).map zgw,true) else ([],[],false)
    else ([],[],false)):=by
   intro zs
   induction zs with
   | nil =>
     intro k rs hd hr ha he
     have hk':¬ k < f.kids.length:=by have:=congrArg List.length hd;rw [List.length_drop] at this;simp at this;omega
     rw [← ha]
     have he2:=he rfl
     rw [List.map_nil,List.append_nil] at he2
     rw [alls,cond_true]
     refine Tr.step (fun m=>by rw [zbc,geN hk',cond_false]) (Tr.step (fun m=>by rw [zc7]) ?_)
     rw [he2]
     have hall:alls zc4 (f.kids.drop 2)=true:=by rw [← ha];rfl
     refine Tr.bind (l5Rules_tr _ k1.kids (fun r hr=>?_) d1.fit.parts.2.2.2 (by omega)) ?_
     ·obtain ⟨x,hx,rfl⟩:=List.mem_map.1 hr
      have:=ruleOf_dr (kid_dr hf (List.mem_of_mem_drop hx)) (zdT.1 hall x hx)
      exact ⟨this.p.mono (by omega),this.t.mono (by omega)⟩
     ·cases zgo ((f.kids.drop 2).map zgw) k1.kids with
      | false=>exact Tr.tt rfl Tr.val
      | true=>exact Tr.ff rfl Tr.val
   | cons x xs ih =>
     intro k rs hd hr ha he
     have hk':k < f.kids.length:=by have:=congrArg List.length hd;rw [List.length_drop] at this;simp at this;omega
     have hx:f.kids[k]?=some x:=by
      have:=congrArg (fun l=>l[0]?) hd
      simpa using this
     have hd2:f.kids.drop (k+1)=xs:=by rw [← List.drop_drop,hd];rfl
     have hxm:=List.mem_of_getElem? hx
     rw [alls] at ha he
     have j6:∀ b:Bool,zc4 x=!b→Tr (fun m=>zbe m f k1.kids rs (k:Int) b) (bif alls zc4 (f.kids.drop 2) then
      bif zgo ((f.kids.drop 2).map zgw) k1.kids then (k1.kids,(f.kids.drop 2).map zgw,true) else ([],[],false)
      else ([],[],false)):=by
      intro b hb
      cases b with
      | true =>
        rw [hb,Bool.not_true,Bool.false_and] at ha
        rw [← ha]
        exact Tr.step (fun m=>by rw [zbe,cond_true];rfl) Tr.val
      | false =>
        rw [hb,Bool.not_false,Bool.true_and] at ha he
        have hs2:zc4 x=true:=hb
        have hs:=hs2
        unfold zc4 at hs
        rw [Bool.and_eq_true,decide_eq_true_eq,decide_eq_true_eq] at hs
        obtain ⟨e0,_⟩:=zhR (l:=x.kids) (k:=0) (d:=zbQ) (by omega)
        obtain ⟨e1,_⟩:=zhR (l:=x.kids) (k:=1) (d:=zbQ) (by omega)
        have q0:idx x.kids 0=some (x.kids.getD 0 zbQ):=zE e0
        have q1:idx x.kids 1=some (x.kids.getD 1 zbQ):=zE e1
        have dr:=ruleOf_dr (kid_dr hf hxm) hs2
        refine Tr.step (fun m=>by rw [zbe,cond_false,zE hx,Option.bind_some,q0,Option.bind_some]) ?_
        refine Tr.bind (zfr _ _ (Nat.le_refl _) (by have h:=dr.p.w;have h2:(x.kids.getD 0 zbQ).w≤2 ^ 30:=h;omega)) (Tr.eq (fun m=>by rw [Option.bind_some,q1,Option.bind_some]) ?_)
        refine Tr.bind (zfr _ _ (Nat.le_refl _) (by have h:=dr.t.w;have h2:(x.kids.getD 1 zbQ).w≤2 ^ 30:=h;omega)) ?_
        refine Tr.chk (decide_eq_true (by simp;omega)) (Tr.eq (fun m=>by rw [zbp];rfl) (ih (k+1) (rs++[zgw x]) hd2 (by simp;omega) ha (fun h=>?_)))
        have:=he h
        rw [List.map_cons] at this
        rw [List.append_assoc]
        exact this
     refine Tr.step (fun m=>by rw [zbc,ltN hk',cond_true,zE hx,Option.bind_some,Option.bind_some]) ?_
     unfold zc4 at j6
     by_cases h3:x.kind=3
     ·refine Tr.ff (by simpa using h3) (j6 _ ?_)
      rw [decide_eq_true h3,Bool.true_and]
      by_cases h2:x.kids.length=2
      ·rw [decide_eq_true h2,decide_eq_false (by omega)];rfl
      ·rw [decide_eq_false h2,decide_eq_true (by omega)];rfl
     ·refine Tr.tt (by simpa using h3) (j6 true ?_)
      rw [decide_eq_false h3];rfl
  exact key (f.kids.drop 2) 2 [] rfl (by simp) rfl (fun _=>by simp)
 have lits:=zak k1.kids (fun k zs=>∀ g:List Form,g++zs=k1.kids→g.length=k→Tr (fun m=>zbd m f g (k:Int)) (bif alls zc4 (f.kids.drop 2) then
   bif zgo ((f.kids.drop 2).map zgw) k1.kids then (k1.kids,(f.kids.drop 2).map zgw,true) else ([],[],false)
    else ([],[],false))) ?_ ?_ 0 (Nat.zero_le _) [] (by simp) rfl
 ·exact lits
 ·intro g hg _
  rw [List.append_nil] at hg
  subst hg
  exact Tr.step (fun m=>by rw [zbd,i1,Option.bind_some,z6,cond_false]) tail
 ·intro k x zs hk' hx hd ih g hg hgl
  have hxm:=List.mem_of_getElem? hx
  have:=Form.ws_mem hxm
  refine Tr.step (fun m=>by rw [zbd,i1,Option.bind_some,ltN hk',cond_true,Option.bind_some,zE hx,Option.bind_some,zbp]) ?_
  refine Tr.bind (zfr _ x (Nat.le_refl _) (by omega)) (Tr.chk (decide_eq_true (by simp;omega)) (ih (g++[x]) (by rw [List.append_assoc];exact hg) (by simp [hgl])))
structure Dr5 (lits:List Form) (rules:List Rule) (f:Form):Prop where
 lw:Form.ws lits≤400
 lf:Form.fits lits
 ne:0 < rules.length
 len:rules.length≤400
 r:∀ r∈rules,DrR 200 r
 f:Dr 400 f
theorem parseR_dr {f:Form} (hf:Dr 102 f) (h3:3≤f.kids.length) (hok:(parseR f).2.2=true):Form.ws (parseR f).1≤400∧Form.fits (parseR f).1∧0 < (parseR f).2.1.length∧(parseR f).2.1.length≤400∧∀ r∈(parseR f).2.1,DrR 200 r:=by
 have hw:=f.w_kids
 have hl:=Form.ws_len f.kids
 have hfw:=hf.w
 unfold parseR at hok ⊢
 cases h1:isRules f with
 | false=>rw [h1] at hok;cases hok
 | true =>
 rw [h1,cond_true] at hok;rw [cond_true]
 cases h2:alls zc4 (f.kids.drop 2) with
 | false=>rw [h2] at hok;cases hok
 | true =>
 rw [h2,cond_true] at hok;rw [cond_true]
 cases h4:zgo ((f.kids.drop 2).map zgw) (f.kids.getD 1 zbQ).kids with
 | false=>rw [h4] at hok;cases hok
 | true =>
 rw [cond_true]
 have d1:=kid_dr hf (zhR (l:=f.kids) (k:=1) (d:=zbQ) (by omega)).2
 have d1w:=d1.w
 have k1w:=(f.kids.getD 1 zbQ).w_kids
 refine ⟨by dsimp only;omega,d1.fit.parts.2.2.2,by simp;omega,by simp;omega,fun r hr=>?_⟩
 obtain ⟨x,hx,rfl⟩:=List.mem_map.1 hr
 have:=ruleOf_dr (kid_dr hf (List.mem_of_mem_drop hx)) (zdT.1 h2 x hx)
 exact ⟨this.p.mono (by omega),this.t.mono (by omega)⟩
theorem t5_kids:∀ p∈[(t5F0,t5F1),(t5F2,t5F3),(t5F4,t5F5),(t5F6,t5F7),(t5F8,t5F9),(t5F10,t5F11),(t5F12,t5F13),(t5F14,t5F15)],3≤p.1.kids.length:=by
 intro p hp
 simp only [List.mem_cons,List.not_mem_nil,or_false] at hp
 rcases hp with rfl | rfl | rfl | rfl | rfl | rfl | rfl | rfl<;>exact of_decide_eq_true (by kernel_rfl)
theorem t5_first:∃ b,Abs.idx t5T 0=some [(⟨#[40,114,117,108,101,115,32,40,41,32,40,40,95,32,97,32,98,41,32,40,108,101,116,32,40,40,116,109,112,32,97,41,41,32,40,108,105,115,116,32,98,32,116,109,112,41,41,41,41]⟩:ByteArray),b]:=⟨_,rfl⟩
theorem t5_ok:(parseR t5F0).2.2=true:=by
 have h1:=zgj t5F0 (t5P0.dr.mono (by omega))
 have h2:TQ (fun m=>zcE m t5F0) (fun r=>r.2.2=true):=by
  refine ⟨_,Tr.add 200 (v:=([],[zgw (t5F0.kids.getD 2 zbQ)],true)) (fun m=>by kernel_rfl),rfl⟩
 exact TQ.of_tr (Q:=fun r=>r.2.2=true) h1 h2
theorem l5Case_tq (code:List Int) (hc:∀ x∈code,0≤x∧x < 256):TQ (fun m=>zfY m code) (fun r=>Dr5 r.1 r.2.1 r.2.2):=by
 refine TQ.eq (fun m=>by unfold zfY;rfl) ?_
 refine TQ.bind (open_tq code hc) (fun o ho=>TQ.ev t5T_tr (TQ.bind (zeT o _ _ ho (by omega)) (fun v hv=>?_)))
 obtain ⟨h1,_,h2,_⟩:=hv
 obtain ⟨h2,h3⟩:=h2 (by decide)
 obtain ⟨p,hp,a,b,hi,pa,pb⟩:=pairs_tq t5T_all h2 h3
 have hp3:=t5_kids p hp
 refine TQ.at hi (TQ.at (idx2_0 _ _) (TQ.ev pa.tr (TQ.bind (zeT _ 10 _ h1 (by omega)) (fun w hw=>?_))))
 -- the second part
 have j2:∀ (o:zba) (K:Int) (lits:List Form) (rules:List Rule),OkRd o K→K≤100000→(Form.ws lits≤400∧Form.fits lits∧0 < rules.length∧rules.length≤400∧∀ r∈rules,DrR 200 r)→TQ (fun m=>zcZ m t5T v o.b o.p lits rules) (fun r=>Dr5 r.1 r.2.1 r.2.2):=by
  intro o K lits rules ho hK hd
  obtain ⟨d1,d2,d3,d4,d5⟩:=hd
  refine TQ.step (fun m=>by rw [zcZ]) (TQ.at hi (TQ.at (idx2_1 a b) (TQ.ev pb.tr (TQ.bind (zeT _ 8 _ ho.mk' (by omega)) (fun u hu=>?_)))))
  have u1:=hu.1
  have db:=pb.dr
  refine TQ.cond (fun _=>?_) (fun _=>TQ.cond (fun _=>?_) (fun _=>TQ.cond (fun _=>?_) (fun _=>?_)))
  ·refine TQ.bind (zeT _ _ _ u1 (by omega)) (fun z hz=>?_)
   obtain ⟨_,_,z2,_⟩:=hz
   obtain ⟨z2,z3⟩:=z2 (by decide)
   obtain ⟨q,_,a',b',hi',qa,qb⟩:=pairs_tq t5T_all z2 z3
   exact TQ.at hi' (TQ.at (idx2_1 _ _) (TQ.ev qb.tr (TQ.val ⟨d1,d2,d3,d4,d5,qb.dr.mono (by omega)⟩)))
  ·exact mutate2_tq _ _ _ u1 (db.mono (by omega)) (by omega) (g:=fun f _ _=>some (lits,rules,f)) (fun f o' _ hf=>TQ.val ⟨d1,d2,d3,d4,d5,hf.mono (by have:=db.w;omega)⟩)
  ·refine TQ.bind (l1Dress_tq _ p.2 _ _ (Nat.le_refl _) u1 (by have:=db.w;omega) db.fit (by have:=db.w;omega)) (fun z hz=>TQ.val ⟨d1,d2,d3,d4,d5,⟨?_,hz.2.2⟩⟩)
   have:=db.w;have:=hz.2.1;dsimp only;omega
  ·exact TQ.val ⟨d1,d2,d3,d4,d5,db.mono (by omega)⟩
 have j1:∀ (o:zba) (K:Int) (f:Form),OkRd o K→K≤100000→Dr 102 f→3≤f.kids.length→TQ (fun m=>zcq m t5T v o.b o.p f.kind f.name f.n f.scopes f.kids) (fun r=>Dr5 r.1 r.2.1 r.2.2):=by
  intro o K f ho hK hf h3
  have e:Form.mk f.kind f.name f.n f.scopes f.kids=f:=by obtain ⟨a,b,c,d,e⟩:=f;rfl
  refine TQ.step (fun m=>by rw [zcq,e]) (TQ.ev (zgj f (hf.mono (by omega))) ?_)
  cases hok:(parseR f).2.2 with
  | true=>exact TQ.cond (fun h=>by cases h) (fun _=>j2 o K _ _ ho hK (parseR_dr hf h3 hok))
  | false =>
    obtain ⟨b0,B0⟩:=t5_first
    refine TQ.cond (fun _=>TQ.at B0 (TQ.at (idx2_0 _ _) (TQ.ev t5P0.tr (TQ.ev (zgj t5F0 (t5P0.dr.mono (by omega))) (j2 o K _ _ ho hK (parseR_dr (t5P0.dr.mono (by omega)) (t5_kids (t5F0,t5F1) (by simp)) t5_ok)))))) (fun h=>by cases h)
 have da:=pa.dr
 refine TQ.cond (fun _=>?_) (fun _=>?_)
 ·exact mutate2_len _ _ _ hw.1 (da.mono (by omega)) (by omega) (g:=fun f o m=>zcq m t5T v o.b o.p f.kind f.name f.n f.scopes f.kids) (fun f o' ho' hf hk=>j1 o' _ f ho' (by omega) (hf.mono (by have:=da.w;omega)) (by omega))
 ·exact j1 w.2 _ p.1 hw.1 (by omega) (da.mono (by omega)) hp3
end Go.Abs
end
section
set_option linter.unusedVariables false
set_option linter.unusedSimpArgs false
namespace Go.Abs
structure Rule.fit (r:Rule):Prop where
 p:r.pattern.fit
 t:r.template.fit
structure zfT.fit (m:zfT):Prop where
 ll:m.literals.length≤9223372036854775807
 l:Form.fits m.literals
 rl:m.rules.length≤9223372036854775807
 r:∀ r∈m.rules,r.fit
structure zaT.fit (x:zaT):Prop where
 bl:x.binds.length≤9223372036854775807
 b:∀ b∈x.binds,b.fit
 ml:x.macros.length≤9223372036854775807
 m:∀ m∈x.macros,m.fit
end Go.Abs
end
section
set_option linter.unusedVariables false
set_option linter.unusedSimpArgs false
namespace Go.Abs
theorem isOk_mono:∀ (n:Nat) (f:Form),f.w≤n→∀ d e,d≤e→f.isOk d=true→f.isOk e=true:=by
 intro n
 induction n with
 | zero=>intro f h;have:=f.w_kids;omega
 | succ n ih =>
   intro f hf d e hde h
   have hw:=f.w_kids
   rw [Form.isOk_eq] at h ⊢
   by_cases hd:d=0
   ·rw [decide_eq_true hd] at h;cases h
   rw [decide_eq_false hd,cond_false] at h
   rw [decide_eq_false (show ¬ e=0 by omega),cond_false]
   cases h1:decide (f.kind=1) with
   | true=>rw [h1,cond_true] at h;exact h
   | false =>
   rw [h1,cond_false] at h
   rw [cond_false]
   cases h2:decide (f.kind=2) with
   | true=>rw [h2,cond_true] at h;exact h
   | false =>
   rw [h2,cond_false] at h
   rw [cond_false]
   simp only [Bool.and_eq_true] at h ⊢
   obtain ⟨a,b,c,k,g⟩:=h
   refine ⟨a,b,c,k,?_⟩
   rw [zdT] at g ⊢
   exact fun x hx=>ih x (by have:=Form.ws_mem hx;omega) (d-1) (e-1) (by omega) (g x hx)
theorem cnts_mem:∀ {l:List Form} {x:Form},x∈l→x.cnt≤Form.cnts l
 | y::ys,x,h=>by
   rw [Form.cnts]
   rcases List.mem_cons.1 h with rfl | h
   ·omega
   ·have:=cnts_mem h;omega
theorem cnts_len:∀ (l:List Form),l.length≤Form.cnts l
 | []=>by simp
 | y::ys=>by
   have:=cnts_len ys
   have:=y.cnt_eq
   rw [Form.cnts,List.length_cons];omega
def HitD:Nat→Hit→Prop
 | 0,h=>h.depth=0∧h.one.valid=true∧h.many=[]
 | d+1,h=>h.depth=(d:Int)+1∧h.one=zbQ∧h.many.length≤400∧∀ x∈h.many,x.name=h.name∧HitD d x
def nameG (f:Form):Bool:=isNm f&&(!decide (f.name=dotsN)&&!decide (f.name=zgJ))
theorem HitD.depth {d:Nat} {h:Hit} (hd:HitD d h):h.depth=(d:Int):=by
 cases d with
 | zero=>exact hd.1
 | succ d=>rw [hd.1];omega
theorem HitD.isOk:∀ (d:Nat) (h:Hit),d≤3→HitD d h→nameG h.name=true→h.isOk=true
 | 0,h,hd,hh,hn=>by
   obtain ⟨h1,h2,h3⟩:=hh
   unfold nameG at hn
   simp only [Bool.and_eq_true] at hn
   rw [Hit.isOk_eq,hn.1,hn.2.1,hn.2.2,h1,h2,h3];rfl
 | d+1,h,hd,hh,hn=>by
   obtain ⟨h1,h2,h3,h4⟩:=hh
   have hn0:=hn
   unfold nameG at hn
   simp only [Bool.and_eq_true] at hn
   rw [Hit.isOk_eq,hn.1,hn.2.1,hn.2.2,h1,h2,zgv,decide_eq_false (show ¬ (d:Int)+1=0 by omega),decide_eq_true (show (0:Int)≤(d:Int)+1 by omega),decide_eq_true (show (d:Int)+1≤3 by omega),decide_eq_true (show (h.many.length:Int)≤400 by omega)]
   simp only [Bool.true_and,cond_false]
   rw [zdT]
   intro x hx
   obtain ⟨e1,e2⟩:=h4 x hx
   rw [e1,zgv,e2.depth,decide_eq_true (show (d:Int)=(d:Int)+1-1 by omega),HitD.isOk d x (by omega) e2 (by rw [e1];exact hn0)]
   rfl
theorem hvF_of:∀ {l:List Hit} {ps:List Hit},(∀ x∈l,x.isOk=true)→distF (ps.map Hit.name) (l.map Hit.name)=true→hvF ps l=true
 | [],ps,_,_=>by rw [hvF]
 | x::l,ps,h,hd=>by
   rw [List.map_cons,distF,Bool.and_eq_true] at hd
   rw [hvF,Bool.and_eq_true,Bool.and_eq_true]
   refine ⟨h x (by simp),?_,hvF_of (fun y hy=>h y (by simp [hy])) (by rw [List.map_append];exact hd.2)⟩
   have h1:=hd.1
   unfold inF at h1
   rw [Bool.not_not,zdT] at h1
   rw [zdT]
   exact fun y hy=>h1 y.name (List.mem_map_of_mem hy)
theorem zg6:∀ (a b:List Form),Form.cnts (a++b)=Form.cnts a+Form.cnts b
 | [],b=>by rw [List.nil_append,Form.cnts,Nat.zero_add]
 | x::a,b=>by rw [List.cons_append,Form.cnts,Form.cnts,zg6 a b];omega
end Go.Abs
end
section
set_option linter.unusedVariables false
set_option maxRecDepth 100000
namespace Go.Abs
def t6F0:Form:=(Form.mk 3 (⟨#[]⟩:ByteArray) 0 ([]:List Int) [(Form.mk 1 (⟨#[97]⟩:ByteArray) 0 ([]:List Int) ([]:List Form)),(Form.mk 1 (⟨#[46,46,46]⟩:ByteArray) 0 ([]:List Int) ([]:List Form))])
theorem t6P0:zdy (⟨#[40,97,32,46,46,46,41]⟩:ByteArray) t6F0:=⟨Tr.add 100 (fun m=>by kernel_rfl),of_decide_eq_true (by kernel_rfl),Form.fitB_fit (by kernel_rfl)⟩
def t6F1:Form:=(Form.mk 3 (⟨#[]⟩:ByteArray) 0 ([]:List Int) [(Form.mk 1 (⟨#[120]⟩:ByteArray) 0 ([]:List Int) ([]:List Form)),(Form.mk 1 (⟨#[46,46,46]⟩:ByteArray) 0 ([]:List Int) ([]:List Form)),(Form.mk 1 (⟨#[46,46,46]⟩:ByteArray) 0 ([]:List Int) ([]:List Form))])
theorem t6P1:zdy (⟨#[40,120,32,46,46,46,32,46,46,46,41]⟩:ByteArray) t6F1:=⟨Tr.add 100 (fun m=>by kernel_rfl),of_decide_eq_true (by kernel_rfl),Form.fitB_fit (by kernel_rfl)⟩
def t6F2:Form:=(Form.mk 1 (⟨#[46,46,46]⟩:ByteArray) 0 ([]:List Int) ([]:List Form))
theorem t6P2:zdy (⟨#[46,46,46]⟩:ByteArray) t6F2:=⟨Tr.add 100 (fun m=>by kernel_rfl),of_decide_eq_true (by kernel_rfl),Form.fitB_fit (by kernel_rfl)⟩
def t6F3:Form:=(Form.mk 3 (⟨#[]⟩:ByteArray) 0 ([]:List Int) [(Form.mk 2 (⟨#[]⟩:ByteArray) 1 ([]:List Int) ([]:List Form)),(Form.mk 1 (⟨#[46,46,46]⟩:ByteArray) 0 ([]:List Int) ([]:List Form))])
theorem t6P3:zdy (⟨#[40,49,32,46,46,46,41]⟩:ByteArray) t6F3:=⟨Tr.add 100 (fun m=>by kernel_rfl),of_decide_eq_true (by kernel_rfl),Form.fitB_fit (by kernel_rfl)⟩
def t6F4:Form:=(Form.mk 3 (⟨#[]⟩:ByteArray) 0 ([]:List Int) [(Form.mk 1 (⟨#[113]⟩:ByteArray) 0 ([]:List Int) ([]:List Form)),(Form.mk 3 (⟨#[]⟩:ByteArray) 0 ([]:List Int) [(Form.mk 1 (⟨#[97]⟩:ByteArray) 0 ([]:List Int) ([]:List Form)),(Form.mk 1 (⟨#[98]⟩:ByteArray) 0 ([]:List Int) ([]:List Form))]),(Form.mk 1 (⟨#[46,46,46]⟩:ByteArray) 0 ([]:List Int) ([]:List Form))])
theorem t6P4:zdy (⟨#[40,113,32,40,97,32,98,41,32,46,46,46,41]⟩:ByteArray) t6F4:=⟨Tr.add 100 (fun m=>by kernel_rfl),of_decide_eq_true (by kernel_rfl),Form.fitB_fit (by kernel_rfl)⟩
end Go.Abs
end
section
set_option linter.unusedVariables false
set_option linter.unusedSimpArgs false
namespace Go.Abs
def bS:Nat→Nat
 | 0=>10
 | d+1=>4*bS d
theorem bS_ge:∀ d,10≤bS d
 | 0=>Nat.le_refl _
 | d+1=>by have:=bS_ge d;rw [bS];omega
theorem leaf_num (n:Int):Dr 1 (Form.mk 2 (⟨#[]⟩:ByteArray) n ([]:List Int) ([]:List Form)):=⟨by simp [Form.w,Form.ws],by simp only [Form.fit,Form.fits,List.length_nil];exact ⟨by decide,by decide,by decide,trivial⟩⟩
theorem leaf_name (s:ByteArray) (h:s.size≤100):Dr 1 (Form.mk 1 s 0 ([]:List Int) ([]:List Form)):=⟨by simp [Form.w,Form.ws],by simp only [Form.fit,Form.fits,List.length_nil];exact ⟨by omega,by decide,by decide,trivial⟩⟩
theorem l1Some_leaf (o:zba) (K:Int) (ho:OkRd o K) (hK:K≤1000000000) {R:Form × zba→Prop} (hR:∀ f o',Dr 1 f→OkRd o' (K+2)→R (f,o')) :
  TQ (fun m=>(zL m o 4).bind fun v2=>bif decide (v2.1=0) then (zaq m v2.2 [0,1,2,7,42,999]).bind fun v4=>some ((Form.mk 2 (⟨#[]⟩:ByteArray) v4.1 ([]:List Int) ([]:List Form)),v4.2)
   else (zbs m v2.2 [(⟨#[97]⟩:ByteArray),(⟨#[98]⟩:ByteArray),(⟨#[120]⟩:ByteArray),(⟨#[121]⟩:ByteArray),(⟨#[102]⟩:ByteArray),(⟨#[105,102]⟩:ByteArray),(⟨#[108,101,116]⟩:ByteArray),(⟨#[43]⟩:ByteArray)]).bind fun v5=>(zeb m v5.1).bind fun v6=>some (v6,v5.2)) R:=by
 refine TQ.bind (zeT o 4 K ho (by omega)) (fun v hv=>TQ.cond (fun _=>?_) (fun _=>?_))
 ·refine TQ.bind (num_tq _ _ _ hv.1 (by omega) (by decide)) (fun w hw=>TQ.val (hR _ _ (leaf_num _) (hw.1.mono (by omega))))
 ·refine TQ.bind (of_tq _ _ _ hv.1 (by omega) (by decide)) (fun w hw=>TQ.ev (nameForm_tr _) (TQ.val (hR _ _ (leaf_name _ ?_) (hw.1.mono (by omega)))))
  have h2:=hw.2
  simp only [List.mem_cons,List.not_mem_nil,or_false] at h2
  rcases h2 with h2 | h2 | h2 | h2 | h2 | h2 | h2 | h2<;>rw [h2]<;>decide
theorem l1Some_tq:∀ (d:Nat),d≤10→∀ (o:zba) (K:Int),OkRd o K→K+bS d≤1000000000→TQ (fun m=>zdH m o (d:Int)) (fun r=>Dr (bS d) r.1∧OkRd r.2 (K+bS d)):=by
 intro d
 induction d with
 | zero =>
   intro _ o K ho hK
   rw [bS] at hK ⊢
   refine TQ.step (fun m=>by rw [zdH]) (TQ.eq (fun m=>by rw [decide_eq_true (show ((0:Nat):Int)=0 from rfl),cond_true]) ?_)
   exact l1Some_leaf o K ho (by omega) (fun f o' hf ho'=>⟨hf.mono (by omega),ho'.mono (by omega)⟩)
 | succ d ih =>
   intro hd o K ho hK
   have hb:=bS_ge d
   rw [bS] at hK ⊢
   refine TQ.step (fun m=>by rw [zdH]) (TQ.eq (fun m=>by rw [decide_eq_false (show ¬ ((d+1:Nat):Int)=0 by omega),cond_false]) ?_)
   refine TQ.bind (zeT o 3 K ho (by omega)) (fun v hv=>TQ.cond (fun _=>?_) (fun _=>?_))
   ·exact l1Some_leaf v.2 _ hv.1 (by omega) (fun f o' hf ho'=>⟨hf.mono (by omega),ho'.mono (by omega)⟩)
   refine TQ.bind (zeT v.2 4 _ hv.1 (by omega)) (fun w hw=>?_)
   obtain ⟨w1,_,w2,_⟩:=hw
   obtain ⟨w2,w3⟩:=w2 (by decide)
   have loop:∀ (c:Nat),c≤3→∀ (o':zba) (K':Int) (acc:List Form) (T:Nat),OkRd o' K'→T=c*(bS d+1)→K'+T≤1000000000→acc.length+c≤3→Form.fits acc→TQ (fun m=>zcu m ((d+1:Nat):Int) (c:Int) o'.b o'.p acc) (fun r=>Dr (1+Form.ws acc+T) r.1∧OkRd r.2 (K'+T)):=by
    intro c
    induction c with
    | zero =>
      intro _ o' K' acc T ho' hT hK' _ hfit
      rw [Nat.zero_mul] at hT
      subst hT
      refine TQ.step (fun m=>by rw [zcu,decide_eq_false (show ¬ (0:Int) < ((0:Nat):Int) by decide),cond_false]) (TQ.val ⟨⟨?_,?_⟩,ho'.mk'.mono (K':=K'+((0:Nat):Int)) (by omega)⟩)
      ·simp [Form.w]
      ·simp only [Form.fit,List.length_nil];exact ⟨by decide,by decide,by omega,hfit⟩
    | succ c ihc =>
      intro hc o' K' acc T ho' hT hK' hlen hfit
      rw [Nat.succ_mul] at hT
      refine TQ.step (fun m=>by rw [zcu,decide_eq_true (show (0:Int) < ((c+1:Nat):Int) by omega),cond_true,show w64 (((d+1:Nat):Int)-1)=(d:Int) by rw [zaG (by omega)];omega,show w64 (((c+1:Nat):Int)-1)=(c:Int) by rw [zaG (by omega)];omega]) ?_
      refine TQ.bind (ih (by omega) _ K' ho'.mk' (by omega)) (fun z hz=>?_)
      have zw:=hz.1.w
      have hws:Form.ws (acc++[z.1])=Form.ws acc+(z.1.w+1):=by rw [Form.ws_append];simp [Form.ws];omega
      refine TQ.chk (decide_eq_true (by simp;omega)) (TQ.mono (ihc (by omega) z.2 (K'+bS d) (acc++[z.1]) (c*(bS d+1)) hz.2 rfl (by omega) (by simp;omega) ?_) (fun r hr=>⟨hr.1.mono (by omega),hr.2.mono (by omega)⟩))
      have:∀ l:List Form,Form.fits l→Form.fits (l++[z.1]):=by
       intro l
       induction l with
       | nil=>intro _;rw [List.nil_append,Form.fits];exact ⟨hz.1.fit,by rw [Form.fits];trivial⟩
       | cons y l ihl=>intro h;rw [Form.fits] at h;rw [List.cons_append,Form.fits];exact ⟨h.1,ihl h.2⟩
      exact this acc hfit
   obtain ⟨c,hc⟩:=Int.eq_ofNat_of_zero_le w2
   rw [hc]
   have C3:c≤3:=by omega
   have hT:c*(bS d+1)≤3*(bS d+1):=Nat.mul_le_mul_right _ C3
   refine TQ.mono (loop c C3 w.2 _ [] _ w1 rfl (by omega) (by simp;omega) (by rw [Form.fits];trivial)) (fun r hr=>⟨hr.1.mono (by rw [Form.ws];omega),hr.2.mono (by omega)⟩)
theorem FirstRule_tq (rules:List Rule) (lits:List Form) (f:Form) (hr:∀ r∈rules,DrR 200 r) (hl:Form.fits lits) (hlw:Form.ws lits≤400) (hf:Dr 400 f):TQ (fun m=>zew m ([]:List Bind) rules lits f) (fun r=>r.2=true→0≤r.1∧r.1 < rules.length):=by
 have hfw:=hf.w
 refine TQ.eq (fun m=>by unfold zew;rfl) (TQ.ev (zhp [] (fun b hb=>by cases hb)) ?_)
 have no:TQ (fun m=>za5 m ([]:List Bind) rules lits f true) (fun r=>r.2=true→0≤r.1∧r.1 < rules.length):=TQ.step (fun m=>by rw [za5];rfl) (TQ.val (fun h=>by cases h))
 refine TQ.cond (fun _=>no) (fun _=>TQ.ev (l5Rules_tr rules lits (fun r h=>⟨(hr r h).p.mono (by omega),(hr r h).t.mono (by omega)⟩) hl (by omega)) ?_)
 cases hro:zgo rules lits with
 | false=>exact TQ.cond (fun _=>no) (fun h=>by cases h)
 | true =>
 refine TQ.cond (fun h=>by cases h) (fun _=>TQ.ev (zbR f hf.fit (by omega)) ?_)
 cases f.valid with
 | false=>exact no
 | true =>
 have hall:∀ r∈rules,ruleOk r lits=true:=by
  unfold zgo at hro
  rw [Bool.and_eq_true] at hro
  exact zdT.1 hro.1
 refine TQ.step (fun m=>by rw [za5,Bool.not_true,cond_false]) ?_
 have key:=zak rules (fun k zs=>TQ (fun m=>zbx m ([]:List Bind) rules lits f (k:Int)) (fun r=>r.2=true→0≤r.1∧r.1 < rules.length)) ?_ ?_ 0 (Nat.zero_le _)
 ·exact key
 ·exact TQ.step (fun m=>by rw [zbx,z6,cond_false]) (TQ.val (fun h=>by cases h))
 ·intro k x zs hk hx hd ih
  have hxm:=List.mem_of_getElem? hx
  have hok:=hall x hxm
  unfold ruleOk at hok
  rw [Bool.and_eq_true] at hok
  have hpw:=(hr x hxm).p.w
  refine TQ.step (fun m=>by rw [zbx,ltN hk,cond_true,zE hx,Option.bind_some,zbp]) ?_
  refine TQ.bind (l4Match_n [] lits (by simp) _ x.pattern (Nat.le_refl _) (patOk_S hok.1) (by omega) f (by omega)) (fun r _=>TQ.cond (fun _=>TQ.val (fun _=>⟨by dsimp only;omega,by dsimp only;omega⟩)) (fun _=>ih))
theorem l5Hits_tq (code:List Int) (hc:∀ x∈code,0≤x∧x < 256):TQ (fun m=>zfX m code) (fun r=>Dr 1000 r.1∧DrH 2000000 r.2):=by
 refine TQ.eq (fun m=>by unfold zfX;rfl) ?_
 refine TQ.bind (l5Case_tq code hc) (fun c hcc=>TQ.bind (open_tq code hc) (fun o ho=>TQ.bind (FirstRule_tq c.2.1 c.1 c.2.2 hcc.r hcc.lf hcc.lw hcc.f) (fun v hv=>?_)))
 have hlw:=hcc.lw
 have hfw:=hcc.f.w
 refine TQ.cond (fun _=>?_) (fun hvt=>?_)
 ·refine TQ.bind (l1Some_tq 2 (by omega) o 0 ho (by decide)) (fun z hz=>TQ.val ⟨hz.1.mono (by decide),⟨by rw [Hit.ws];omega,by rw [Hit.fits];trivial⟩⟩)
 ·obtain ⟨v0,v1⟩:=hv (bool_ff hvt)
  refine TQ.idx v0 v1 (fun x hx=>?_)
  have dx:=hcc.r x hx
  have xpw:=dx.p.w
  refine TQ.ev (specMatchPattern_tr [] x.pattern c.1 c.2.2 (fun b hb=>by cases hb) (by simp) dx.p.fit (by omega) hcc.lf (by omega) hcc.f.fit (by omega)) ?_
  have hD:=matchP_dr (bs:=[]) (lits:=c.1) (dx.p.mono (show 200≤400 by omega)) hcc.f
  generalize (matchP [] x.pattern c.1 c.2.2)=mp at hD
  have hD2:DrH 2000000 mp.1:=⟨by have:=hD.w;omega,hD.fit⟩
  refine TQ.idx v0 v1 (fun y hy=>?_)
  have dy:=(hcc.r y hy).t
  have dyw:=dy.w
  refine TQ.ev (zfr _ y.template (Nat.le_refl _) (by omega)) (TQ.bind (zeT o 12 _ ho (by omega)) (fun w hw=>TQ.cond (fun _=>?_) (fun _=>TQ.cond (fun _=>?_) (fun _=>TQ.val ⟨dy.mono (by omega),hD2⟩))))
  ·exact mutate2_tq _ _ _ hw.1 (dy.mono (by omega)) (by omega) (g:=fun f _ _=>some (f,mp.1)) (fun f o' _ hf=>TQ.val ⟨hf.mono (by omega),hD2⟩)
  ·refine TQ.bind (of_tq _ _ _ hw.1 (by omega) (by decide)) (fun u hu=>?_)
   have hp:∃ f,zdy u.1 f:=by
    have h2:=hu.2
    simp only [List.mem_cons,List.not_mem_nil,or_false] at h2
    rcases h2 with h2 | h2 | h2 | h2 | h2<;>rw [h2]
    ·exact ⟨_,t6P0⟩
    ·exact ⟨_,t6P1⟩
    ·exact ⟨_,t6P2⟩
    ·exact ⟨_,t6P3⟩
    ·exact ⟨_,t6P4⟩
   obtain ⟨f,hp⟩:=hp
   exact TQ.ev hp.tr (TQ.val ⟨hp.dr.mono (by omega),hD2⟩)
theorem hvF_apart:∀ {l ps:List Hit},hvF ps l=true→∀ h∈l,∀ p∈ps,same p.name h.name=false
 | x::xs,ps,hv,h,hh,p,hp=>by
   rw [hvF,Bool.and_eq_true,Bool.and_eq_true] at hv
   rcases List.mem_cons.1 hh with rfl | hh
   ·have:=zdT.1 hv.2.1 p hp
    simpa using this
   ·exact hvF_apart hv.2.2 h hh p (List.mem_append_left _ hp)
theorem hv_dep:∀ {l ps:List Hit},hvF ps l=true→∀ h∈l,depF (nd l) h.name=h.depth
 | x::xs,ps,hv,h,hh=>by
   have hv':=hv
   rw [hvF,Bool.and_eq_true,Bool.and_eq_true] at hv
   show depF ((x.name,x.depth)::nd xs) h.name=h.depth
   rw [depF]
   rcases List.mem_cons.1 hh with rfl | hh
   ·rw [zgv,cond_true]
   ·rw [hvF_apart hv.2.2 h hh x (by simp),cond_false]
    exact hv_dep hv.2.2 h hh
end Go.Abs
end
section
set_option linter.unusedVariables false
set_option linter.unusedSimpArgs false
namespace Go.Abs
theorem nextD_no {l:List Form} (h:∀ x∈l,zK x=false):zbM l=false:=by
 cases l with
 | nil=>rfl
 | cons y ys=>exact h y (by simp)
theorem drop_cons' {α:Type} {l xs:List α} {x:α} {k:Nat} (h:l.drop k=x::xs):l[k]?=some x∧l.drop (k+1)=xs∧k < l.length:=by
 have h1:l[k]?=some x:=by have:=congrArg (fun l=>l[0]?) h;simpa using this
 exact ⟨h1,by rw [← List.drop_drop,h];rfl,(List.getElem?_eq_some_iff.1 h1).1⟩
section
variable {bs:List Bind} {lits:List Form} {P F:Form}
structure RowS (P F:Form) (xs:List Form) (pr dd:Form) (tail:List Form):Prop where
 eq:P.kids=xs++pr::dd::tail
 pre:∀ x∈xs,zK x=false
 row:zK pr=false
 dots:zK dd=true
 post:∀ x∈tail,zK x=false
 len:xs.length+tail.length≤F.kids.length
def RowS.many (F:Form) (xs tail:List Form):Nat:=F.kids.length-(xs.length+tail.length)
variable {xs tail:List Form} {pr dd:Form}
end
end Go.Abs
end
section
set_option linter.unusedVariables false
set_option linter.unusedSimpArgs false
namespace Go.Abs
section
variable {bs:List Bind} {lits:List Form} {P F:Form} {xs tail:List Form} {pr dd:Form}
theorem set_end {α:Type} (l:List α) (z v:α):(l++[z]).set (l.length:Int).toNat v=l++[v]:=by
 rw [Int.toNat_natCast,List.set_append_right _ _ (Nat.le_refl _),Nat.sub_self];rfl
theorem idx_last {α:Type} (l:List α) (z:α):idx (l++[z]) (l.length:Int)=some z:=zE (by simp)
end
end Go.Abs
end
section
set_option linter.unusedVariables false
set_option linter.unusedSimpArgs false
namespace Go.Abs
theorem FormSize_n:∀ (n:Nat) (f:Form),f.w≤n→f.w≤2 ^ 40→Tr (fun m=>zcS m f) (f.cnt:Int)∧f.cnt≤f.w:=by
 intro n
 induction n with
 | zero=>intro f h;have:=f.w_kids;omega
 | succ n ih =>
   intro f hn hb
   have hw:=f.w_kids
   have hc:f.cnt=1+Form.cnts f.kids:=by obtain ⟨a,b,c,d,e⟩:=f;rw [Form.cnt];rfl
   have hle:Form.cnts f.kids≤Form.ws f.kids:=by
    have:∀ l:List Form,(∀ x∈l,x∈f.kids)→Form.cnts l≤Form.ws l:=by
     intro l
     induction l with
     | nil=>intro _;rw [Form.cnts];omega
     | cons x l ihl =>
       intro hx
       have h1:=ihl (fun y hy=>hx y (by simp [hy]))
       have h2:=Form.ws_mem (hx x (by simp))
       have h3:=(ih x (by omega) (by omega)).2
       rw [Form.cnts,Form.ws];omega
    exact this _ (fun x hx=>hx)
   refine ⟨?_,by omega⟩
   rw [hc]
   refine Tr.step (fun m=>by rw [zcS]) ?_
   have key:=zak f.kids (fun k zs=>∀ g:Nat,g+Form.cnts zs=1+Form.cnts f.kids→Tr (fun m=>zbK m f (g:Int) (k:Int)) ((1+Form.cnts f.kids:Nat):Int)) ?_ ?_ 0 (Nat.zero_le _) 1 (by rw [List.drop_zero])
   ·exact key
   ·intro g hg
    rw [Form.cnts,Nat.add_zero] at hg
    rw [← hg]
    exact Tr.step (fun m=>by rw [zbK,z6,cond_false]) Tr.val
   ·intro k x zs hk hx hd ihk g hg
    have hm:=List.mem_of_getElem? hx
    have h2:=Form.ws_mem hm
    have h3:=ih x (by omega) (by omega)
    rw [Form.cnts] at hg
    refine Tr.step (fun m=>by rw [zbK,ltN hk,cond_true,zE hx,Option.bind_some]) (Tr.bind h3.1 ?_)
    refine Tr.eq (fun m=>by rw [zaG (by omega),zbp,show (g:Int)+(x.cnt:Int)=((g+x.cnt:Nat):Int) by simp]) (ihk (g+x.cnt) (by omega))
theorem FormSize_tr (f:Form) (h:f.w≤2 ^ 40):Tr (fun m=>zcS m f) (f.cnt:Int):=(FormSize_n _ f (Nat.le_refl _) h).1
end Go.Abs
end
section
set_option linter.unusedVariables false
set_option linter.unusedSimpArgs false
namespace Go.Abs
theorem PatS.kind {p:Form} (h:PatS p) (h1:¬ p.kind=1) (h2:¬ p.kind=2):p.kind=3:=by
 obtain ⟨d,hd⟩:=h.ok
 rw [Form.isOk_eq] at hd
 cases hd0:decide (d=0) with
 | true=>rw [hd0] at hd;cases hd
 | false =>
   rw [hd0,cond_false,decide_eq_false h1,cond_false,decide_eq_false h2,cond_false,Bool.and_eq_true,decide_eq_true_eq] at hd
   exact hd.1
theorem cnt_eq (f:Form):f.cnt=1+Form.cnts f.kids:=by obtain ⟨a,b,c,d,e⟩:=f;rw [Form.cnt];rfl
end Go.Abs
end
section
set_option linter.unusedVariables false
set_option linter.unusedSimpArgs false
namespace Go.Abs
theorem isOk_w:∀ (n:Nat) (f:Form),f.w≤n→∀ d,f.isOk d=true→f.w+1≤26*f.cnt:=by
 intro n
 induction n with
 | zero=>intro f h;have:=f.w_kids;omega
 | succ n ih =>
   intro f hn d hd
   have hw:=f.w_kids
   have hc:=cnt_eq f
   obtain ⟨k1,k2⟩:=zft hd
   have hsc:f.scopes.length≤24:=by
    rw [Form.isOk_eq] at hd
    cases hd0:decide (d=0) with
    | true=>rw [hd0] at hd;cases hd
    | false =>
    rw [hd0,cond_false] at hd
    by_cases h1:f.kind=1
    ·rw [decide_eq_true h1,cond_true] at hd
     unfold scOk at hd
     simp only [Bool.and_eq_true,decide_eq_true_eq] at hd
     omega
    ·rw [decide_eq_false h1,cond_false] at hd
     by_cases h2:f.kind=2
     ·rw [decide_eq_true h2,cond_true] at hd
      simp only [Bool.and_eq_true,decide_eq_true_eq] at hd
      omega
     ·rw [decide_eq_false h2,cond_false] at hd
      simp only [Bool.and_eq_true,decide_eq_true_eq] at hd
      omega
   have hk:Form.ws f.kids≤26*Form.cnts f.kids:=by
    have:∀ l:List Form,(∀ x∈l,x∈f.kids)→Form.ws l≤26*Form.cnts l:=by
     intro l
     induction l with
     | nil=>intro _;rw [Form.ws];omega
     | cons x l ihl =>
       intro hx
       have h1:=ihl (fun y hy=>hx y (by simp [hy]))
       have hm:=hx x (by simp)
       have h2:=Form.ws_mem hm
       have h3:=ih x (by omega) _ (k2 x hm)
       rw [Form.cnts,Form.ws];omega
    exact this _ (fun x hx=>hx)
   omega
theorem valid_w {f:Form} (h:f.valid=true):f.w≤10400:=by
 unfold Form.valid at h
 rw [Bool.and_eq_true,decide_eq_true_eq] at h
 have:=isOk_w _ f (Nat.le_refl _) 40 h.1
 omega
structure RulesF (rules:List Rule):Prop where
 fit:∀ r∈rules,r.fit
 pw:∀ r∈rules,r.pattern.w≤2 ^ 36
 tw:∀ r∈rules,r.template.w≤2 ^ 36
end Go.Abs
end
section
set_option linter.unusedVariables false
set_option linter.unusedSimpArgs false
namespace Go.Abs
noncomputable def zdx (x:Form) (h:Hit):Bool:=Form.part h.name x&&!decide (h.depth=0)
noncomputable def cntR (x:Form):Int→List Hit→Option Int
 | n,[]=>some n
 | n,h::hs=>bif zdx x h then (bif decide (0≤n)&&decide (n≠(h.many.length:Int)) then none else cntR x (h.many.length:Int) hs) else cntR x n hs
noncomputable def nthR (x:Form) (n:Nat) (hs:List Hit):List Hit:=hs.map fun h=>bif zdx x h then h.many.getD n hit0 else h
def rowF (D:Nat→Option Form):Nat→Nat→Option (List Form)
 | _,0=>some []
 | n,k+1=>match D n with
   | none=>none
   | some y=>match rowF D (n+1) k with
     | none=>none
     | some ys=>some (y::ys)
noncomputable def findO (hs:List Hit) (t:Form):Form:=bif decide (0≤hAt hs t) then (hs.getD (hAt hs t).toNat hit0).one else t
def fapp:Option (List Form)→Option (List Form)→Option (List Form)
 | some a,some b=>some (a++b)
 | _,_=>none
mutual
noncomputable def Form.fl:Form→List Hit→Option Form
 | .mk k nm n sc kids,hs=>bif decide (k=1) then some (findO hs (.mk k nm n sc kids))
   else match Form.fls kids hs with
    | none=>none
    | some ys=>bif decide (Form.cnts ys≤400) then some (.mk k nm n sc ys) else none
noncomputable def Form.fls:List Form→List Hit→Option (List Form)
 | [],_=>some []
 | x::xs,hs=>bif zK x then Form.fls xs hs
   else fapp (bif zbM xs then (match cntR x (-1) hs with
    | none=>none
    | some N=>rowF (fun i=>Form.fl x (nthR x i hs)) 0 N.toNat) else (match Form.fl x hs with
    | none=>none
    | some y=>some [y])) (Form.fls xs hs)
end
theorem Form.fl_eq (f:Form) (hs:List Hit):f.fl hs=bif decide (f.kind=1) then some (findO hs f)
  else match Form.fls f.kids hs with
   | none=>none
   | some ys=>bif decide (Form.cnts ys≤400) then some (.mk f.kind f.name f.n f.scopes ys) else none:=by
 obtain ⟨a,b,c,d,e⟩:=f;rw [Form.fl];rfl
theorem Form.fls_eq (x:Form) (xs:List Form) (hs:List Hit):Form.fls (x::xs) hs=bif zK x then Form.fls xs hs
  else fapp (bif zbM xs then (match cntR x (-1) hs with
   | none=>none
   | some N=>rowF (fun i=>Form.fl x (nthR x i hs)) 0 N.toNat) else (match Form.fl x hs with
   | none=>none
   | some y=>some [y])) (Form.fls xs hs):=by rw [Form.fls]
def DepR (l:List (Form × Int)) (v:Nat) (hs:List Hit) (x:Form):Prop:=∀ g,Form.part g x=true→(0 < dep l g-v∨0 < dep (nd hs) g)→dep (nd hs) g=dep l g-v
structure zgC (l:List (Form × Int)) (v:Nat) (hs:List Hit) (x:Form):Prop where
 hv:hvOk hs=true
 rws:x.rws l v=true
 ok:∃ d,x.isOk d=true
 R:DepR l v hs x
theorem part_self (x:Form):Form.part x x=true:=by rw [Form.part_eq,zgv,Bool.true_or]
theorem part_kid {g x f:Form} (hx:x∈f.kids) (h:Form.part g x=true):Form.part g f=true:=by
 rw [Form.part_eq,parts_mem hx h,Bool.or_true]
theorem kR_kid {l:List (Form × Int)} {v:Nat}:∀ {zs:List Form} {i:Nat} {x:Form},Form.kR l v zs=true→zs[i]?=some x→zK x=false→bif zbM (zs.drop (i+1)) then x.anyD l v=true∧x.rws l (v+1)=true else x.rws l v=true
 | y::ys,0,x,h,hx,hd=>by
   simp at hx;subst hx
   rw [Form.kR,Bool.and_eq_true,hd,cond_false] at h
   have h1:=h.1
   simp only [List.drop_succ_cons,List.drop_zero]
   cases hn:zbM ys with
   | true=>rw [hn,cond_true,Bool.and_eq_true] at h1;exact h1
   | false=>rw [hn,cond_false] at h1;exact h1
 | y::ys,i+1,x,h,hx,hd=>by
   rw [Form.kR,Bool.and_eq_true] at h
   have:=kR_kid (zs:=ys) (i:=i) (x:=x) h.2 (by simpa using hx) hd
   simpa using this
mutual
theorem anyD_ex {l:List (Form × Int)} {v:Int}:∀ f:Form,f.anyD l v=true→∃ g,Form.part g f=true∧v < dep l g
 | .mk a b c d e,h=>by
   rw [Form.anyD,Bool.or_eq_true] at h
   rcases h with h | h
   ·exact ⟨_,part_self _,of_decide_eq_true h⟩
   ·obtain ⟨g,h1,h2⟩:=anyDs_ex e h
    exact ⟨g,by rw [Form.part,h1,Bool.or_true],h2⟩
theorem anyDs_ex {l:List (Form × Int)} {v:Int}:∀ zs:List Form,Form.anyDs l v zs=true→∃ g,Form.parts g zs=true∧v < dep l g
 | [],h=>by rw [Form.anyDs] at h;cases h
 | x::xs,h=>by
   rw [Form.anyDs,Bool.or_eq_true] at h
   rcases h with h | h
   ·obtain ⟨g,h1,h2⟩:=anyD_ex x h
    exact ⟨g,by rw [Form.parts,h1,Bool.true_or],h2⟩
   ·obtain ⟨g,h1,h2⟩:=anyDs_ex xs h
    exact ⟨g,by rw [Form.parts,h1,Bool.or_true],h2⟩
end
theorem zhi {hs:List Hit} (h:hvOk hs=true):(∀ x∈hs,x.isOk=true)∧hs.length≤20:=by
 unfold hvOk at h
 rw [Bool.and_eq_true,decide_eq_true_eq] at h
 refine ⟨?_,by omega⟩
 have:∀ {l ps:List Hit},hvF ps l=true→∀ x∈l,x.isOk=true:=by
  intro l
  induction l with
  | nil=>intro ps _ x hx;cases hx
  | cons y ys ih =>
    intro ps hv x hx
    rw [hvF,Bool.and_eq_true,Bool.and_eq_true] at hv
    rcases List.mem_cons.1 hx with rfl | hx
    ·exact hv.1
    ·exact ih hv.2.2 x hx
 exact this h.1
theorem zhh {h:Hit} (hk:h.isOk=true):isNm h.name=true∧(0≤h.depth∧h.depth≤3)∧(h.depth=0→h.one.valid=true∧h.many=[])∧(h.depth≠0→h.many.length≤400∧∀ y∈h.many,y.name=h.name∧y.depth=h.depth-1∧y.isOk=true):=by
 rw [Hit.isOk_eq] at hk
 simp only [Bool.and_eq_true,decide_eq_true_eq] at hk
 obtain ⟨a,_,_,b,c⟩:=hk
 refine ⟨a,b,fun h0=>?_,fun h0=>?_⟩
 ·rw [decide_eq_true h0,cond_true,Bool.and_eq_true,decide_eq_true_eq] at c
  exact ⟨c.1,List.eq_nil_of_length_eq_zero (by omega)⟩
 ·rw [decide_eq_false h0,cond_false,Bool.and_eq_true,Bool.and_eq_true,decide_eq_true_eq] at c
  refine ⟨by omega,fun y hy=>?_⟩
  have:=zdT.1 c.2.2 y hy
  rw [Bool.and_eq_true,Bool.and_eq_true,decide_eq_true_eq] at this
  exact ⟨zfV.1 this.1,this.2.1,this.2.2⟩
theorem hv_name {hs:List Hit} (hv:hvOk hs=true) {h:Hit} (hm:h∈hs):dep (nd hs) h.name=h.depth:=by
 have hn:=(zhh ((zhi hv).1 h hm)).1
 unfold hvOk at hv
 rw [Bool.and_eq_true] at hv
 unfold isNm at hn
 rw [Bool.and_eq_true,decide_eq_true_eq] at hn
 unfold dep
 rw [decide_eq_false (by simp [hn.1]),cond_false]
 exact hv_dep hv.1 h hm
theorem depF_none {f:Form}:∀ {l:List Hit},(∀ h∈l,h.name≠f)→depF (nd l) f=-1
 | [],_=>rfl
 | x::xs,h=>by
   show depF ((x.name,x.depth)::nd xs) f=-1
   rw [depF,same_ne (h x (by simp)),cond_false,depF_none (fun y hy=>h y (by simp [hy]))]
theorem dep_cases {hs:List Hit} (hv:hvOk hs=true) (g:Form):(∃ h∈hs,h.name=g∧dep (nd hs) g=h.depth)∨((∀ h∈hs,h.name≠g)∧dep (nd hs) g=-1):=by
 by_cases hx:∃ h∈hs,h.name=g
 ·obtain ⟨h,hm,rfl⟩:=hx
  exact .inl ⟨h,hm,rfl,hv_name hv hm⟩
 ·have hn:∀ h∈hs,h.name≠g:=fun h hm he=>hx ⟨h,hm,he⟩
  refine .inr ⟨hn,?_⟩
  unfold dep
  cases decide (g.kind≠1) with
  | true=>rfl
  | false=>rw [cond_false];exact depF_none hn
theorem cntR_some {x:Form}:∀ {hs:List Hit} {n N:Int},cntR x n hs=some N→((N=n∧∀ h∈hs,zdx x h=true→False)∨(∃ h∈hs,zdx x h=true)∧∀ h∈hs,zdx x h=true→(h.many.length:Int)=N)∧(0≤n→N=n)
 | [],n,N,h=>by rw [cntR] at h;cases h;exact ⟨.inl ⟨rfl,fun h hh=>by cases hh⟩,fun _=>rfl⟩
 | y::ys,n,N,h=>by
   rw [cntR] at h
   cases hd:zdx x y with
   | false =>
     rw [hd,cond_false] at h
     obtain ⟨h1,h2⟩:=cntR_some h
     refine ⟨?_,h2⟩
     rcases h1 with ⟨e,h1⟩ | ⟨⟨z,hz,hzd⟩,h1⟩
     ·exact .inl ⟨e,fun w hw hwd=>by
       rcases List.mem_cons.1 hw with rfl | hw
       ·rw [hd] at hwd;cases hwd
       ·exact h1 w hw hwd⟩
     ·exact .inr ⟨⟨z,by simp [hz],hzd⟩,fun w hw hwd=>by
       rcases List.mem_cons.1 hw with rfl | hw
       ·rw [hd] at hwd;cases hwd
       ·exact h1 w hw hwd⟩
   | true =>
     rw [hd,cond_true] at h
     cases hc:(decide (0≤n)&&decide (n≠(y.many.length:Int))) with
     | true=>rw [hc,cond_true] at h;cases h
     | false =>
       rw [hc,cond_false] at h
       obtain ⟨h1,h2⟩:=cntR_some h
       have hN:=h2 (by omega)
       refine ⟨.inr ⟨⟨y,by simp,hd⟩,fun w hw hwd=>?_⟩,fun h0=>?_⟩
       ·rcases List.mem_cons.1 hw with rfl | hw
        ·exact hN.symm
        ·rcases h1 with ⟨_,h1⟩ | ⟨_,h1⟩
         ·exact (h1 w hw hwd).elim
         ·exact h1 w hw hwd
       ·rw [hN]
        rw [Bool.and_eq_false_iff] at hc
        rcases hc with hc | hc
        ·exact absurd h0 (of_decide_eq_false hc)
        ·have:=of_decide_eq_false hc;omega
theorem zgC.kid {l:List (Form × Int)} {v:Nat} {hs:List Hit} {f x:Form} (hF:zgC l v hs f) {i:Nat} (hx:f.kids[i]?=some x) (hd:zK x=false) (hn:zbM (f.kids.drop (i+1))=false):zgC l v hs x:=by
 have hm:=List.mem_of_getElem? hx
 have hr:=hF.rws
 rw [Form.rws_eq,Bool.and_eq_true] at hr
 have:=kR_kid hr.2 hx hd
 rw [hn,cond_false] at this
 obtain ⟨d,hok⟩:=hF.ok
 exact ⟨hF.hv,this,⟨_,(zft hok).2 x hm⟩,fun g hg=>hF.R g (part_kid hm hg)⟩
theorem many_mem {h:Hit} {n:Nat} (hn:n < h.many.length):h.many.getD n hit0∈h.many:=by
 rw [List.getD_eq_getElem?_getD,List.getElem?_eq_getElem hn];exact List.getElem_mem hn
theorem nthR_names {x:Form} {n:Nat}:∀ {hs:List Hit},(∀ h∈hs,h.isOk=true)→(∀ h∈hs,zdx x h=true→n < h.many.length)→(nthR x n hs).map Hit.name=hs.map Hit.name
 | [],_,_=>rfl
 | h::hs,hk,hn=>by
   have ih:=nthR_names (x:=x) (n:=n) (hs:=hs) (fun y hy=>hk y (by simp [hy])) (fun y hy=>hn y (by simp [hy]))
   show (bif zdx x h then h.many.getD n hit0 else h).name::(nthR x n hs).map Hit.name=h.name::hs.map Hit.name
   rw [ih]
   cases hd:zdx x h with
   | false=>rfl
   | true =>
     rw [cond_true]
     have h0:h.depth≠0:=by
      unfold zdx at hd
      rw [Bool.and_eq_true,Bool.not_eq_true',decide_eq_false_iff_not] at hd
      exact hd.2
     rw [(((zhh (hk h (by simp))).2.2.2 h0).2 _ (many_mem (hn h (by simp) hd))).1]
theorem hvF_dist:∀ {l ps:List Hit},hvF ps l=true→distF (ps.map Hit.name) (l.map Hit.name)=true
 | [],ps,_=>rfl
 | x::xs,ps,h=>by
   rw [hvF,Bool.and_eq_true,Bool.and_eq_true] at h
   have ih:=hvF_dist h.2.2
   rw [List.map_append] at ih
   rw [List.map_cons,distF]
   have h1:inF (ps.map Hit.name) x.name=false:=by
    unfold inF
    rw [zdT.2 (fun y hy=>?_)]
    ·rfl
    ·obtain ⟨z,hz,rfl⟩:=List.mem_map.1 hy
     exact zdT.1 h.2.1 z hz
   rw [h1];simpa using ih
theorem nthR_hv {x:Form} {n:Nat} {hs:List Hit} (hv:hvOk hs=true) (hn:∀ h∈hs,zdx x h=true→n < h.many.length):hvOk (nthR x n hs)=true:=by
 obtain ⟨h1,h2⟩:=zhi hv
 have hnm:=nthR_names h1 hn
 unfold hvOk at hv ⊢
 rw [Bool.and_eq_true] at hv ⊢
 refine ⟨hvF_of (fun y hy=>?_) ?_,?_⟩
 ·obtain ⟨h,hm,rfl⟩:=List.mem_map.1 hy
  cases hd:zdx x h with
  | false=>exact h1 h hm
  | true =>
    rw [cond_true]
    have h0:h.depth≠0:=by
     unfold zdx at hd
     rw [Bool.and_eq_true,Bool.not_eq_true',decide_eq_false_iff_not] at hd
     exact hd.2
    exact (((zhh (h1 h hm)).2.2.2 h0).2 _ (many_mem (hn h hm hd))).2.2
 ·rw [hnm];exact hvF_dist hv.1
 ·have:(nthR x n hs).length=hs.length:=by unfold nthR;rw [List.length_map]
  rw [this];exact hv.2
theorem zgC.row {l:List (Form × Int)} {v:Nat} {hs:List Hit} {f x:Form} (hF:zgC l v hs f) {i:Nat} (hx:f.kids[i]?=some x) (hd:zK x=false) (hn:zbM (f.kids.drop (i+1))=true) :
  (∃ h∈hs,zdx x h=true)∧∀ n,(∀ h∈hs,zdx x h=true→n < h.many.length)→zgC l (v+1) (nthR x n hs) x:=by
 have hm:=List.mem_of_getElem? hx
 have hr:=hF.rws
 rw [Form.rws_eq,Bool.and_eq_true] at hr
 have hk:=kR_kid hr.2 hx hd
 rw [hn,cond_true] at hk
 obtain ⟨d,hok⟩:=hF.ok
 refine ⟨?_,fun n hlen=>⟨nthR_hv hF.hv hlen,hk.2,⟨_,(zft hok).2 x hm⟩,fun g hg hpos=>?_⟩⟩
 ·obtain ⟨g,h1,h2⟩:=anyD_ex x hk.1
  have hR:=hF.R g (part_kid hm h1) (.inl (by omega))
  rcases dep_cases hF.hv g with ⟨h,hmem,rfl,he⟩ | ⟨_,he⟩
  ·refine ⟨h,hmem,?_⟩
   unfold zdx
   rw [h1,Bool.true_and,decide_eq_false (by omega)];rfl
  ·omega
 ·have hR:=hF.R g (part_kid hm hg)
  rcases dep_cases hF.hv g with ⟨h,hmem,rfl,he⟩ | ⟨hno,he⟩
  ·have hin:(bif zdx x h then h.many.getD n hit0 else h)∈nthR x n hs:=List.mem_map.2 ⟨h,hmem,rfl⟩
   have hok:=zhh ((zhi hF.hv).1 h hmem)
   by_cases h0:h.depth=0
   ·have hdp:zdx x h=false:=by unfold zdx;rw [decide_eq_true h0];simp
    rw [hdp,cond_false] at hin
    have:=hv_name (nthR_hv hF.hv hlen) hin
    rcases hpos with hp | hp
    ·have:=hR (.inl (by omega));omega
    ·omega
   ·have hdp:zdx x h=true:=by unfold zdx;rw [hg,decide_eq_false h0];rfl
    rw [hdp,cond_true] at hin
    have hnm:=(hok.2.2.2 h0).2 _ (many_mem (hlen h hmem hdp))
    have h2:=hv_name (nthR_hv hF.hv hlen) hin
    rw [hnm.1,hnm.2.1] at h2
    have:=hR (.inr (by have:=hok.2.1.1;omega))
    rw [h2];omega
  ·have h2:dep (nd (nthR x n hs)) g=-1:=by
    rcases dep_cases (nthR_hv hF.hv hlen) g with ⟨h',hmem',hnm',_⟩ | ⟨_,he'⟩
    ·have:h'.name∈(nthR x n hs).map Hit.name:=List.mem_map.2 ⟨h',hmem',rfl⟩
     rw [nthR_names (zhi hF.hv).1 hlen] at this
     obtain ⟨h,hmem,hnm⟩:=List.mem_map.1 this
     exact absurd (hnm.trans hnm') (hno h hmem)
    ·exact he'
   rcases hpos with hp | hp
   ·have:=hR (.inl (by omega));omega
   ·omega
theorem zgC.leaf {l:List (Form × Int)} {v:Nat} {hs:List Hit} {x:Form} (hF:zgC l v hs x):hAt hs x=-1∨∃ i h,hAt hs x=((i:Nat):Int)∧hs[i]?=some h∧h.depth=0∧h.one.valid=true:=by
 rcases fnd_at (D:=fun y:Hit=>same y.name x) (l:=hs) (k:=0) with ⟨h1,_⟩ | ⟨i,h,h1,h2,h3,_⟩
 ·exact .inl h1
 ·have hm:=List.mem_of_getElem? h2
  have hn:h.name=x:=zfV.1 h3
  have hok:=zhh ((zhi hF.hv).1 h hm)
  have hd:=hv_name hF.hv hm
  rw [hn] at hd
  have hr:=hF.rws
  rw [Form.rws_eq,Bool.and_eq_true,Bool.not_eq_true',decide_eq_false_iff_not] at hr
  have h0:h.depth=0:=by
   by_cases hp:0 < h.depth
   ·have:=hF.R x (part_self x) (.inr (by omega));omega
   ·have:=hok.2.1.1;omega
  exact .inr ⟨i,h,by unfold hAt;rw [h1,Nat.zero_add],h2,h0,(hok.2.2.1 h0).1⟩
structure FormF (y:Form):Prop where
 ok:∃ d,y.isOk d=true
 cnt:y.cnt≤401
theorem FormF.w {y:Form} (h:FormF y):y.w≤10426:=by
 obtain ⟨d,hd⟩:=h.ok
 have:=isOk_w _ y (Nat.le_refl _) d hd
 have:=h.cnt;omega
theorem all_isOk:∀ {l:List Form},(∀ y∈l,∃ d,y.isOk d=true)→∃ D,∀ y∈l,y.isOk D=true
 | [],_=>⟨0,fun y hy=>by cases hy⟩
 | x::xs,h=>by
   obtain ⟨D,hD⟩:=all_isOk (l:=xs) (fun y hy=>h y (by simp [hy]))
   obtain ⟨d,hd⟩:=h x (by simp)
   refine ⟨D+d,fun y hy=>?_⟩
   rcases List.mem_cons.1 hy with rfl | hy
   ·exact isOk_mono _ y (Nat.le_refl _) d _ (by omega) hd
   ·exact isOk_mono _ y (Nat.le_refl _) D _ (by omega) (hD y hy)
theorem isOk_node {f:Form} {d:Nat} (h:f.isOk d=true) (h1:¬ f.kind=1) {ys:List Form} (hk:f.kind=3∨ys=[]) {D:Nat} (hD:∀ y∈ys,y.isOk D=true):f.name=(⟨#[]⟩:ByteArray)∧f.scopes=[]∧(Form.mk f.kind f.name f.n f.scopes ys).isOk (D+1)=true:=by
 rw [Form.isOk_eq] at h
 cases hd0:decide (d=0) with
 | true=>rw [hd0] at h;cases h
 | false =>
 rw [hd0,cond_false,decide_eq_false h1,cond_false] at h
 have hd1:decide (D+1=0)=false:=decide_eq_false (by omega)
 generalize f.kind=k at h h1 hk ⊢
 generalize f.name=nm at h ⊢
 generalize f.n=n at h ⊢
 generalize f.scopes=sc at h ⊢
 rw [Form.isOk,Form.isOks_eq,hd1,cond_false,decide_eq_false h1,cond_false]
 by_cases h2:k=2
 ·rw [decide_eq_true h2,cond_true] at h ⊢
  simp only [Bool.and_eq_true,decide_eq_true_eq] at h ⊢
  obtain ⟨a,b,c,e⟩:=h
  have hy:ys=[]:=by
   rcases hk with hk | hk
   ·omega
   ·exact hk
  subst hy
  exact ⟨a,List.eq_nil_of_length_eq_zero (by omega),a,b,c,by simp⟩
 ·rw [decide_eq_false h2,cond_false] at h ⊢
  simp only [Bool.and_eq_true,decide_eq_true_eq] at h ⊢
  obtain ⟨a,b,c,e,g⟩:=h
  exact ⟨b,List.eq_nil_of_length_eq_zero (by omega),a,b,c,e,zdT.2 (fun y hy=>hD y hy)⟩
end Go.Abs
end
section
set_option linter.unusedVariables false
set_option linter.unusedSimpArgs false
namespace Go.Abs
theorem fapp_some {a b:Option (List Form)} {r:List Form} (h:fapp a b=some r):∃ x y,a=some x∧b=some y∧r=x++y:=by
 cases a<;>cases b<;>simp [fapp] at h
 exact ⟨_,_,rfl,rfl,h.symm⟩
theorem rowF_mem {D:Nat→Option Form}:∀ {k n:Nat} {r:List Form},rowF D n k=some r→∀ y∈r,∃ i,n≤i∧i < n+k∧D i=some y
 | 0,n,r,h,y,hy=>by rw [rowF] at h;cases h;cases hy
 | k+1,n,r,h,y,hy=>by
   rw [rowF] at h
   cases hd:D n with
   | none=>simp [hd] at h
   | some z =>
     cases hr:rowF D (n+1) k with
     | none=>simp [hd,hr] at h
     | some ys =>
       simp [hd,hr] at h;subst h
       rcases List.mem_cons.1 hy with rfl | hy
       ·exact ⟨n,Nat.le_refl _,by omega,hd⟩
       ·obtain ⟨i,h1,h2,h3⟩:=rowF_mem hr y hy
        exact ⟨i,by omega,by omega,h3⟩
theorem cntR_lt {x:Form} {hs:List Hit} {N:Int} (hv:hvOk hs=true) (hne:∃ h∈hs,zdx x h=true) (h:cntR x (-1) hs=some N):0≤N∧N≤400∧∀ h∈hs,zdx x h=true→h.many.length=N.toNat:=by
 obtain ⟨h1,_⟩:=cntR_some h
 rcases h1 with ⟨_,h1⟩ | ⟨⟨y,hy,hyd⟩,h1⟩
 ·obtain ⟨y,hy,hyd⟩:=hne;exact (h1 y hy hyd).elim
 ·have e:=h1 y hy hyd
  have h0:y.depth≠0:=by
   unfold zdx at hyd
   rw [Bool.and_eq_true,Bool.not_eq_true',decide_eq_false_iff_not] at hyd
   exact hyd.2
  have:=((zhh ((zhi hv).1 y hy)).2.2.2 h0).1
  exact ⟨by omega,by omega,fun z hz hzd=>by have:=h1 z hz hzd;omega⟩
theorem fls_ok_of {l:List (Form × Int)} {v:Nat} {hs:List Hit} {f:Form} (hF:zgC l v hs f) (ih:∀ x∈f.kids,∀ v' hs',zgC l v' hs' x→∀ y,x.fl hs'=some y→FormF y):∀ (rest:List Form) (k:Nat) (r:List Form),f.kids.drop k=rest→Form.fls rest hs=some r→∀ y∈r,FormF y
 | [],k,r,hd,h,y,hy=>by rw [Form.fls] at h;cases h;cases hy
 | x::xs,k,r,hd,h,y,hy=>by
   obtain ⟨hx,hd2,hlt⟩:=drop_cons' hd
   have hm:=List.mem_of_getElem? hx
   rw [Form.fls_eq] at h
   cases hdx:zK x with
   | true=>rw [hdx,cond_true] at h;exact fls_ok_of hF ih xs (k+1) r hd2 h y hy
   | false =>
     rw [hdx,cond_false] at h
     obtain ⟨a,b,ha,hb,rfl⟩:=fapp_some h
     rcases List.mem_append.1 hy with hy | hy
     ·cases hn:zbM xs with
      | false =>
        rw [hn,cond_false] at ha
        cases hf:x.fl hs with
        | none=>rw [hf] at ha;cases ha
        | some z =>
          rw [hf] at ha;cases ha
          rw [List.mem_singleton] at hy;subst hy
          exact ih x hm v hs (hF.kid hx hdx (by rw [hd2];exact hn)) _ hf
      | true =>
        rw [hn,cond_true] at ha
        obtain ⟨r1,r2⟩:=hF.row hx hdx (by rw [hd2];exact hn)
        cases hc:cntR x (-1) hs with
        | none=>rw [hc] at ha;cases ha
        | some N =>
          rw [hc] at ha
          obtain ⟨c0,c1,c2⟩:=cntR_lt hF.hv r1 hc
          obtain ⟨i,_,i2,i3⟩:=rowF_mem ha y hy
          exact ih x hm (v+1) _ (r2 i (fun h hh hdp=>by rw [c2 h hh hdp];omega)) _ i3
     ·exact fls_ok_of hF ih xs (k+1) b hd2 hb y hy
theorem fl_ok_n (l:List (Form × Int)):∀ (n:Nat) (f:Form),f.w≤n→∀ v hs,zgC l v hs f→∀ y,f.fl hs=some y→FormF y:=by
 intro n
 induction n with
 | zero=>intro f h;have:=f.w_kids;omega
 | succ n ih =>
   intro f hn v hs hF y hy
   have hw:=f.w_kids
   rw [Form.fl_eq] at hy
   obtain ⟨d,hok⟩:=hF.ok
   by_cases h1:f.kind=1
   ·rw [decide_eq_true h1,cond_true] at hy
    cases hy
    unfold findO
    rcases hF.leaf with hl | ⟨i,h,hl,hi,h0,hv⟩
    ·rw [hl,decide_eq_false (by omega),cond_false]
     refine ⟨⟨d,hok⟩,?_⟩
     rw [cnt_eq,(zft hok).1 (by omega),Form.cnts];omega
    ·rw [hl,decide_eq_true (by omega),cond_true,Int.toNat_natCast,List.getD_eq_getElem?_getD,hi,Option.getD_some]
     unfold Form.valid at hv
     rw [Bool.and_eq_true,decide_eq_true_eq] at hv
     exact ⟨⟨40,hv.1⟩,by omega⟩
   ·rw [decide_eq_false h1,cond_false] at hy
    cases hf:Form.fls f.kids hs with
    | none=>simp [hf] at hy
    | some ys =>
      rw [hf] at hy
      simp only at hy
      cases hc:decide (Form.cnts ys≤400) with
      | false=>rw [hc] at hy;cases hy
      | true =>
        rw [hc,cond_true] at hy
        cases hy
        have hall:=fls_ok_of hF (fun x hx v' hs' hF' y hy=>ih x (by have:=Form.ws_mem hx;omega) v' hs' hF' y hy) f.kids 0 ys (by rw [List.drop_zero]) hf
        obtain ⟨D,hD⟩:=all_isOk (fun y hy=>(hall y hy).ok)
        have hk3:f.kind=3∨ys=[]:=by
         by_cases h3:f.kind=3
         ·exact .inl h3
         ·rw [(zft hok).1 h3,Form.fls] at hf;cases hf;exact .inr rfl
        refine ⟨⟨D+1,(isOk_node hok h1 hk3 hD).2.2⟩,?_⟩
        have:=of_decide_eq_true hc
        rw [Form.cnt];omega
theorem fl_ok {l:List (Form × Int)} {v:Nat} {hs:List Hit} {f y:Form} (hF:zgC l v hs f) (h:f.fl hs=some y):FormF y:=fl_ok_n l _ f (Nat.le_refl _) v hs hF y h
theorem eachFill_n (h:Hit):∀ (n:Nat) (f:Form) (b:Bool),f.w≤n→Tr (fun m=>zaU m f b h) (b||Form.part h.name f):=by
 intro n
 induction n with
 | zero=>intro f b h;have:=f.w_kids;omega
 | succ n ih =>
   intro f b hn
   have hw:=f.w_kids
   rw [Form.part_eq]
   refine Tr.step (fun m=>by rw [zaU]) (Tr.bind (v:=b||same f h.name) ?_ ?_)
   ·refine Tr.eq (fun m=>by unfold zgT;rfl) ?_
    cases b with
    | true=>exact Tr.tt rfl Tr.val
    | false=>exact Tr.ff rfl (Tr.bind (zch _ _) Tr.val)
   ·have key:=zak f.kids (fun k zs=>∀ b:Bool,Tr (fun m=>zaD m f h (k:Int) b) (b||Form.parts h.name zs)) ?_ ?_ 0 (Nat.zero_le _) (b||same f h.name)
    ·rw [← Bool.or_assoc];simpa using key
    ·intro b;exact Tr.step (fun m=>by rw [zaD,z6,cond_false,Form.parts,Bool.or_false]) Tr.val
    ·intro k x zs hk hx hd ihk b
     have hm:=Form.ws_mem (List.mem_of_getElem? hx)
     refine Tr.step (fun m=>by rw [zaD,ltN hk,cond_true,zE hx,Option.bind_some,zbp]) (Tr.bind (ih x b (by omega)) ?_)
     rw [Form.parts,← Bool.or_assoc]
     exact ihk _
theorem eachFill_tr (h:Hit) (f:Form):Tr (fun m=>zaU m f false h) (Form.part h.name f):=by
 have:=eachFill_n h _ f false (Nat.le_refl _);rwa [Bool.false_or] at this
noncomputable def deepI (x:Form):List Hit→Nat→List Int
 | [],_=>[]
 | h::hs,k=>(bif zdx x h then [(k:Int)] else [])++deepI x hs (k+1)
section
variable {f:Form} {hs:List Hit}
abbrev outF (f:Form) (acc:List Form):Form:=Form.mk f.kind (⟨#[]⟩:ByteArray) f.n ([]:List Int) acc
def resI (f:Form) (acc:List Form):Option (List Form)→Form × Bool
 | some ys=>bif decide (Form.cnts (acc++ys)≤400) then (outF f (acc++ys),true) else (zbQ,false)
 | none=>(zbQ,false)
theorem resI_some {acc ys:List Form}:resI f acc (some ys)=bif decide (Form.cnts (acc++ys)≤400) then (outF f (acc++ys),true) else (zbQ,false):=rfl
theorem resI_none {acc:List Form} {o:Option (List Form)}:resI f acc (fapp none o)=(zbQ,false):=by cases o<;>rfl
theorem resI_app {acc a:List Form} {o:Option (List Form)}:resI f acc (fapp (some a) o)=resI f (acc++a) o:=by
 cases o with
 | none=>rfl
 | some b=>unfold resI fapp;simp only [List.append_assoc]
theorem resI_big {acc:List Form} {o:Option (List Form)} (h:400 < Form.cnts acc):resI f acc o=(zbQ,false):=by
 cases o with
 | none=>rfl
 | some ys =>
   have h2:¬ Form.cnts (acc++ys)≤400:=by rw [zg6];omega
   rw [resI_some,decide_eq_false h2];rfl
theorem put_tr {x:Form} {hs':List Hit} (hb:Tr (fun m=>zdS m x hs') (match x.fl hs' with
  | some y=>(y,true)
  | none=>(zbQ,false))) (hy:∀ y,x.fl hs'=some y→FormF y) {acc:List Form} (ha:Form.cnts acc≤400) :
  Tr (fun m=>zdK m x hs' (Form.cnts acc:Int) (outF f acc)) (match x.fl hs' with
   | some y=>(decide (Form.cnts (acc++[y])≤400),(Form.cnts (acc++[y]):Int),outF f (acc++[y]))
   | none=>(false,(Form.cnts acc:Int),outF f acc)):=by
 have hl:=cnts_len acc
 cases hx:x.fl hs' with
 | none =>
   rw [hx] at hb
   exact Tr.step (fun m=>by rw [zdK]) (Tr.bind hb (Tr.eq (fun m=>rfl) Tr.val))
 | some y =>
   rw [hx] at hb
   have hF:=hy y hx
   have hyw:=hF.w
   have hyc:=hF.cnt
   have hcs:Form.cnts (acc++[y])=Form.cnts acc+y.cnt:=by rw [zg6,Form.cnts,Form.cnts,Nat.add_zero]
   refine Tr.step (fun m=>by rw [zdK]) (Tr.bind hb ?_)
   dsimp only
   refine Tr.eq (fun m=>by rw [Bool.not_true,cond_false]) (Tr.bind (FormSize_tr y (by omega)) (Tr.chk (decide_eq_true (show (acc.length+1)*80≤140737488355328 by omega)) ?_))
   refine Tr.eq (fun m=>by rw [idx_last,Option.bind_some,zaG (by omega),set_end]) ?_
   have e1:(Form.cnts acc:Int)+(y.cnt:Int)=((Form.cnts (acc++[y]):Nat):Int):=by rw [hcs];simp
   rw [e1]
   have e2:decide (((Form.cnts (acc++[y]):Nat):Int)≤400)=decide (Form.cnts (acc++[y])≤400):=by
    rw [Bool.eq_iff_iff,decide_eq_true_iff,decide_eq_true_iff];omega
   rw [e2];exact Tr.val
theorem fill_l9_tr (g7:Int) (x:Form) (g45:Int) (n:Nat) (acc:List Form) (g54:Int) {v:Form × Bool} (hlen:∀ h∈hs,zdx x h=true→n < h.many.length)
  (hK:Tr (fun m=>zeG m f hs g7 x g45 (deepI x hs 0) (n:Int) f.kind (⟨#[]⟩:ByteArray) f.n ([]:List Int) acc g54 (nthR x n hs)) v) :
  Tr (fun m=>zcJ m f hs g7 x g45 (deepI x hs 0) (n:Int) f.kind (⟨#[]⟩:ByteArray) f.n ([]:List Int) acc g54 0 hs) v:=by
 have key:∀ (zs pre:List Hit),hs=pre++zs→∀ p:Nat,p+(deepI x zs pre.length).length=(deepI x hs 0).length→(deepI x hs 0).drop p=deepI x zs pre.length →
   Tr (fun m=>zcJ m f hs g7 x g45 (deepI x hs 0) (n:Int) f.kind (⟨#[]⟩:ByteArray) f.n ([]:List Int) acc g54 (p:Int) (nthR x n pre++zs)) v:=by
  intro zs
  induction zs with
  | nil =>
    intro pre he p hp hd
    rw [deepI,List.length_nil,Nat.add_zero] at hp
    rw [List.append_nil] at he
    subst he
    rw [List.append_nil]
    exact Tr.step (fun m=>by rw [zcJ,hp,z6,cond_false]) hK
  | cons h zs ih =>
    intro pre he p hp hd
    have hgo:hs=(pre++[h])++zs:=by rw [he];simp
    have hnp:(nthR x n pre).length=pre.length:=by unfold nthR;rw [List.length_map]
    rw [deepI] at hp hd
    cases hb:zdx x h with
    | false =>
      rw [hb,cond_false,List.nil_append] at hp hd
      have:=ih (pre++[h]) hgo p (by simpa using hp) (by simpa using hd)
      have e:nthR x n (pre++[h])++zs=nthR x n pre++h::zs:=by unfold nthR;simp [hb]
      rw [e] at this;exact this
    | true =>
      rw [hb,cond_true,List.singleton_append] at hp hd
      obtain ⟨q1,q2,q3⟩:=drop_cons' hd
      have hhs:hs[pre.length]?=some h:=by rw [he];simp
      have hm:=List.mem_of_getElem? hhs
      have hn:=hlen h hm hb
      have hmn:h.many[n]?=some (h.many.getD n hit0):=by rw [List.getD_eq_getElem?_getD,List.getElem?_eq_getElem hn];rfl
      have hcur:(nthR x n pre++h::zs)[pre.length]?=some h:=by rw [List.getElem?_append_right (by omega),hnp,Nat.sub_self];rfl
      refine Tr.step (fun m=>by rw [zcJ,ltN q3,cond_true,zE q1,Option.bind_some,zE hhs,Option.bind_some,zE hmn,Option.bind_some,zE hcur,Option.bind_some,zbp]) ?_
      have:=ih (pre++[h]) hgo (p+1) (by simp at hp ⊢;omega) (by simpa using q2)
      have e:nthR x n (pre++[h])++zs=(nthR x n pre++h::zs).set (pre.length:Int).toNat (h.many.getD n hit0):=by
       rw [Int.toNat_natCast,List.set_append_right _ _ (by omega),hnp,Nat.sub_self,List.set_cons_zero]
       unfold nthR;simp [hb]
      rw [e] at this;exact this
 have:=key hs [] rfl 0 (by simp) (by simp)
 simpa [nthR] using this
theorem fill_l7_tr {l:List (Form × Int)} {vv:Nat} (k:Nat) (x:Form) (hk:k < 2 ^ 40) (N:Nat) (hN:N≤400) (hsl:hs.length≤20) (hlen:∀ h∈hs,zdx x h=true→h.many.length=N)
  (hb:∀ i,i < N→Tr (fun m=>zdS m x (nthR x i hs)) (match x.fl (nthR x i hs) with
   | some y=>(y,true)
   | none=>(zbQ,false))) (hF:∀ i,i < N→zgC l vv (nthR x i hs) x) {o:Option (List Form)}
  (hK:∀ acc,Form.cnts acc≤400→Tr (fun m=>zbO m f hs ((k+1:Nat):Int) f.kind (⟨#[]⟩:ByteArray) f.n ([]:List Int) acc (Form.cnts acc:Int)) (resI f acc o)) :
  ∀ (j n:Nat),n+j=N→∀ acc,Form.cnts acc≤400→Tr (fun m=>zdi m f hs (k:Int) x (N:Int) (deepI x hs 0) (n:Int) f.kind (⟨#[]⟩:ByteArray) f.n ([]:List Int) acc (Form.cnts acc:Int)) (resI f acc (fapp (rowF (fun i=>x.fl (nthR x i hs)) n j) o)):=by
 intro j
 induction j with
 | zero =>
   intro n hn acc ha
   have:n=N:=by omega
   subst this
   rw [rowF,resI_app,List.append_nil]
   exact Tr.step (fun m=>by rw [zdi,z6,cond_false,zaG (by omega),zbp]) (hK acc ha)
 | succ j ih =>
   intro n hn acc ha
   have hnN:n < N:=by omega
   refine Tr.step (fun m=>by rw [zdi,ltN hnN,cond_true]) ?_
   refine Tr.bind (v:=hs) (Tr.eq (fun m=>by unfold zeN;rfl) (Tr.chk (decide_eq_true (by simp;omega)) Tr.val)) ?_
   refine fill_l9_tr (k:Int) x (N:Int) n acc (Form.cnts acc:Int) (fun h hh hd=>by rw [hlen h hh hd];exact hnN) ?_
   refine Tr.step (fun m=>by rw [zeG]) (Tr.bind (put_tr (hb n hnN) (fun y hy=>fl_ok (hF n hnN) hy) ha) ?_)
   cases hx:x.fl (nthR x n hs) with
   | none =>
     have e:rowF (fun i=>x.fl (nthR x i hs)) n (j+1)=none:=by rw [rowF];simp only [hx]
     rw [e,resI_none];exact Tr.tt rfl Tr.val
   | some y =>
     have e:resI f acc (fapp (rowF (fun i=>x.fl (nthR x i hs)) n (j+1)) o)=resI f (acc++[y]) (fapp (rowF (fun i=>x.fl (nthR x i hs)) (n+1) j) o):=by
      rw [rowF]
      simp only [hx]
      cases rowF (fun i=>x.fl (nthR x i hs)) (n+1) j with
      | none=>simp only [resI_none]
      | some ys=>simp only [resI_app,List.append_assoc,List.singleton_append]
     rw [e]
     dsimp only
     by_cases hc:Form.cnts (acc++[y])≤400
     ·rw [decide_eq_true hc]
      refine Tr.ff rfl (Tr.eq (fun m=>by rw [zaG (by omega),zbp];rfl) (ih (n+1) (by omega) (acc++[y]) hc))
     ·rw [decide_eq_false hc,resI_big (by omega)]
      exact Tr.tt rfl Tr.val
theorem fill_l4_tr (k:Nat) (x:Form) (acc:List Form) (hsl:hs.length≤20) (hok:∀ h∈hs,h.isOk=true) {v:Form × Bool} (R:Int→Form × Bool)
  (hK:∀ N:Int,cntR x (-1) hs=some N→Tr (fun m=>zeH m f hs (k:Int) f.kind (⟨#[]⟩:ByteArray) f.n ([]:List Int) acc (Form.cnts acc:Int) x N (deepI x hs 0)) (R N)) :
  Tr (fun m=>zb9 m f hs (k:Int) f.kind (⟨#[]⟩:ByteArray) f.n ([]:List Int) acc (Form.cnts acc:Int) x 0 ([]:List Int) (-1)) (match cntR x (-1) hs with
   | none=>(zbQ,false)
   | some N=>R N):=by
 have key:=zak hs (fun j zs=>∀ (ds:List Int) (n:Int),ds++deepI x zs j=deepI x hs 0→cntR x n zs=cntR x (-1) hs→ds.length≤j→Tr (fun m=>zb9 m f hs (k:Int) f.kind (⟨#[]⟩:ByteArray) f.n ([]:List Int) acc (Form.cnts acc:Int) x (j:Int) ds n) (match cntR x (-1) hs with
   | none=>(zbQ,false)
   | some N=>R N)) ?_ ?_ 0 (Nat.zero_le _) [] (-1) (by simp) (by simp) (Nat.le_refl _)
 ·exact key
 ·intro ds n h1 h2 _
  rw [deepI,List.append_nil] at h1
  rw [cntR] at h2
  have hk:=hK n h2.symm
  rw [← h2,h1]
  exact Tr.step (fun m=>by rw [zb9,z6,cond_false]) hk
 ·intro j h zs hj hx hd ih ds n h1 h2 hl
  have hm:=List.mem_of_getElem? hx
  refine Tr.step (fun m=>by rw [zb9,ltN hj,cond_true,zE hx,Option.bind_some]) (Tr.bind (eachFill_tr h x) ?_)
  rw [deepI] at h1
  rw [cntR] at h2
  have e:Tr (fun m=>zdk m f hs (k:Int) f.kind (⟨#[]⟩:ByteArray) f.n ([]:List Int) acc (Form.cnts acc:Int) x (j:Int) ds n h (!zdx x h)) (match cntR x (-1) hs with
   | none=>(zbQ,false)
   | some N=>R N):=by
   cases hb:zdx x h with
   | false =>
     rw [hb,cond_false,List.nil_append] at h1
     rw [hb,cond_false] at h2
     exact Tr.step (fun m=>by rw [zdk,Bool.not_false,cond_true,zbp]) (ih ds n h1 h2 (by omega))
   | true =>
     rw [hb,cond_true] at h1 h2
     refine Tr.step (fun m=>by rw [zdk,Bool.not_true,cond_false]) (Tr.chk (decide_eq_true (by simp;omega)) ?_)
     have j6:∀ b:Bool,(decide (0≤n)&&decide (n≠(h.many.length:Int)))=b→Tr (fun m=>zdj m f hs (k:Int) f.kind (⟨#[]⟩:ByteArray) f.n ([]:List Int) acc (Form.cnts acc:Int) x (j:Int) ds h b) (match cntR x (-1) hs with
      | none=>(zbQ,false)
      | some N=>R N):=by
      intro b hbb
      rw [hbb] at h2
      cases b with
      | true =>
        rw [cond_true] at h2
        rw [← h2]
        exact Tr.step (fun m=>by rw [zdj,cond_true]) Tr.val
      | false =>
        rw [cond_false] at h2
        exact Tr.step (fun m=>by rw [zdj,cond_false,zbp]) (ih (ds++[(j:Int)]) _ (by rw [List.append_assoc];exact h1) h2 (by simp;omega))
     by_cases hn:0≤n
     ·exact Tr.tt (decide_eq_true hn) (j6 _ (by rw [decide_eq_true hn,Bool.true_and]))
     ·exact Tr.ff (decide_eq_false hn) (j6 _ (by rw [decide_eq_false hn,Bool.false_and]))
  unfold zdx at e
  cases hp:Form.part h.name x with
  | false =>
    rw [hp,Bool.false_and,Bool.not_false] at e
    exact Tr.tt rfl e
  | true =>
    rw [hp,Bool.true_and,Bool.not_not] at e
    exact Tr.ff rfl e
theorem fill_l1_tr {l:List (Form × Int)} {v:Nat} (hF:zgC l v hs f) (hw:f.w≤2 ^ 30) (ih:∀ x∈f.kids,∀ v' hs',zgC l v' hs' x→Tr (fun m=>zdS m x hs') (match x.fl hs' with
  | some y=>(y,true)
  | none=>(zbQ,false))):∀ (rest:List Form) (k:Nat) (acc:List Form),f.kids.drop k=rest→k≤f.kids.length→Form.cnts acc≤400 →
  Tr (fun m=>zbO m f hs (k:Int) f.kind (⟨#[]⟩:ByteArray) f.n ([]:List Int) acc (Form.cnts acc:Int)) (resI f acc (Form.fls rest hs))
 | [],k,acc,hd,hk,ha=>by
   have:k=f.kids.length:=by have:=congrArg List.length hd;rw [List.length_drop] at this;simp at this;omega
   subst this
   rw [Form.fls,resI_some,List.append_nil,decide_eq_true ha,cond_true]
   exact Tr.step (fun m=>by rw [zbO,z6,cond_false]) Tr.val
 | x::xs,k,acc,hd,hk,ha=>by
   obtain ⟨hx,hd2,hlt⟩:=drop_cons' hd
   have hm:=List.mem_of_getElem? hx
   have hfw:=f.w_kids
   have hkl:=Form.ws_len f.kids
   refine Tr.step (fun m=>by rw [zbO,ltN hlt,cond_true,zE hx,Option.bind_some]) (Tr.bind (zhd x _) ?_)
   rw [Form.fls_eq]
   have hgo:=fill_l1_tr hF hw ih xs (k+1) 
   cases hdx:zK x with
   | true =>
     rw [cond_true]
     exact Tr.tt hdx (Tr.eq (fun m=>by rw [zbp]) (hgo acc hd2 hlt ha))
   | false =>
     rw [cond_false]
     refine Tr.ff hdx ?_
     have one:zbM xs=false→Tr (fun m=>zbP m f hs (k:Int) f.kind (⟨#[]⟩:ByteArray) f.n ([]:List Int) acc (Form.cnts acc:Int) x true) (resI f acc (fapp (match x.fl hs with
       | none=>none
       | some y=>some [y]) (Form.fls xs hs))):=by
      intro hn
      have hFx:=hF.kid hx hdx (by rw [hd2];exact hn)
      refine Tr.step (fun m=>by rw [zbP,cond_true]) (Tr.bind (put_tr (ih x hm v hs hFx) (fun y hy=>fl_ok hFx hy) ha) ?_)
      cases hxf:x.fl hs with
      | none=>rw [resI_none];exact Tr.tt rfl Tr.val
      | some y =>
        simp only
        rw [resI_app]
        by_cases hc:Form.cnts (acc++[y])≤400
        ·rw [decide_eq_true hc]
         exact Tr.ff rfl (Tr.eq (fun m=>by rw [zbp];rfl) (hgo (acc++[y]) hd2 hlt hc))
        ·rw [decide_eq_false hc,resI_big (by omega)]
         exact Tr.tt rfl Tr.val
     rcases next_get hd with ⟨hz,hl⟩ | ⟨y,ys,hz,hy,hl⟩
     ·subst hz
      rw [show zbM ([]:List Form)=false from rfl,cond_false]
      exact Tr.tt (decide_eq_true (by omega)) (one rfl)
     ·refine Tr.ff (decide_eq_false (by omega)) (Tr.eq (fun m=>by rw [zbp,zE hy,Option.bind_some]) (Tr.bind (zhd y _) ?_))
      have hnx:zbM xs=zK y:=by rw [hz];rfl
      cases hdy:zK y with
      | false =>
        rw [hnx,hdy,cond_false]
        have:=one (by rw [hnx,hdy])
        refine Tr.eq (fun m=>?_) this
        show zbP m f hs _ _ _ _ _ _ _ x (!zK y)=_
        rw [hdy];rfl
      | true =>
        rw [hnx,hdy,cond_true]
        obtain ⟨r1,r2⟩:=hF.row hx hdx (by rw [hd2,hnx,hdy])
        obtain ⟨hall,hsl⟩:=zhi hF.hv
        refine Tr.eq (G:=fun m=>zbP m f hs (k:Int) f.kind (⟨#[]⟩:ByteArray) f.n ([]:List Int) acc (Form.cnts acc:Int) x false) (fun m=>?_) ?_
        ·show zbP m f hs _ _ _ _ _ _ _ x (!zK y)=_
         rw [hdy];rfl
        refine Tr.step (fun m=>by rw [zbP,cond_false]) ?_
        have h4:=fill_l4_tr (f:=f) (hs:=hs) k x acc hsl hall (v:=(zbQ,false)) (fun N=>resI f acc (fapp (rowF (fun i=>x.fl (nthR x i hs)) 0 N.toNat) (Form.fls xs hs))) (fun N hN=>by
         obtain ⟨c0,c1,c2⟩:=cntR_lt hF.hv r1 hN
         have hFi:∀ i,i < N.toNat→zgC l (v+1) (nthR x i hs) x:=fun i hi=>r2 i (fun h hh hdp=>by rw [c2 h hh hdp];exact hi)
         have:=fill_l7_tr (f:=f) (hs:=hs) k x (by omega) N.toNat (by omega) hsl c2 (fun i hi=>ih x hm (v+1) _ (hFi i hi)) hFi (o:=Form.fls xs hs) (fun acc' ha'=>hgo acc' hd2 hlt ha') N.toNat 0 (by omega) acc ha
         rw [Int.toNat_of_nonneg c0] at this
         exact Tr.step (fun m=>by rw [zeH];rfl) this)
        cases hc:cntR x (-1) hs with
        | none=>rw [hc] at h4;rw [resI_none];exact h4
        | some N=>rw [hc] at h4;exact h4
end
theorem implFill_n (l:List (Form × Int)):∀ (n:Nat) (f:Form),f.w≤n→f.w≤2 ^ 30→∀ v hs,zgC l v hs f→Tr (fun m=>zdS m f hs) (match f.fl hs with
  | some y=>(y,true)
  | none=>(zbQ,false)):=by
 intro n
 induction n with
 | zero=>intro f h;have:=f.w_kids;omega
 | succ n ih =>
   intro f hn hw v hs hF
   have hfw:=f.w_kids
   rw [Form.fl_eq]
   refine Tr.step (fun m=>by rw [zdS]) ?_
   obtain ⟨d,hok⟩:=hF.ok
   by_cases h1:f.kind=1
   ·rw [decide_eq_true h1,cond_true]
    refine Tr.tt rfl (Tr.bind (hitAt_tr hs f) ?_)
    unfold findO
    rcases hF.leaf with hl | ⟨i,h,hl,hi,h0,hv⟩
    ·rw [hl]
     exact Tr.ff rfl (Tr.bind (zhS f (by omega)) Tr.val)
    ·rw [hl,decide_eq_true (by omega),cond_true,Int.toNat_natCast,List.getD_eq_getElem?_getD,hi,Option.getD_some]
     have:=valid_w hv
     exact Tr.tt rfl (Tr.eq (fun m=>by rw [zE hi,Option.bind_some]) (Tr.bind (zhS h.one (by omega)) Tr.val))
   ·rw [decide_eq_false h1,cond_false]
    refine Tr.ff rfl ?_
    have:=fill_l1_tr hF hw (fun x hx v' hs' hF'=>ih x (by have:=Form.ws_mem hx;omega) (by have:=Form.ws_mem hx;omega) v' hs' hF') f.kids 0 [] (by rw [List.drop_zero]) (Nat.zero_le _) (by rw [Form.cnts];omega)
    obtain ⟨e1,e2,_⟩:=isOk_node (ys:=[]) hok h1 (.inr rfl) (D:=0) (fun y hy=>by cases hy)
    cases hf:Form.fls f.kids hs with
    | none=>rw [hf] at this;exact this
    | some ys =>
      rw [hf] at this
      rw [resI_some,List.nil_append] at this
      simp only
      rw [e1,e2]
      cases hc:decide (Form.cnts ys≤400) with
      | true=>rw [hc,cond_true] at this;rw [cond_true];exact this
      | false=>rw [hc,cond_false] at this;rw [cond_false];exact this
end Go.Abs
end
