/- A part of the proof: what the functions that the law calls answer, as pure values. -/
import Derived.Test.YtgicgbokgmmgdaaPv8
import Derived.KernelRfl
set_option linter.unusedSimpArgs false
set_option linter.unusedVariables false
section
set_option linter.unusedVariables false
namespace Go.Abs
mutual
def Form.fitB : Form → Bool
  | .mk _ name _ scopes kids => decide (name.size ≤ 100) && (decide (scopes.length ≤ 100) && (decide (kids.length ≤ 100) && Form.fitBs kids))
def Form.fitBs : List Form → Bool
  | [] => true
  | f :: fs => f.fitB && Form.fitBs fs
end
mutual
theorem Form.fitB_fit : ∀ {f : Form}, f.fitB = true → f.fit
  | .mk a b c d e, h => by
    rw [Form.fitB] at h
    simp only [Bool.and_eq_true, decide_eq_true_eq] at h
    rw [Form.fit]
    exact ⟨by omega, by omega, by omega, Form.fitBs_fit h.2.2.2⟩
theorem Form.fitBs_fit : ∀ {l : List Form}, Form.fitBs l = true → Form.fits l
  | [], _ => by rw [Form.fits]; trivial
  | f :: fs, h => by
    rw [Form.fitBs, Bool.and_eq_true] at h
    rw [Form.fits]; exact ⟨Form.fitB_fit h.1, Form.fitBs_fit h.2⟩
end
structure Parsed (s : ByteArray) (f : Form) : Prop where
  tr : Tr (fun m => m_spec_l1Parse m s) f
  w : f.w ≤ 100
  fit : f.fit
def Pairs : List (Form × Form) → List (List ByteArray) → Prop
  | [], l => l = []
  | p :: ps, l => ∃ x xs, l = x :: xs ∧ (∃ a b, x = [a, b] ∧ Parsed a p.1 ∧ Parsed b p.2) ∧ Pairs ps xs
theorem Pairs.mem : ∀ {ps : List (Form × Form)} {l : List (List ByteArray)}, Pairs ps l → ∀ x ∈ l, ∃ p ∈ ps, ∃ a b, x = [a, b] ∧ Parsed a p.1 ∧ Parsed b p.2
  | [], l, h, x, hx => by rw [Pairs] at h; subst h; cases hx
  | p :: ps, l, h, x, hx => by
    rw [Pairs] at h
    obtain ⟨y, ys, rfl, h1, h2⟩ := h
    rcases List.mem_cons.1 hx with rfl | hx
    · exact ⟨p, by simp, h1⟩
    · obtain ⟨q, hq, r⟩ := Pairs.mem h2 x hx
      exact ⟨q, by simp [hq], r⟩
end Go.Abs
end
section
set_option linter.unusedVariables false
set_option maxRecDepth 100000
namespace Go.Abs
def t4F0 : Form := (Form.mk 3 (⟨#[]⟩ : ByteArray) 0 ([] : List Int) [(Form.mk 1 (⟨#[95]⟩ : ByteArray) 0 ([] : List Int) ([] : List Form)), (Form.mk 1 (⟨#[97]⟩ : ByteArray) 0 ([] : List Int) ([] : List Form)), (Form.mk 1 (⟨#[98]⟩ : ByteArray) 0 ([] : List Int) ([] : List Form))])
theorem t4P0 : Parsed (⟨#[40, 95, 32, 97, 32, 98, 41]⟩ : ByteArray) t4F0 := ⟨Tr.add 100 (fun m => by kernel_rfl), of_decide_eq_true (by kernel_rfl), Form.fitB_fit (by kernel_rfl)⟩
def t4F1 : Form := (Form.mk 3 (⟨#[]⟩ : ByteArray) 0 ([] : List Int) [(Form.mk 1 (⟨#[115, 119, 97, 112]⟩ : ByteArray) 0 ([] : List Int) ([] : List Form)), (Form.mk 1 (⟨#[120]⟩ : ByteArray) 0 ([] : List Int) ([] : List Form)), (Form.mk 1 (⟨#[121]⟩ : ByteArray) 0 ([] : List Int) ([] : List Form))])
theorem t4P1 : Parsed (⟨#[40, 115, 119, 97, 112, 32, 120, 32, 121, 41]⟩ : ByteArray) t4F1 := ⟨Tr.add 100 (fun m => by kernel_rfl), of_decide_eq_true (by kernel_rfl), Form.fitB_fit (by kernel_rfl)⟩
def t4F2 : Form := (Form.mk 3 (⟨#[]⟩ : ByteArray) 0 ([] : List Int) [(Form.mk 1 (⟨#[95]⟩ : ByteArray) 0 ([] : List Int) ([] : List Form)), (Form.mk 1 (⟨#[97]⟩ : ByteArray) 0 ([] : List Int) ([] : List Form)), (Form.mk 1 (⟨#[46, 46, 46]⟩ : ByteArray) 0 ([] : List Int) ([] : List Form))])
theorem t4P2 : Parsed (⟨#[40, 95, 32, 97, 32, 46, 46, 46, 41]⟩ : ByteArray) t4F2 := ⟨Tr.add 100 (fun m => by kernel_rfl), of_decide_eq_true (by kernel_rfl), Form.fitB_fit (by kernel_rfl)⟩
def t4F3 : Form := (Form.mk 3 (⟨#[]⟩ : ByteArray) 0 ([] : List Int) [(Form.mk 1 (⟨#[108, 105, 115, 116]⟩ : ByteArray) 0 ([] : List Int) ([] : List Form)), (Form.mk 2 (⟨#[]⟩ : ByteArray) 1 ([] : List Int) ([] : List Form)), (Form.mk 2 (⟨#[]⟩ : ByteArray) 2 ([] : List Int) ([] : List Form)), (Form.mk 2 (⟨#[]⟩ : ByteArray) 3 ([] : List Int) ([] : List Form))])
theorem t4P3 : Parsed (⟨#[40, 108, 105, 115, 116, 32, 49, 32, 50, 32, 51, 41]⟩ : ByteArray) t4F3 := ⟨Tr.add 100 (fun m => by kernel_rfl), of_decide_eq_true (by kernel_rfl), Form.fitB_fit (by kernel_rfl)⟩
def t4F4 : Form := (Form.mk 3 (⟨#[]⟩ : ByteArray) 0 ([] : List Int) [(Form.mk 1 (⟨#[95]⟩ : ByteArray) 0 ([] : List Int) ([] : List Form)), (Form.mk 3 (⟨#[]⟩ : ByteArray) 0 ([] : List Int) [(Form.mk 1 (⟨#[120]⟩ : ByteArray) 0 ([] : List Int) ([] : List Form)), (Form.mk 1 (⟨#[118]⟩ : ByteArray) 0 ([] : List Int) ([] : List Form))]), (Form.mk 1 (⟨#[46, 46, 46]⟩ : ByteArray) 0 ([] : List Int) ([] : List Form)), (Form.mk 1 (⟨#[98, 111, 100, 121]⟩ : ByteArray) 0 ([] : List Int) ([] : List Form))])
theorem t4P4 : Parsed (⟨#[40, 95, 32, 40, 120, 32, 118, 41, 32, 46, 46, 46, 32, 98, 111, 100, 121, 41]⟩ : ByteArray) t4F4 := ⟨Tr.add 100 (fun m => by kernel_rfl), of_decide_eq_true (by kernel_rfl), Form.fitB_fit (by kernel_rfl)⟩
def t4F5 : Form := (Form.mk 3 (⟨#[]⟩ : ByteArray) 0 ([] : List Int) [(Form.mk 1 (⟨#[108, 101, 116]⟩ : ByteArray) 0 ([] : List Int) ([] : List Form)), (Form.mk 3 (⟨#[]⟩ : ByteArray) 0 ([] : List Int) [(Form.mk 1 (⟨#[112]⟩ : ByteArray) 0 ([] : List Int) ([] : List Form)), (Form.mk 2 (⟨#[]⟩ : ByteArray) 1 ([] : List Int) ([] : List Form))]), (Form.mk 3 (⟨#[]⟩ : ByteArray) 0 ([] : List Int) [(Form.mk 1 (⟨#[113]⟩ : ByteArray) 0 ([] : List Int) ([] : List Form)), (Form.mk 2 (⟨#[]⟩ : ByteArray) 2 ([] : List Int) ([] : List Form))]), (Form.mk 3 (⟨#[]⟩ : ByteArray) 0 ([] : List Int) [(Form.mk 1 (⟨#[102]⟩ : ByteArray) 0 ([] : List Int) ([] : List Form)), (Form.mk 1 (⟨#[112]⟩ : ByteArray) 0 ([] : List Int) ([] : List Form)), (Form.mk 1 (⟨#[113]⟩ : ByteArray) 0 ([] : List Int) ([] : List Form))])])
theorem t4P5 : Parsed (⟨#[40, 108, 101, 116, 32, 40, 112, 32, 49, 41, 32, 40, 113, 32, 50, 41, 32, 40, 102, 32, 112, 32, 113, 41, 41]⟩ : ByteArray) t4F5 := ⟨Tr.add 100 (fun m => by kernel_rfl), of_decide_eq_true (by kernel_rfl), Form.fitB_fit (by kernel_rfl)⟩
def t4F6 : Form := (Form.mk 3 (⟨#[]⟩ : ByteArray) 0 ([] : List Int) [(Form.mk 1 (⟨#[95]⟩ : ByteArray) 0 ([] : List Int) ([] : List Form)), (Form.mk 3 (⟨#[]⟩ : ByteArray) 0 ([] : List Int) [(Form.mk 3 (⟨#[]⟩ : ByteArray) 0 ([] : List Int) [(Form.mk 1 (⟨#[120]⟩ : ByteArray) 0 ([] : List Int) ([] : List Form)), (Form.mk 1 (⟨#[118]⟩ : ByteArray) 0 ([] : List Int) ([] : List Form))]), (Form.mk 1 (⟨#[46, 46, 46]⟩ : ByteArray) 0 ([] : List Int) ([] : List Form))]), (Form.mk 1 (⟨#[98, 111, 100, 121]⟩ : ByteArray) 0 ([] : List Int) ([] : List Form)), (Form.mk 1 (⟨#[46, 46, 46]⟩ : ByteArray) 0 ([] : List Int) ([] : List Form))])
theorem t4P6 : Parsed (⟨#[40, 95, 32, 40, 40, 120, 32, 118, 41, 32, 46, 46, 46, 41, 32, 98, 111, 100, 121, 32, 46, 46, 46, 41]⟩ : ByteArray) t4F6 := ⟨Tr.add 100 (fun m => by kernel_rfl), of_decide_eq_true (by kernel_rfl), Form.fitB_fit (by kernel_rfl)⟩
def t4F7 : Form := (Form.mk 3 (⟨#[]⟩ : ByteArray) 0 ([] : List Int) [(Form.mk 1 (⟨#[108, 101, 116]⟩ : ByteArray) 0 ([] : List Int) ([] : List Form)), (Form.mk 3 (⟨#[]⟩ : ByteArray) 0 ([] : List Int) [(Form.mk 3 (⟨#[]⟩ : ByteArray) 0 ([] : List Int) [(Form.mk 1 (⟨#[112]⟩ : ByteArray) 0 ([] : List Int) ([] : List Form)), (Form.mk 2 (⟨#[]⟩ : ByteArray) 1 ([] : List Int) ([] : List Form))]), (Form.mk 3 (⟨#[]⟩ : ByteArray) 0 ([] : List Int) [(Form.mk 1 (⟨#[113]⟩ : ByteArray) 0 ([] : List Int) ([] : List Form)), (Form.mk 3 (⟨#[]⟩ : ByteArray) 0 ([] : List Int) [(Form.mk 1 (⟨#[103]⟩ : ByteArray) 0 ([] : List Int) ([] : List Form)), (Form.mk 2 (⟨#[]⟩ : ByteArray) 2 ([] : List Int) ([] : List Form))])])]), (Form.mk 1 (⟨#[112]⟩ : ByteArray) 0 ([] : List Int) ([] : List Form)), (Form.mk 1 (⟨#[113]⟩ : ByteArray) 0 ([] : List Int) ([] : List Form))])
theorem t4P7 : Parsed (⟨#[40, 108, 101, 116, 32, 40, 40, 112, 32, 49, 41, 32, 40, 113, 32, 40, 103, 32, 50, 41, 41, 41, 32, 112, 32, 113, 41]⟩ : ByteArray) t4F7 := ⟨Tr.add 100 (fun m => by kernel_rfl), of_decide_eq_true (by kernel_rfl), Form.fitB_fit (by kernel_rfl)⟩
def t4F8 : Form := (Form.mk 3 (⟨#[]⟩ : ByteArray) 0 ([] : List Int) [(Form.mk 1 (⟨#[95]⟩ : ByteArray) 0 ([] : List Int) ([] : List Form)), (Form.mk 3 (⟨#[]⟩ : ByteArray) 0 ([] : List Int) [(Form.mk 1 (⟨#[97]⟩ : ByteArray) 0 ([] : List Int) ([] : List Form)), (Form.mk 1 (⟨#[98]⟩ : ByteArray) 0 ([] : List Int) ([] : List Form)), (Form.mk 1 (⟨#[46, 46, 46]⟩ : ByteArray) 0 ([] : List Int) ([] : List Form))]), (Form.mk 1 (⟨#[46, 46, 46]⟩ : ByteArray) 0 ([] : List Int) ([] : List Form))])
theorem t4P8 : Parsed (⟨#[40, 95, 32, 40, 97, 32, 98, 32, 46, 46, 46, 41, 32, 46, 46, 46, 41]⟩ : ByteArray) t4F8 := ⟨Tr.add 100 (fun m => by kernel_rfl), of_decide_eq_true (by kernel_rfl), Form.fitB_fit (by kernel_rfl)⟩
def t4F9 : Form := (Form.mk 3 (⟨#[]⟩ : ByteArray) 0 ([] : List Int) [(Form.mk 1 (⟨#[109]⟩ : ByteArray) 0 ([] : List Int) ([] : List Form)), (Form.mk 3 (⟨#[]⟩ : ByteArray) 0 ([] : List Int) [(Form.mk 1 (⟨#[120]⟩ : ByteArray) 0 ([] : List Int) ([] : List Form)), (Form.mk 2 (⟨#[]⟩ : ByteArray) 1 ([] : List Int) ([] : List Form)), (Form.mk 2 (⟨#[]⟩ : ByteArray) 2 ([] : List Int) ([] : List Form))]), (Form.mk 3 (⟨#[]⟩ : ByteArray) 0 ([] : List Int) [(Form.mk 1 (⟨#[121]⟩ : ByteArray) 0 ([] : List Int) ([] : List Form))]), (Form.mk 3 (⟨#[]⟩ : ByteArray) 0 ([] : List Int) [(Form.mk 1 (⟨#[122]⟩ : ByteArray) 0 ([] : List Int) ([] : List Form)), (Form.mk 2 (⟨#[]⟩ : ByteArray) 3 ([] : List Int) ([] : List Form))])])
theorem t4P9 : Parsed (⟨#[40, 109, 32, 40, 120, 32, 49, 32, 50, 41, 32, 40, 121, 41, 32, 40, 122, 32, 51, 41, 41]⟩ : ByteArray) t4F9 := ⟨Tr.add 100 (fun m => by kernel_rfl), of_decide_eq_true (by kernel_rfl), Form.fitB_fit (by kernel_rfl)⟩
def t4F10 : Form := (Form.mk 3 (⟨#[]⟩ : ByteArray) 0 ([] : List Int) [(Form.mk 1 (⟨#[95]⟩ : ByteArray) 0 ([] : List Int) ([] : List Form)), (Form.mk 1 (⟨#[97]⟩ : ByteArray) 0 ([] : List Int) ([] : List Form)), (Form.mk 1 (⟨#[101, 108, 115, 101]⟩ : ByteArray) 0 ([] : List Int) ([] : List Form)), (Form.mk 1 (⟨#[98]⟩ : ByteArray) 0 ([] : List Int) ([] : List Form))])
theorem t4P10 : Parsed (⟨#[40, 95, 32, 97, 32, 101, 108, 115, 101, 32, 98, 41]⟩ : ByteArray) t4F10 := ⟨Tr.add 100 (fun m => by kernel_rfl), of_decide_eq_true (by kernel_rfl), Form.fitB_fit (by kernel_rfl)⟩
def t4F11 : Form := (Form.mk 3 (⟨#[]⟩ : ByteArray) 0 ([] : List Int) [(Form.mk 1 (⟨#[109]⟩ : ByteArray) 0 ([] : List Int) ([] : List Form)), (Form.mk 1 (⟨#[112]⟩ : ByteArray) 0 ([] : List Int) ([] : List Form)), (Form.mk 1 (⟨#[101, 108, 115, 101]⟩ : ByteArray) 0 ([] : List Int) ([] : List Form)), (Form.mk 1 (⟨#[113]⟩ : ByteArray) 0 ([] : List Int) ([] : List Form))])
theorem t4P11 : Parsed (⟨#[40, 109, 32, 112, 32, 101, 108, 115, 101, 32, 113, 41]⟩ : ByteArray) t4F11 := ⟨Tr.add 100 (fun m => by kernel_rfl), of_decide_eq_true (by kernel_rfl), Form.fitB_fit (by kernel_rfl)⟩
def t4F12 : Form := (Form.mk 3 (⟨#[]⟩ : ByteArray) 0 ([] : List Int) [(Form.mk 1 (⟨#[95]⟩ : ByteArray) 0 ([] : List Int) ([] : List Form))])
theorem t4P12 : Parsed (⟨#[40, 95, 41]⟩ : ByteArray) t4F12 := ⟨Tr.add 100 (fun m => by kernel_rfl), of_decide_eq_true (by kernel_rfl), Form.fitB_fit (by kernel_rfl)⟩
def t4F13 : Form := (Form.mk 3 (⟨#[]⟩ : ByteArray) 0 ([] : List Int) [(Form.mk 1 (⟨#[109]⟩ : ByteArray) 0 ([] : List Int) ([] : List Form))])
theorem t4P13 : Parsed (⟨#[40, 109, 41]⟩ : ByteArray) t4F13 := ⟨Tr.add 100 (fun m => by kernel_rfl), of_decide_eq_true (by kernel_rfl), Form.fitB_fit (by kernel_rfl)⟩
def t4F14 : Form := (Form.mk 3 (⟨#[]⟩ : ByteArray) 0 ([] : List Int) [(Form.mk 1 (⟨#[95]⟩ : ByteArray) 0 ([] : List Int) ([] : List Form)), (Form.mk 2 (⟨#[]⟩ : ByteArray) 5 ([] : List Int) ([] : List Form)), (Form.mk 1 (⟨#[97]⟩ : ByteArray) 0 ([] : List Int) ([] : List Form))])
theorem t4P14 : Parsed (⟨#[40, 95, 32, 53, 32, 97, 41]⟩ : ByteArray) t4F14 := ⟨Tr.add 100 (fun m => by kernel_rfl), of_decide_eq_true (by kernel_rfl), Form.fitB_fit (by kernel_rfl)⟩
def t4F15 : Form := (Form.mk 3 (⟨#[]⟩ : ByteArray) 0 ([] : List Int) [(Form.mk 1 (⟨#[109]⟩ : ByteArray) 0 ([] : List Int) ([] : List Form)), (Form.mk 2 (⟨#[]⟩ : ByteArray) 5 ([] : List Int) ([] : List Form)), (Form.mk 1 (⟨#[120]⟩ : ByteArray) 0 ([] : List Int) ([] : List Form))])
theorem t4P15 : Parsed (⟨#[40, 109, 32, 53, 32, 120, 41]⟩ : ByteArray) t4F15 := ⟨Tr.add 100 (fun m => by kernel_rfl), of_decide_eq_true (by kernel_rfl), Form.fitB_fit (by kernel_rfl)⟩
def t4F16 : Form := (Form.mk 3 (⟨#[]⟩ : ByteArray) 0 ([] : List Int) [(Form.mk 1 (⟨#[95]⟩ : ByteArray) 0 ([] : List Int) ([] : List Form)), (Form.mk 1 (⟨#[97]⟩ : ByteArray) 0 ([] : List Int) ([] : List Form)), (Form.mk 1 (⟨#[46, 46, 46]⟩ : ByteArray) 0 ([] : List Int) ([] : List Form)), (Form.mk 1 (⟨#[122]⟩ : ByteArray) 0 ([] : List Int) ([] : List Form))])
theorem t4P16 : Parsed (⟨#[40, 95, 32, 97, 32, 46, 46, 46, 32, 122, 41]⟩ : ByteArray) t4F16 := ⟨Tr.add 100 (fun m => by kernel_rfl), of_decide_eq_true (by kernel_rfl), Form.fitB_fit (by kernel_rfl)⟩
def t4F17 : Form := (Form.mk 3 (⟨#[]⟩ : ByteArray) 0 ([] : List Int) [(Form.mk 1 (⟨#[109]⟩ : ByteArray) 0 ([] : List Int) ([] : List Form)), (Form.mk 2 (⟨#[]⟩ : ByteArray) 1 ([] : List Int) ([] : List Form)), (Form.mk 2 (⟨#[]⟩ : ByteArray) 2 ([] : List Int) ([] : List Form)), (Form.mk 2 (⟨#[]⟩ : ByteArray) 3 ([] : List Int) ([] : List Form)), (Form.mk 2 (⟨#[]⟩ : ByteArray) 4 ([] : List Int) ([] : List Form))])
theorem t4P17 : Parsed (⟨#[40, 109, 32, 49, 32, 50, 32, 51, 32, 52, 41]⟩ : ByteArray) t4F17 := ⟨Tr.add 100 (fun m => by kernel_rfl), of_decide_eq_true (by kernel_rfl), Form.fitB_fit (by kernel_rfl)⟩
def t4F18 : Form := (Form.mk 1 (⟨#[97]⟩ : ByteArray) 0 ([] : List Int) ([] : List Form))
theorem t4P18 : Parsed (⟨#[97]⟩ : ByteArray) t4F18 := ⟨Tr.add 100 (fun m => by kernel_rfl), of_decide_eq_true (by kernel_rfl), Form.fitB_fit (by kernel_rfl)⟩
def t4F19 : Form := (Form.mk 3 (⟨#[]⟩ : ByteArray) 0 ([] : List Int) [(Form.mk 1 (⟨#[102]⟩ : ByteArray) 0 ([] : List Int) ([] : List Form)), (Form.mk 1 (⟨#[120]⟩ : ByteArray) 0 ([] : List Int) ([] : List Form))])
theorem t4P19 : Parsed (⟨#[40, 102, 32, 120, 41]⟩ : ByteArray) t4F19 := ⟨Tr.add 100 (fun m => by kernel_rfl), of_decide_eq_true (by kernel_rfl), Form.fitB_fit (by kernel_rfl)⟩
def t4F20 : Form := (Form.mk 3 (⟨#[]⟩ : ByteArray) 0 ([] : List Int) [(Form.mk 1 (⟨#[95]⟩ : ByteArray) 0 ([] : List Int) ([] : List Form)), (Form.mk 3 (⟨#[]⟩ : ByteArray) 0 ([] : List Int) [(Form.mk 1 (⟨#[97]⟩ : ByteArray) 0 ([] : List Int) ([] : List Form)), (Form.mk 3 (⟨#[]⟩ : ByteArray) 0 ([] : List Int) [(Form.mk 1 (⟨#[98]⟩ : ByteArray) 0 ([] : List Int) ([] : List Form)), (Form.mk 1 (⟨#[46, 46, 46]⟩ : ByteArray) 0 ([] : List Int) ([] : List Form))]), (Form.mk 1 (⟨#[46, 46, 46]⟩ : ByteArray) 0 ([] : List Int) ([] : List Form))]), (Form.mk 1 (⟨#[46, 46, 46]⟩ : ByteArray) 0 ([] : List Int) ([] : List Form))])
theorem t4P20 : Parsed (⟨#[40, 95, 32, 40, 97, 32, 40, 98, 32, 46, 46, 46, 41, 32, 46, 46, 46, 41, 32, 46, 46, 46, 41]⟩ : ByteArray) t4F20 := ⟨Tr.add 100 (fun m => by kernel_rfl), of_decide_eq_true (by kernel_rfl), Form.fitB_fit (by kernel_rfl)⟩
def t4F21 : Form := (Form.mk 3 (⟨#[]⟩ : ByteArray) 0 ([] : List Int) [(Form.mk 1 (⟨#[109]⟩ : ByteArray) 0 ([] : List Int) ([] : List Form)), (Form.mk 3 (⟨#[]⟩ : ByteArray) 0 ([] : List Int) [(Form.mk 1 (⟨#[120]⟩ : ByteArray) 0 ([] : List Int) ([] : List Form)), (Form.mk 3 (⟨#[]⟩ : ByteArray) 0 ([] : List Int) [(Form.mk 2 (⟨#[]⟩ : ByteArray) 1 ([] : List Int) ([] : List Form)), (Form.mk 2 (⟨#[]⟩ : ByteArray) 2 ([] : List Int) ([] : List Form))]), (Form.mk 3 (⟨#[]⟩ : ByteArray) 0 ([] : List Int) ([] : List Form))]), (Form.mk 3 (⟨#[]⟩ : ByteArray) 0 ([] : List Int) [(Form.mk 1 (⟨#[121]⟩ : ByteArray) 0 ([] : List Int) ([] : List Form))])])
theorem t4P21 : Parsed (⟨#[40, 109, 32, 40, 120, 32, 40, 49, 32, 50, 41, 32, 40, 41, 41, 32, 40, 121, 41, 41]⟩ : ByteArray) t4F21 := ⟨Tr.add 100 (fun m => by kernel_rfl), of_decide_eq_true (by kernel_rfl), Form.fitB_fit (by kernel_rfl)⟩
def t4F22 : Form := (Form.mk 3 (⟨#[]⟩ : ByteArray) 0 ([] : List Int) [(Form.mk 1 (⟨#[46, 46, 46]⟩ : ByteArray) 0 ([] : List Int) ([] : List Form)), (Form.mk 1 (⟨#[97]⟩ : ByteArray) 0 ([] : List Int) ([] : List Form))])
theorem t4P22 : Parsed (⟨#[40, 46, 46, 46, 32, 97, 41]⟩ : ByteArray) t4F22 := ⟨Tr.add 100 (fun m => by kernel_rfl), of_decide_eq_true (by kernel_rfl), Form.fitB_fit (by kernel_rfl)⟩
def t4F23 : Form := (Form.mk 3 (⟨#[]⟩ : ByteArray) 0 ([] : List Int) [(Form.mk 1 (⟨#[97]⟩ : ByteArray) 0 ([] : List Int) ([] : List Form)), (Form.mk 1 (⟨#[46, 46, 46]⟩ : ByteArray) 0 ([] : List Int) ([] : List Form)), (Form.mk 1 (⟨#[98]⟩ : ByteArray) 0 ([] : List Int) ([] : List Form)), (Form.mk 1 (⟨#[46, 46, 46]⟩ : ByteArray) 0 ([] : List Int) ([] : List Form))])
theorem t4P23 : Parsed (⟨#[40, 97, 32, 46, 46, 46, 32, 98, 32, 46, 46, 46, 41]⟩ : ByteArray) t4F23 := ⟨Tr.add 100 (fun m => by kernel_rfl), of_decide_eq_true (by kernel_rfl), Form.fitB_fit (by kernel_rfl)⟩
def t4F24 : Form := (Form.mk 3 (⟨#[]⟩ : ByteArray) 0 ([] : List Int) [(Form.mk 1 (⟨#[97]⟩ : ByteArray) 0 ([] : List Int) ([] : List Form)), (Form.mk 1 (⟨#[97]⟩ : ByteArray) 0 ([] : List Int) ([] : List Form))])
theorem t4P24 : Parsed (⟨#[40, 97, 32, 97, 41]⟩ : ByteArray) t4F24 := ⟨Tr.add 100 (fun m => by kernel_rfl), of_decide_eq_true (by kernel_rfl), Form.fitB_fit (by kernel_rfl)⟩
def t4F25 : Form := (Form.mk 1 (⟨#[46, 46, 46]⟩ : ByteArray) 0 ([] : List Int) ([] : List Form))
theorem t4P25 : Parsed (⟨#[46, 46, 46]⟩ : ByteArray) t4F25 := ⟨Tr.add 100 (fun m => by kernel_rfl), of_decide_eq_true (by kernel_rfl), Form.fitB_fit (by kernel_rfl)⟩
def t4F26 : Form := (Form.mk 3 (⟨#[]⟩ : ByteArray) 0 ([] : List Int) [(Form.mk 1 (⟨#[97]⟩ : ByteArray) 0 ([] : List Int) ([] : List Form)), (Form.mk 1 (⟨#[46, 46, 46]⟩ : ByteArray) 0 ([] : List Int) ([] : List Form)), (Form.mk 1 (⟨#[46, 46, 46]⟩ : ByteArray) 0 ([] : List Int) ([] : List Form))])
theorem t4P26 : Parsed (⟨#[40, 97, 32, 46, 46, 46, 32, 46, 46, 46, 41]⟩ : ByteArray) t4F26 := ⟨Tr.add 100 (fun m => by kernel_rfl), of_decide_eq_true (by kernel_rfl), Form.fitB_fit (by kernel_rfl)⟩
def t4F27 : Form := (Form.mk 3 (⟨#[]⟩ : ByteArray) 0 ([] : List Int) [(Form.mk 3 (⟨#[]⟩ : ByteArray) 0 ([] : List Int) [(Form.mk 3 (⟨#[]⟩ : ByteArray) 0 ([] : List Int) [(Form.mk 3 (⟨#[]⟩ : ByteArray) 0 ([] : List Int) [(Form.mk 3 (⟨#[]⟩ : ByteArray) 0 ([] : List Int) [(Form.mk 1 (⟨#[97]⟩ : ByteArray) 0 ([] : List Int) ([] : List Form)), (Form.mk 1 (⟨#[46, 46, 46]⟩ : ByteArray) 0 ([] : List Int) ([] : List Form))]), (Form.mk 1 (⟨#[46, 46, 46]⟩ : ByteArray) 0 ([] : List Int) ([] : List Form))]), (Form.mk 1 (⟨#[46, 46, 46]⟩ : ByteArray) 0 ([] : List Int) ([] : List Form))]), (Form.mk 1 (⟨#[46, 46, 46]⟩ : ByteArray) 0 ([] : List Int) ([] : List Form))])])
theorem t4P27 : Parsed (⟨#[40, 40, 40, 40, 40, 97, 32, 46, 46, 46, 41, 32, 46, 46, 46, 41, 32, 46, 46, 46, 41, 32, 46, 46, 46, 41, 41]⟩ : ByteArray) t4F27 := ⟨Tr.add 100 (fun m => by kernel_rfl), of_decide_eq_true (by kernel_rfl), Form.fitB_fit (by kernel_rfl)⟩
def t4T : List (List ByteArray) := [[(⟨#[40, 95, 32, 97, 32, 98, 41]⟩ : ByteArray), (⟨#[40, 115, 119, 97, 112, 32, 120, 32, 121, 41]⟩ : ByteArray)], [(⟨#[40, 95, 32, 97, 32, 46, 46, 46, 41]⟩ : ByteArray), (⟨#[40, 108, 105, 115, 116, 32, 49, 32, 50, 32, 51, 41]⟩ : ByteArray)], [(⟨#[40, 95, 32, 40, 120, 32, 118, 41, 32, 46, 46, 46, 32, 98, 111, 100, 121, 41]⟩ : ByteArray), (⟨#[40, 108, 101, 116, 32, 40, 112, 32, 49, 41, 32, 40, 113, 32, 50, 41, 32, 40, 102, 32, 112, 32, 113, 41, 41]⟩ : ByteArray)], [(⟨#[40, 95, 32, 40, 40, 120, 32, 118, 41, 32, 46, 46, 46, 41, 32, 98, 111, 100, 121, 32, 46, 46, 46, 41]⟩ : ByteArray), (⟨#[40, 108, 101, 116, 32, 40, 40, 112, 32, 49, 41, 32, 40, 113, 32, 40, 103, 32, 50, 41, 41, 41, 32, 112, 32, 113, 41]⟩ : ByteArray)], [(⟨#[40, 95, 32, 40, 97, 32, 98, 32, 46, 46, 46, 41, 32, 46, 46, 46, 41]⟩ : ByteArray), (⟨#[40, 109, 32, 40, 120, 32, 49, 32, 50, 41, 32, 40, 121, 41, 32, 40, 122, 32, 51, 41, 41]⟩ : ByteArray)], [(⟨#[40, 95, 32, 97, 32, 101, 108, 115, 101, 32, 98, 41]⟩ : ByteArray), (⟨#[40, 109, 32, 112, 32, 101, 108, 115, 101, 32, 113, 41]⟩ : ByteArray)], [(⟨#[40, 95, 41]⟩ : ByteArray), (⟨#[40, 109, 41]⟩ : ByteArray)], [(⟨#[40, 95, 32, 53, 32, 97, 41]⟩ : ByteArray), (⟨#[40, 109, 32, 53, 32, 120, 41]⟩ : ByteArray)], [(⟨#[40, 95, 32, 97, 32, 46, 46, 46, 32, 122, 41]⟩ : ByteArray), (⟨#[40, 109, 32, 49, 32, 50, 32, 51, 32, 52, 41]⟩ : ByteArray)], [(⟨#[97]⟩ : ByteArray), (⟨#[40, 102, 32, 120, 41]⟩ : ByteArray)], [(⟨#[40, 95, 32, 40, 97, 32, 40, 98, 32, 46, 46, 46, 41, 32, 46, 46, 46, 41, 32, 46, 46, 46, 41]⟩ : ByteArray), (⟨#[40, 109, 32, 40, 120, 32, 40, 49, 32, 50, 41, 32, 40, 41, 41, 32, 40, 121, 41, 41]⟩ : ByteArray)]]
theorem t4T_tr : Tr (fun m => m_spec_l4Texts m) t4T := Tr.of (fun m => rfl)
theorem t4T_all : Pairs [(t4F0, t4F1), (t4F2, t4F3), (t4F4, t4F5), (t4F6, t4F7), (t4F8, t4F9), (t4F10, t4F11), (t4F12, t4F13), (t4F14, t4F15), (t4F16, t4F17), (t4F18, t4F19), (t4F20, t4F21)] t4T := ⟨_, _, rfl, ⟨_, _, rfl, t4P0, t4P1⟩, ⟨_, _, rfl, ⟨_, _, rfl, t4P2, t4P3⟩, ⟨_, _, rfl, ⟨_, _, rfl, t4P4, t4P5⟩, ⟨_, _, rfl, ⟨_, _, rfl, t4P6, t4P7⟩, ⟨_, _, rfl, ⟨_, _, rfl, t4P8, t4P9⟩, ⟨_, _, rfl, ⟨_, _, rfl, t4P10, t4P11⟩, ⟨_, _, rfl, ⟨_, _, rfl, t4P12, t4P13⟩, ⟨_, _, rfl, ⟨_, _, rfl, t4P14, t4P15⟩, ⟨_, _, rfl, ⟨_, _, rfl, t4P16, t4P17⟩, ⟨_, _, rfl, ⟨_, _, rfl, t4P18, t4P19⟩, ⟨_, _, rfl, ⟨_, _, rfl, t4P20, t4P21⟩, rfl⟩⟩⟩⟩⟩⟩⟩⟩⟩⟩⟩
end Go.Abs
end
section
set_option linter.unusedVariables false
set_option linter.unusedSimpArgs false
namespace Go.Abs
theorem Form.ws_one (f : Form) : Form.ws [f] = 1 + f.w := by rw [Form.ws, Form.ws]; omega
theorem Form.fits_one {f : Form} (h : f.fit) : Form.fits [f] := by rw [Form.fits, Form.fits]; exact ⟨h, trivial⟩
theorem Form.fits_nil : Form.fits [] := by rw [Form.fits]; trivial
theorem TQ.same {α : Type} {F : Nat → Option α} {v : α} (h : Tr F v) : TQ F (fun r => r = v) := ⟨v, h, rfl⟩
theorem TQ.tr {α : Type} {F : Nat → Option α} {v : α} (h : TQ F (fun r => r = v)) : Tr F v := by obtain ⟨r, h, rfl⟩ := h; exact h
theorem TQ.at {α β : Type} {l : List α} {i : Int} {x : α} {g : α → Nat → Option β} {R : β → Prop} (hx : Abs.idx l i = some x) (h : TQ (fun m => g x m) R) : TQ (fun m => (Abs.idx l i).bind fun y => g y m) R := by
  obtain ⟨w, hw, hr⟩ := h
  exact ⟨w, Tr.idx hx hw, hr⟩
structure Dr (n : Nat) (f : Form) : Prop where
  w : f.w ≤ n
  fit : f.fit
theorem Dr.mono {n k : Nat} {f : Form} (h : Dr n f) (hk : n ≤ k) : Dr k f := ⟨Nat.le_trans h.w hk, h.fit⟩
theorem Parsed.dr {s : ByteArray} {f : Form} (h : Parsed s f) : Dr 100 f := ⟨h.w, h.fit⟩
theorem mutate2_tq (c : Form) (o : l15Rd) (K : Int) (ho : OkRd o K) (hc : Dr 1000 c) (hK : K ≤ 1000000) {β : Type} {g : Form → l15Rd → Nat → Option β} {R : β → Prop}
    (h : ∀ f o', OkRd o' (K + 7000) → Dr (c.w + 2) f → TQ (fun m => g f o' m) R) : TQ (fun m => (m_spec_l1Mutate m o c).bind fun v => (m_spec_l1Mutate m v.2 v.1).bind fun u => g u.1 u.2 m) R := by
  have h1 := hc.w
  refine TQ.bind (l1Mutate_tq _ c o K (Nat.le_refl _) ho (by omega) hc.fit (by omega)) (fun v hv => ?_)
  obtain ⟨v1, v2, v3⟩ := hv
  refine TQ.bind (l1Mutate_tq _ v.1 v.2 _ (Nat.le_refl _) v1 (by omega) v3 (by omega)) (fun u hu => ?_)
  obtain ⟨u1, u2, u3⟩ := hu
  exact h _ _ (u1.mono (by omega)) ⟨by omega, u3⟩
theorem nameForm_tr (s : ByteArray) : Tr (fun m => m_spec_l1Name m s) (Form.mk 1 s 0 ([] : List Int) ([] : List Form)) := Tr.of (fun m => by unfold m_spec_l1Name; rfl)
theorem nameForm_dr {s : ByteArray} (h : s.size ≤ 100) : Dr 1 (Form.mk 1 s 0 ([] : List Int) ([] : List Form)) := ⟨by simp [Form.w, Form.ws], by rw [Form.fit, Form.fits]; simp; omega⟩
def elseF : Form := Form.mk 1 (⟨#[101, 108, 115, 101]⟩ : ByteArray) 0 ([] : List Int) ([] : List Form)
theorem elseF_dr : Dr 1 elseF := nameForm_dr (by decide)
theorem pairs_tq {l : List (List ByteArray)} {ps : List (Form × Form)} (hl : Pairs ps l) {i : Int} (h0 : 0 ≤ i) (h1 : i < l.length) : ∃ p ∈ ps, ∃ a b, Abs.idx l i = some [a, b] ∧ Parsed a p.1 ∧ Parsed b p.2 := by
  obtain ⟨x, hx, hm⟩ := idx_int h0 h1
  obtain ⟨p, hp, a, b, rfl, h2, h3⟩ := hl.mem x hm
  exact ⟨p, hp, a, b, hx, h2, h3⟩
theorem idx2_0 {α : Type} (a b : α) : Abs.idx [a, b] 0 = some a := rfl
theorem idx2_1 {α : Type} (a b : α) : Abs.idx [a, b] 1 = some b := rfl
def lits4 (l : List Form) : Prop := l = [elseF] ∨ l = []
theorem lits4.dr {l : List Form} (h : lits4 l) : Form.ws l ≤ 2 ∧ Form.fits l ∧ l.length ≤ 1 := by
  rcases h with rfl | rfl
  · exact ⟨by decide, Form.fits_one elseF_dr.fit, by decide⟩
  · exact ⟨by decide, Form.fits_nil, by decide⟩
theorem l4Case_tq (code : List Int) (hc : ∀ x ∈ code, 0 ≤ x ∧ x < 256) : TQ (fun m => m_spec_l4Case m code) (fun r => Dr 400 r.1 ∧ lits4 r.2.1 ∧ Dr 400 r.2.2) := by
  refine TQ.eq (fun m => by unfold m_spec_l4Case; rfl) ?_
  refine TQ.bind (open_tq code hc) (fun o ho => TQ.ev t4T_tr (TQ.bind (pick_tq o _ _ ho (by omega)) (fun v hv => ?_)))
  obtain ⟨h1, _, h2, _⟩ := hv
  obtain ⟨h2, h3⟩ := h2 (by decide)
  obtain ⟨p, _, a, b, hi, pa, pb⟩ := pairs_tq t4T_all h2 h3
  refine TQ.at hi (TQ.at (idx2_0 _ _) (TQ.ev pa.tr (TQ.at hi (TQ.at (idx2_1 _ _) (TQ.ev pb.tr (TQ.ev (nameForm_tr _) (TQ.bind (pick_tq _ 8 _ h1 (by omega)) (fun w hw => ?_))))))))
  have w1 := hw.1
  have da := pa.dr
  have db := pb.dr
  refine TQ.cond (fun _ => ?_) (fun _ => TQ.cond (fun _ => ?_) (fun _ => TQ.cond (fun _ => ?_) (fun _ => TQ.cond (fun _ => ?_) (fun _ => TQ.cond (fun _ => ?_) (fun _ => ?_)))))
  · exact mutate2_tq _ _ _ w1 (db.mono (by omega)) (by omega) (g := fun f _ _ => some (p.1, [elseF], f)) (fun f o' _ hf => TQ.val ⟨da.mono (by omega), .inl rfl, hf.mono (by have := db.w; omega)⟩)
  · exact mutate2_tq _ _ _ w1 (da.mono (by omega)) (by omega) (g := fun f _ _ => some (f, [elseF], p.2)) (fun f o' _ hf => TQ.val ⟨hf.mono (by have := da.w; omega), .inl rfl, db.mono (by omega)⟩)
  · refine TQ.bind (l1Dress_tq _ p.2 _ _ (Nat.le_refl _) w1 (by have := db.w; omega) db.fit (by have := db.w; omega)) (fun u hu => TQ.val ⟨da.mono (by omega), .inl rfl, ⟨by have := db.w; have := hu.2.1; dsimp only; omega, hu.2.2⟩⟩)
  · exact TQ.val ⟨da.mono (by omega), .inr rfl, db.mono (by omega)⟩
  · refine TQ.bind (pick_tq _ _ _ w1 (by omega)) (fun u hu => ?_)
    obtain ⟨_, _, u2, _⟩ := hu
    obtain ⟨u2, u3⟩ := u2 (by decide)
    obtain ⟨q, _, a', b', hi', qa, qb⟩ := pairs_tq t4T_all u2 u3
    exact TQ.at hi' (TQ.at (idx2_1 _ _) <| TQ.ev qb.tr (TQ.val ⟨da.mono (by omega), .inl rfl, qb.dr.mono (by omega)⟩))
  · exact TQ.val ⟨da.mono (by omega), .inl rfl, db.mono (by omega)⟩
structure Dr2 (p : Form) (l : List Form) : Prop where
  p : Dr 400 p
  lw : Form.ws l ≤ 200
  lf : Form.fits l
  ll : l.length ≤ 10
theorem DrawPatternValid_tq (code : List Int) (hc : ∀ x ∈ code, 0 ≤ x ∧ x < 256) : TQ (fun m => m_spec_DrawPatternValid m code) (fun r => Dr2 r.1 r.2) := by
  refine TQ.eq (fun m => by unfold m_spec_DrawPatternValid; rfl) ?_
  refine TQ.bind (l4Case_tq code hc) (fun c hcc => TQ.bind (open_tq code hc) (fun o ho => TQ.bind (pick_tq o 12 _ ho (by omega)) (fun v hv => ?_)))
  obtain ⟨c1, c2, c3⟩ := hcc
  obtain ⟨l1, l2, l3⟩ := c2.dr
  refine TQ.cond (fun _ => ?_) (fun _ => TQ.cond (fun _ => ?_) (fun _ => TQ.val ⟨c1, by dsimp only; omega, l2, by dsimp only; omega⟩))
  · refine TQ.bind (of_tq _ _ _ hv.1 (by omega) (by decide)) (fun w hw => ?_)
    have hp : ∃ f, Parsed w.1 f := by
      have h2 := hw.2
      simp only [List.mem_cons, List.not_mem_nil, or_false] at h2
      rcases h2 with h2 | h2 | h2 | h2 | h2 | h2 <;> rw [h2]
      · exact ⟨_, t4P22⟩
      · exact ⟨_, t4P23⟩
      · exact ⟨_, t4P24⟩
      · exact ⟨_, t4P25⟩
      · exact ⟨_, t4P26⟩
      · exact ⟨_, t4P27⟩
    obtain ⟨f, hf⟩ := hp
    exact TQ.ev hf.tr (TQ.val ⟨hf.dr.mono (by omega), by dsimp only; omega, l2, by dsimp only; omega⟩)
  · refine TQ.bind (of_tq _ _ _ hv.1 (by omega) (by decide)) (fun w hw => ?_)
    refine TQ.ev (nameForm_tr _) (TQ.chk (by simp; omega) (TQ.val ?_))
    have hs : w.1.size ≤ 100 := by
      have h2 := hw.2
      simp only [List.mem_cons, List.not_mem_nil, or_false] at h2
      rcases h2 with h2 | h2 | h2 <;> rw [h2] <;> decide
    have hd := nameForm_dr hs
    exact ⟨c1, by rw [Form.ws_append, Form.ws_one]; have := hd.w; omega, Form.fits_app l2 (Form.fits_one hd.fit), by simp; omega⟩
end Go.Abs
end
section
set_option linter.unusedVariables false
set_option linter.unusedSimpArgs false
namespace Go.Abs
theorem loop_app {α β γ : Type} {xs : List α} {c : Nat} {f : α → β} {L : Nat → Int → List β → Option γ} {E : Nat → α → Option β} {fin : List β → γ}
    (h0 : ∀ m k acc, L (m + 1) k acc = bif decide (k < (xs.length : Int)) then (idx xs k).bind fun a => (E m a).bind fun v => chk (decide ((acc.length + [v].length) * c ≤ 140737488355328)) (L m (k + 1) (acc ++ [v])) else some (fin acc))
    (hE : ∀ a ∈ xs, Tr (fun m => E m a) (f a)) (acc0 : List β) (hb : (acc0.length + xs.length) * c ≤ 140737488355328) : Tr (fun m => L m 0 acc0) (fin (acc0 ++ xs.map f)) := by
  have key := drop_ind xs (fun k zs => ∀ acc : List β, (acc.length + zs.length) * c ≤ 140737488355328 → Tr (fun m => L m (k : Int) acc) (fin (acc ++ zs.map f))) ?_ ?_ 0 (Nat.zero_le _) acc0 (by simpa using hb)
  · simpa using key
  · intro acc _
    refine Tr.step (fun m => by rw [h0, ltN_self, cond_false]) ?_
    rw [List.map_nil, List.append_nil]; exact Tr.val
  · intro k x zs hk hx hd ih acc hc
    refine Tr.step (fun m => by rw [h0, ltN hk, cond_true, idx_nat hx, Option.bind_some, succN]) ?_
    refine Tr.bind (hE x (List.mem_of_getElem? hx)) ?_
    have hc1 : (acc.length + 1) * c ≤ 140737488355328 := Nat.le_trans (Nat.mul_le_mul_right c (by simp)) hc
    refine Tr.chk (decide_eq_true (by simpa using hc1)) ?_
    have := ih (acc ++ [f x]) (by
      refine Nat.le_trans (Nat.mul_le_mul_right c ?_) hc
      simp; omega)
    rwa [List.append_assoc] at this
theorem clone_tr (l : List Int) (h : l.length ≤ 2 ^ 36) : Tr (fun m => m_slices_Clone_int m l) l :=
  Tr.eq (fun m => by unfold m_slices_Clone_int; rfl) (Tr.chk (decide_eq_true (by simp; omega)) Tr.val)
theorem copyForm_n : ∀ (n : Nat) (f : Form), f.w ≤ n → f.w ≤ 2 ^ 36 → Tr (fun m => m_impl_copyForm m f) f := by
  intro n
  induction n with
  | zero => intro f h _; have := f.w_kids; omega
  | succ n ih =>
    intro f h hb
    have hw := f.w_kids
    have hl := Form.ws_len f.kids
    refine Tr.step (fun m => by rw [m_impl_copyForm]) (Tr.bind (clone_tr _ (by omega)) ?_)
    have := loop_app (xs := f.kids) (c := 80) (f := fun x => x) (L := fun m k acc => m_impl_copyForm_l1 m f f.scopes k acc) (E := fun m a => m_impl_copyForm m a) (fin := fun g => Form.mk f.kind f.name f.n f.scopes g)
      (fun m k acc => by rw [m_impl_copyForm_l1]) (fun a ha => ih a (by have := Form.ws_mem ha; omega) (by have := Form.ws_mem ha; omega)) [] (by simp; omega)
    rw [List.map_id', List.nil_append] at this
    obtain ⟨a, b, c, d, e⟩ := f
    exact this
theorem copyForm_tr (f : Form) (h : f.w ≤ 2 ^ 36) : Tr (fun m => m_impl_copyForm m f) f := copyForm_n _ f (Nat.le_refl _) h
theorem ownForm_n : ∀ (n : Nat) (f : Form), f.w ≤ n → f.w ≤ 2 ^ 36 → Tr (fun m => m_spec_l15OwnForm m f) f := by
  intro n
  induction n with
  | zero => intro f h _; have := f.w_kids; omega
  | succ n ih =>
    intro f h hb
    have hw := f.w_kids
    have hl := Form.ws_len f.kids
    refine Tr.step (fun m => by rw [m_spec_l15OwnForm]) (Tr.chk (decide_eq_true (by simp; omega)) (Tr.bind (v := f.kids) (Tr.step (fun m => by rw [m_spec_l15OwnListForm]) ?_) ?_))
    · have := loop_app (xs := f.kids) (c := 80) (f := fun x => x) (L := fun m k acc => m_spec_l15OwnListForm_l1 m f.kids acc k) (E := fun m a => m_spec_l15OwnForm m a) (fin := fun g => g)
        (fun m k acc => by rw [m_spec_l15OwnListForm_l1]) (fun a ha => ih a (by have := Form.ws_mem ha; omega) (by have := Form.ws_mem ha; omega)) [] (by simp; omega)
      simpa using this
    · obtain ⟨a, b, c, d, e⟩ := f
      exact Tr.val
theorem ownForm_tr (f : Form) (h : f.w ≤ 2 ^ 36) : Tr (fun m => m_spec_l15OwnForm m f) f := ownForm_n _ f (Nat.le_refl _) h
theorem mxForms_tr (a b : List Form) : Tr (fun m => m_laws_mxForms m a b) (same a b) := by
  refine Tr.eq (fun m => by unfold m_laws_mxForms; rfl) ?_
  by_cases h : a.length = b.length
  · exact Tr.ff (lenE h) (loop_eq h (L := fun m k => m_laws_mxForms_l1 m a b k) (E := fun m x y => m_impl_FormSame m x y) (fun m k => by rw [m_laws_mxForms_l1]) (fun x _ y _ => implFormSame_tr x y))
  · rw [same_len h]; exact Tr.tt (lenB h) Tr.val
theorem mxInts_tr (a b : List Int) : Tr (fun m => m_laws_mxInts m a b) (same a b) := by
  refine Tr.eq (fun m => by unfold m_laws_mxInts; rfl) ?_
  by_cases h : a.length = b.length
  · exact Tr.ff (lenE h) (loop_eqI h (L := fun m k => m_laws_mxInts_l1 m a b k) (fun m k => by rw [m_laws_mxInts_l1]))
  · rw [same_len h]; exact Tr.tt (lenB h) Tr.val
noncomputable def pvars (f : Form) (lits : List Form) : List Form := bif patOk f lits then f.vs lits else []
noncomputable def pdeps (f : Form) (lits : List Form) : List Int := bif patOk f lits then (f.vd lits 0).map (·.2) else []
theorem Form.vs_w (lits : List Form) (f : Form) : ∀ x ∈ f.vs lits, x.w ≤ f.w := by
  have key : ∀ (n : Nat) (f : Form), f.w ≤ n → ∀ x ∈ f.vs lits, x.w ≤ f.w := by
    intro n
    induction n with
    | zero => intro f h; have := f.w_kids; omega
    | succ n ih =>
      intro f h x hx
      have hw := f.w_kids
      rw [Form.vs_eq] at hx
      rcases List.mem_append.1 hx with hx | hx
      · cases hv : isVarB lits f with
        | true => rw [hv, cond_true, List.mem_singleton] at hx; subst hx; exact Nat.le_refl _
        | false => rw [hv, cond_false] at hx; cases hx
      · have k2 : ∀ l : List Form, Form.ws l ≤ n → x ∈ Form.kVs lits l → x.w ≤ Form.ws l := by
          intro l
          induction l with
          | nil => intro _ hx; rw [Form.kVs] at hx; cases hx
          | cons y l ihl =>
            intro hl hx
            rw [Form.ws] at hl ⊢
            rw [Form.kVs] at hx
            rcases List.mem_append.1 hx with hx | hx
            · have := ih y (by omega) x hx; omega
            · have := ihl (by omega) hx; omega
        have := k2 f.kids (by omega) hx
        omega
  exact key _ f (Nat.le_refl _)
theorem implPatternVars_tr (f : Form) (lits : List Form) (hf : f.fit) (hb : f.w ≤ 2 ^ 36) (hl : Form.fits lits) : Tr (fun m => m_impl_PatternVars m f lits) (pvars f lits) := by
  refine Tr.eq (fun m => by unfold m_impl_PatternVars; rfl) (Tr.bind (implPatternValid_tr f lits hf hb hl) ?_)
  unfold pvars
  cases patOk f lits with
  | false => exact Tr.tt rfl Tr.val
  | true =>
  refine Tr.ff rfl (Tr.bind (varsOf_tr f lits hb) ?_)
  rw [cond_true, ← Form.vd_fst lits f 0]
  have hlen := Form.vd_len lits f 0
  have key := drop_ind ((f.vd lits 0).map (·.1)) (fun k zs => Tr (fun m => m_impl_PatternVars_l1 m ((f.vd lits 0).map (·.1), (f.vd lits 0).map (·.2)) (k : Int) ((f.vd lits 0).map (·.1))) ((f.vd lits 0).map (·.1))) ?_ ?_ 0 (Nat.zero_le _)
  · exact key
  · exact Tr.step (fun m => by rw [m_impl_PatternVars_l1, ltN_self, cond_false]) Tr.val
  · intro k x zs hk hx hd ih
    have hm := List.mem_of_getElem? hx
    rw [Form.vd_fst] at hm
    refine Tr.step (fun m => by rw [m_impl_PatternVars_l1, ltN hk, cond_true, idx_nat hx, Option.bind_some]) ?_
    refine Tr.bind (copyForm_tr x (by have := Form.vs_w lits f x hm; omega)) (Tr.eq (fun m => by rw [Option.bind_some, w64_in (by rw [List.length_map] at hk; omega), succN, Int.toNat_natCast]) ?_)
    obtain ⟨h1, h2⟩ := List.getElem?_eq_some_iff.1 hx
    rw [show ((f.vd lits 0).map (·.1)).set k x = (f.vd lits 0).map (·.1) by rw [← h2]; exact List.set_getElem_self h1]
    exact ih
theorem l4Vars_nil (f : Form) (lits : List Form) (hb : f.w ≤ 2 ^ 36) : Tr (fun m => m_spec_l4Vars m [] f lits) (f.vs lits) := by
  have := (l4Vars_n lits _ f [] (Nat.le_refl _) (by simp; omega)).1
  simpa using this
theorem l4Depths_nil (f : Form) (lits : List Form) (hb : f.w ≤ 2 ^ 36) : Tr (fun m => m_spec_l4Depths m [] f lits 0) ((f.vd lits 0).map (·.2)) := by
  have := l4Depths_n lits _ f 0 [] (Nat.le_refl _) (by omega) (by simp; omega)
  simpa using this
theorem specPatternVars_tr (f : Form) (lits : List Form) (hf : f.fit) (hb : f.w ≤ 2 ^ 36) (hl : Form.fits lits) (hlb : Form.ws lits ≤ 2 ^ 36) : Tr (fun m => m_spec_PatternVars m f lits) (pvars f lits) := by
  refine Tr.eq (fun m => by unfold m_spec_PatternVars; rfl) (Tr.bind (ownForm_tr f hb) (Tr.bind (l4Is_tr f lits hf hb hl hlb) ?_))
  unfold pvars
  cases patOk f lits with
  | false => exact Tr.tt rfl Tr.val
  | true => exact Tr.ff rfl (Tr.bind (l4Vars_nil f lits hb) Tr.val)
theorem implVarDepths_tr (f : Form) (lits : List Form) (hf : f.fit) (hb : f.w ≤ 2 ^ 36) (hl : Form.fits lits) : Tr (fun m => m_impl_VarDepths m f lits) (pdeps f lits) := by
  refine Tr.eq (fun m => by unfold m_impl_VarDepths; rfl) (Tr.bind (implPatternValid_tr f lits hf hb hl) ?_)
  unfold pdeps
  cases patOk f lits with
  | false => exact Tr.tt rfl Tr.val
  | true => exact Tr.ff rfl (Tr.bind (varsOf_tr f lits hb) Tr.val)
theorem specVarDepths_tr (f : Form) (lits : List Form) (hf : f.fit) (hb : f.w ≤ 2 ^ 36) (hl : Form.fits lits) (hlb : Form.ws lits ≤ 2 ^ 36) : Tr (fun m => m_spec_VarDepths m f lits) (pdeps f lits) := by
  refine Tr.eq (fun m => by unfold m_spec_VarDepths; rfl) (Tr.bind (l4Is_tr f lits hf hb hl hlb) ?_)
  unfold pdeps
  cases patOk f lits with
  | false => exact Tr.tt rfl Tr.val
  | true => exact Tr.ff rfl (Tr.bind (l4Depths_nil f lits hb) Tr.val)
theorem specPatternValid_tr (f : Form) (lits : List Form) (hf : f.fit) (hb : f.w ≤ 2 ^ 36) (hl : Form.fits lits) (hlb : Form.ws lits ≤ 2 ^ 36) : Tr (fun m => m_spec_PatternValid m f lits) (patOk f lits) := by
  refine Tr.eq (fun m => by unfold m_spec_PatternValid; rfl) (Tr.bind (l4Is_tr f lits hf hb hl hlb) Tr.val)
mutual
noncomputable def Form.part (x : Form) : Form → Bool
  | .mk a b c d kids => same (Form.mk a b c d kids) x || Form.parts x kids
noncomputable def Form.parts (x : Form) : List Form → Bool
  | [] => false
  | y :: ys => Form.part x y || Form.parts x ys
end
theorem codeB {code : List Int} {F G : Nat → Option Bool} (h : ¬ 1048576 < (code.length : Int) → TQ G (fun r => r = true)) (h0 : ∀ m, F m = bif decide (1048576 < (code.length : Int)) then some true else G m) : TQ F (fun r => r = true) :=
  TQ.eq h0 (TQ.cond (fun _ => TQ.val rfl) (fun hc => h (by simpa using hc)))
theorem distF_ne : ∀ {l ps : List Form}, distF ps l = true → (∀ x ∈ l, ∀ y ∈ ps, same y x = false) ∧ ∀ (i j : Nat) (x y : Form), i < j → l[i]? = some x → l[j]? = some y → same x y = false
  | [], ps, _ => ⟨fun x hx => by simp at hx, fun i j x y _ hx => by simp at hx⟩
  | z :: l, ps, h => by
    rw [distF, Bool.and_eq_true] at h
    obtain ⟨h1, h2⟩ := h
    obtain ⟨k1, k2⟩ := distF_ne h2
    have hz : ∀ y ∈ ps, same y z = false := fun y hy => by
      unfold inF at h1
      rw [Bool.not_not, alls_iff] at h1
      simpa using h1 y hy
    refine ⟨fun x hx y hy => ?_, fun i j x y hij hx hy => ?_⟩
    · rcases List.mem_cons.1 hx with rfl | hx
      · exact hz y hy
      · exact k1 x hx y (by simp [hy])
    · cases j with
      | zero => omega
      | succ j =>
        cases i with
        | zero =>
          simp at hx; subst hx
          exact k1 y (List.mem_of_getElem? (by simpa using hy)) z (by simp)
        | succ i => exact k2 i j x y (by omega) (by simpa using hx) (by simpa using hy)
theorem FnPatternValid_law (code : List Int) (hc : ∀ x ∈ code, 0 ≤ x ∧ x < 256) : TQ (fun m => m_laws_FnPatternValid m code) (fun r => r = true) := by
  refine codeB (fun _ => ?_) (fun m => by unfold m_laws_FnPatternValid; rfl)
  refine TQ.bind (DrawPatternValid_tq code hc) (fun v hv => TQ.same ?_)
  have hw := hv.p.w
  have hlw := hv.lw
  have b1 : v.1.w ≤ 2 ^ 36 := by omega
  have b2 : Form.ws v.2 ≤ 2 ^ 36 := by omega
  have t1 := implPatternValid_tr v.1 v.2 hv.p.fit b1 hv.lf
  have t2 := specPatternValid_tr v.1 v.2 hv.p.fit b1 hv.lf b2
  have t3 := specPatternVars_tr v.1 v.2 hv.p.fit b1 hv.lf b2
  refine Tr.bind t1 (Tr.bind (implPatternVars_tr v.1 v.2 hv.p.fit b1 hv.lf) (Tr.bind (implVarDepths_tr v.1 v.2 hv.p.fit b1 hv.lf) (Tr.bind t2 (Tr.ff (by simp) (Tr.bind t3 (Tr.bind (mxForms_tr _ _) ?_))))))
  rw [same_self]
  refine Tr.ff rfl (Tr.bind (specVarDepths_tr v.1 v.2 hv.p.fit b1 hv.lf b2) (Tr.bind (mxInts_tr _ _) ?_))
  rw [same_self]
  refine Tr.ff rfl (Tr.step (fun m => by rw [m_laws_FnPatternValid_j1]) ?_)
  cases hp : patOk v.1 v.2 with
  | false =>
    rw [hp] at t2
    refine Tr.tt rfl (Tr.bind t2 (Tr.tt (by simp) (Tr.bind t3 (Tr.bind (mxForms_tr _ _) ?_))))
    rw [same_self]
    refine Tr.tt rfl (Tr.step (fun m => by rw [m_laws_FnPatternValid_j2]) ?_)
    unfold pdeps
    rw [hp]
    exact Tr.val
  | true =>
    refine Tr.ff rfl ?_
    have hvars : pvars v.1 v.2 = (v.1.vd v.2 0).map (·.1) := by unfold pvars; rw [hp, cond_true, Form.vd_fst]
    have hdeps : pdeps v.1 v.2 = (v.1.vd v.2 0).map (·.2) := by unfold pdeps; rw [hp, cond_true]
    rw [hvars, hdeps]
    have hlen := Form.vd_len v.2 v.1 0
    unfold patOk at hp
    simp only [Bool.and_eq_true] at hp
    obtain ⟨_, _, _, ⟨hdi, hds⟩, _⟩ := hp
    rw [← Form.vd_fst v.2 v.1 0] at hdi
    have hnn := Form.vd_nn v.2 v.1 0
    unfold dsOk at hds
    rw [alls_iff] at hds
    have hne := (distF_ne hdi).2
    generalize hL : v.1.vd v.2 0 = L at hdi hds hnn hlen hne ⊢
    have key := drop_ind L (fun k zs => Tr (fun m => m_laws_FnPatternValid_l3 m (L.map (·.1)) (L.map (·.2)) (k : Int)) true) ?_ ?_ 0 (Nat.zero_le _)
    · exact key
    · exact Tr.step (fun m => by rw [m_laws_FnPatternValid_l3, List.length_map, List.length_map, ltN_self, cond_false, decide_eq_true rfl]) Tr.val
    · intro k z zs hk hx hd ih
      have hx1 : (L.map (·.1))[k]? = some z.1 := by rw [List.getElem?_map, hx]; rfl
      have hx2 : (L.map (·.2))[k]? = some z.2 := by rw [List.getElem?_map, hx]; rfl
      have hm := List.mem_of_getElem? hx
      refine Tr.step (fun m => by rw [m_laws_FnPatternValid_l3, List.length_map, ltN hk, cond_true]) ?_
      have inner : ∀ d j : Nat, j + d = k → Tr (fun m => m_laws_FnPatternValid_l5 m (L.map (·.1)) (L.map (·.2)) (k : Int) (j : Int)) true := by
        intro d
        induction d with
        | zero =>
          intro j hj
          obtain rfl : j = k := by omega
          refine Tr.step (fun m => by rw [m_laws_FnPatternValid_l5, ltN_self, cond_false]) ?_
          refine Tr.step (fun m => by rw [m_laws_FnPatternValid_j4, idx_nat hx2, Option.bind_some]) ?_
          have h0 := hnn z hm
          have h3 := hds z.2 (List.mem_map_of_mem hm)
          replace h3 : ¬ 3 < z.2 := by simpa using h3
          refine Tr.ff (decide_eq_false (by omega)) (Tr.eq (fun m => by rw [Option.bind_some, decide_eq_false h3]) (Tr.step (fun m => by rw [m_laws_FnPatternValid_j6, cond_false, succN]) ih))
        | succ d ihd =>
          intro j hj
          have hjl : j < (L.map (·.1)).length := by rw [List.length_map]; omega
          have hy := List.getElem?_eq_getElem hjl
          refine Tr.step (fun m => by rw [m_laws_FnPatternValid_l5, ltN (show j < k by omega), cond_true, idx_nat hx1, Option.bind_some, idx_nat hy, Option.bind_some, w64_in (by omega), succN]) ?_
          refine Tr.bind (implFormSame_tr _ _) ?_
          rw [same_comm, hne j k _ _ (by omega) hy hx1]
          exact Tr.ff rfl (ihd (j + 1) (by omega))
      exact inner k 0 (by omega)
end Go.Abs
end
section
namespace Go.Abs
open Go.Proofs
theorem FnPatternValid_ac (a0 : List Int) (o0 : ∀ x ∈ a0, 0 ≤ x ∧ x < 256) : AC Try.prog 6 [.t (.sl (a0.map rB))] noOb (.t (.sc (.bool true))) noOb := by
  obtain ⟨r, hr, rfl⟩ := FnPatternValid_law a0 o0
  obtain ⟨n, hn⟩ := hr.get
  exact m_laws_FnPatternValid_ok n _ _ hn
end Go.Abs
end
section
set_option linter.unusedVariables false
namespace Go.Abs
section
variable {H : Type} {enc : TypeId × Value → H} {P : Program} {w : World} {base : Nat} {spare : Nat → Bool} {held : Bool}
theorem trod_bs {fuel : Nat} {t e : TypeId} {cs : List Value} {x : DataW H × List MemPlace} (ht : P.underlying t = some (.slice e)) (he : P.underlying e = some (.int .u8)) (hc : szOf P e = some 1) (h : DataW.trod enc P w base spare held fuel t cs = some x) :
    ∃ (l : List Int) (c : Value), cs = [c] ∧ T.Is (G0 w) (.sl (l.map rB)) c ∧ T.ok (.sl (l.map rB)) :=
  trod_l (fun n => [.sc (.int .u8 n)]) (sz := 0) ht hc (fun n cs' y _ h => by
    obtain ⟨k, h1, h2, _⟩ := trod_i he h
    exact ⟨k, h1, rfl, by simp only [T.okL]; exact ⟨h2, trivial⟩⟩) h
end
theorem bytes_ok {l : List Int} (h : T.ok (.sl (l.map rB))) : ∀ x ∈ l, 0 ≤ x ∧ x < 256 := fun x hx => by
  rw [T.ok] at h
  have := T.okR_mem h.2 (List.mem_map_of_mem (f := rB) hx)
  simp only [T.okL, T.ok, S.ok] at this
  have := this.1
  have e1 : IntKind.u8.min = 0 := rfl
  have e2 : IntKind.u8.max = 255 := rfl
  simp [Lit.wf] at this
  omega
end Go.Abs
end
