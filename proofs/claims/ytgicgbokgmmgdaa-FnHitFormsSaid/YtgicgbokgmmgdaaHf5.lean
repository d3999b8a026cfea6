/- A part of the proof: what the functions that the law calls answer, as pure values. -/
import Derived.Test.YtgicgbokgmmgdaaHf4
import Derived.Lib.Bytealg
set_option linter.unusedSimpArgs false
set_option linter.unusedVariables false
section
set_option linter.unusedVariables false
namespace Go.Abs
theorem ac_two {P : Program} {f : FuncId} {a b r : S} (hfn : ∃ fn, P.funcs[f]? = some fn ∧ fn.body.isSome = true ∧ (fn.name == "runtime.NumGoroutine") = false) (h : ∀ w, Calls P f #[a.v, b.v] w fun e w' => e = .returned r.v ∧ w' = w) :
    AC P f [.t (.sc a), .t (.sc b)] noOb (.t (.sc r)) noOb := by
  refine ⟨hfn, ?_⟩
  intro w G X own xs hM hx
  rw [V.IsL] at hx
  obtain ⟨y, ys, rfl, h1, hx⟩ := hx
  rw [V.IsL] at hx
  obtain ⟨z, zs, rfl, h2, hx⟩ := hx
  rw [V.IsL] at hx
  subst hx
  rw [V.Is, T.Is] at h1 h2
  subst h1; subst h2
  refine (h w).mono ?_
  rintro e w' ⟨rfl, rfl⟩
  exact ⟨_, G, X, rfl, hM, by rw [V.Is, T.Is]⟩
end Go.Abs
end
section
set_option maxHeartbeats 4000000
set_option linter.unusedVariables false
namespace Go.Abs
def m_spec_l1Letter (fuel : Nat) (x1 : Int) (x2 : Bool) : Option Bool :=
 (bif (decide (97 ≤ x1)) then
 (bif (decide (x1 ≤ 122)) then
 some true
 else
 (bif (decide (x1 = 42)) then
 some true
 else
 (bif (decide (x1 = 63)) then
 some true
 else
 (bif (decide (x1 = 61)) then
 some true
 else
 (bif (decide (x1 = 43)) then
 some true
 else
 (bif (decide (x1 = 60)) then
 some true
 else
 (bif (!x2) then
 (bif (decide (48 ≤ x1)) then
 (bif (decide (x1 ≤ 57)) then
 some true
 else
 some (decide (x1 = 45)))
 else
 some (decide (x1 = 45)))
 else
 some false)))))))
 else
 (bif (decide (x1 = 42)) then
 some true
 else
 (bif (decide (x1 = 63)) then
 some true
 else
 (bif (decide (x1 = 61)) then
 some true
 else
 (bif (decide (x1 = 43)) then
 some true
 else
 (bif (decide (x1 = 60)) then
 some true
 else
 (bif (!x2) then
 (bif (decide (48 ≤ x1)) then
 (bif (decide (x1 ≤ 57)) then
 some true
 else
 some (decide (x1 = 45)))
 else
 some (decide (x1 = 45)))
 else
 some false)))))))
def m_spec_NameValid_l1 (fuel : Nat) (x1 : ByteArray) (g3 : Int) : Option Bool :=
 match fuel with
 | 0 => none
 | fuel + 1 =>
 (bif (decide (g3 < (x1.size : Int))) then
 (bif (decide (g3 ≤ 12)) then
 (bidx x1 g3).bind fun v7 =>
 (m_spec_l1Letter fuel v7 (decide (g3 = 0))).bind fun v8 =>
 (bif (!v8) then
 some false
 else
 m_spec_NameValid_l1 fuel x1 (w64 (g3 + 1)))
 else
 (bif (decide (1 ≤ (x1.size : Int))) then
 some (decide ((x1.size : Int) ≤ 12))
 else
 some false))
 else
 (bif (decide (1 ≤ (x1.size : Int))) then
 some (decide ((x1.size : Int) ≤ 12))
 else
 some false))
def m_spec_NameValid (fuel : Nat) (x1 : ByteArray) : Option Bool :=
 (bif (decide (x1 = (⟨#[46, 46, 46]⟩ : ByteArray))) then
 some true
 else
 (bif (decide (x1 = (⟨#[95]⟩ : ByteArray))) then
 some true
 else
 m_spec_NameValid_l1 fuel x1 0))
def m_spec_l1Scopes_l1 (fuel : Nat) (x1 : (List Int)) (g1 : Int) : Option Bool :=
 match fuel with
 | 0 => none
 | fuel + 1 =>
 (bif (decide (g1 < (x1.length : Int))) then
 (bif (decide (g1 ≤ 24)) then
 (idx x1 g1).bind fun v5 =>
 (bif (decide (v5 < 1)) then
 some false
 else
 (idx x1 g1).bind fun v7 =>
 (bif (decide (99 < v7)) then
 some false
 else
 (bif (decide (0 < g1)) then
 (idx x1 g1).bind fun v10 =>
 (idx x1 (w64 (g1 - 1))).bind fun v11 =>
 (bif (decide (v10 ≤ v11)) then
 some false
 else
 m_spec_l1Scopes_l1 fuel x1 (w64 (g1 + 1)))
 else
 m_spec_l1Scopes_l1 fuel x1 (w64 (g1 + 1)))))
 else
 some (decide ((x1.length : Int) ≤ 24)))
 else
 some (decide ((x1.length : Int) ≤ 24)))
def m_spec_l1Scopes (fuel : Nat) (x1 : (List Int)) : Option Bool :=
 m_spec_l1Scopes_l1 fuel x1 0
mutual
def m_spec_l1Is (fuel : Nat) (x1 : Form) (x2 : Int) : Option Bool :=
 match fuel with
 | 0 => none
 | fuel + 1 =>
 (bif (decide (x2 = 0)) then
 some false
 else
 (bif (decide (x1.kind = 1)) then
 (m_spec_NameValid fuel x1.name).bind fun v3 =>
 (bif v3 then
 (bif (decide (x1.n = 0)) then
 (m_spec_l1Scopes fuel x1.scopes).bind fun v6 =>
 (bif v6 then
 some (decide ((x1.kids.length : Int) = 0))
 else
 some false)
 else
 some false)
 else
 some false)
 else
 (bif (decide (x1.kind = 2)) then
 (bif (decide (x1.name = (⟨#[]⟩ : ByteArray))) then
 (bif (decide (0 ≤ x1.n)) then
 (bif (decide (x1.n ≤ 999)) then
 (bif (decide ((x1.scopes.length : Int) = 0)) then
 some (decide ((x1.kids.length : Int) = 0))
 else
 some false)
 else
 some false)
 else
 some false)
 else
 some false)
 else
 (bif (decide (x1.kind ≠ 3)) then
 some false
 else
 (bif (decide (x1.name ≠ (⟨#[]⟩ : ByteArray))) then
 some false
 else
 (bif (decide (x1.n ≠ 0)) then
 some false
 else
 (bif (decide ((x1.scopes.length : Int) ≠ 0)) then
 some false
 else
 m_spec_l1Is_l1 fuel x1 x2 0)))))))
def m_spec_l1Is_l1 (fuel : Nat) (x1 : Form) (x2 : Int) (g17 : Int) : Option Bool :=
 match fuel with
 | 0 => none
 | fuel + 1 =>
 (bif (decide (g17 < (x1.kids.length : Int))) then
 (idx x1.kids g17).bind fun v21 =>
 (m_spec_l1Is fuel v21 (w64 (x2 - 1))).bind fun v22 =>
 (bif (!v22) then
 some false
 else
 m_spec_l1Is_l1 fuel x1 x2 (g17 + 1))
 else
 some true)
end
mutual
def m_spec_l1Count (fuel : Nat) (x1 : Form) : Option Int :=
 match fuel with
 | 0 => none
 | fuel + 1 =>
 m_spec_l1Count_l1 fuel x1 1 0
def m_spec_l1Count_l1 (fuel : Nat) (x1 : Form) (g1 : Int) (g2 : Int) : Option Int :=
 match fuel with
 | 0 => none
 | fuel + 1 =>
 (bif (decide (g2 < (x1.kids.length : Int))) then
 (idx x1.kids g2).bind fun v6 =>
 (m_spec_l1Count fuel v6).bind fun v7 =>
 m_spec_l1Count_l1 fuel x1 (w64 (g1 + v7)) (g2 + 1)
 else
 some g1)
end
def m_spec_FormValid (fuel : Nat) (x1 : Form) : Option Bool :=
 (m_spec_l1Is fuel x1 40).bind fun v1 =>
 (bif v1 then
 (m_spec_l1Count fuel x1).bind fun v3 =>
 some (decide (v3 ≤ 400))
 else
 some false)
def m_spec_l3Is (fuel : Nat) (x1 : Form) : Option Bool :=
 (bif (decide (x1.kind = 1)) then
 (m_spec_FormValid fuel x1).bind fun v2 =>
 some v2
 else
 some false)
def m_spec_l1Ints_l1 (fuel : Nat) (x1 : (List Int)) (x2 : (List Int)) (g2 : Int) : Option Bool :=
 match fuel with
 | 0 => none
 | fuel + 1 =>
 (bif (decide (g2 < (x1.length : Int))) then
 (idx x1 g2).bind fun v6 =>
 (idx x2 g2).bind fun v7 =>
 (bif (decide (v6 ≠ v7)) then
 some false
 else
 m_spec_l1Ints_l1 fuel x1 x2 (g2 + 1))
 else
 some true)
def m_spec_l1Ints (fuel : Nat) (x1 : (List Int)) (x2 : (List Int)) : Option Bool :=
 (bif (decide ((x1.length : Int) ≠ (x2.length : Int))) then
 some false
 else
 m_spec_l1Ints_l1 fuel x1 x2 0)
mutual
def m_spec_FormSame (fuel : Nat) (x1 : Form) (x2 : Form) : Option Bool :=
 match fuel with
 | 0 => none
 | fuel + 1 =>
 (bif (decide (x1.kind ≠ x2.kind)) then
 some false
 else
 (bif (decide (x1.name ≠ x2.name)) then
 some false
 else
 (bif (decide (x1.n ≠ x2.n)) then
 some false
 else
 (m_spec_l1Ints fuel x1.scopes x2.scopes).bind fun v4 =>
 (bif (!v4) then
 some false
 else
 (bif (decide ((x1.kids.length : Int) ≠ (x2.kids.length : Int))) then
 some false
 else
 m_spec_FormSame_l1 fuel x1 x2 0)))))
def m_spec_FormSame_l1 (fuel : Nat) (x1 : Form) (x2 : Form) (g7 : Int) : Option Bool :=
 match fuel with
 | 0 => none
 | fuel + 1 =>
 (bif (decide (g7 < (x1.kids.length : Int))) then
 (idx x1.kids g7).bind fun v11 =>
 (idx x2.kids g7).bind fun v12 =>
 (m_spec_FormSame fuel v11 v12).bind fun v13 =>
 (bif (!v13) then
 some false
 else
 m_spec_FormSame_l1 fuel x1 x2 (g7 + 1))
 else
 some true)
end
mutual
def m_spec_l4Hit (fuel : Nat) (x1 : Hit) (x2 : Int) : Option Bool :=
 match fuel with
 | 0 => none
 | fuel + 1 =>
 (bif (decide (x1.depth ≠ x2)) then
 some false
 else
 (bif (decide (x2 < 0)) then
 some false
 else
 (bif (decide (3 < x2)) then
 some false
 else
 (m_spec_l3Is fuel x1.name).bind fun v4 =>
 (bif (!v4) then
 some false
 else
 (bif (decide (x1.name.name = (⟨#[46, 46, 46]⟩ : ByteArray))) then
 some false
 else
 (bif (decide (x1.name.name = (⟨#[95]⟩ : ByteArray))) then
 some false
 else
 (bif (decide (x2 = 0)) then
 (m_spec_FormValid fuel x1.one).bind fun v9 =>
 (bif v9 then
 some (decide ((x1.many.length : Int) = 0))
 else
 some false)
 else
 m_spec_l4Hit_l1 fuel x1 x2 0)))))))
def m_spec_l4Hit_l1 (fuel : Nat) (x1 : Hit) (x2 : Int) (g11 : Int) : Option Bool :=
 match fuel with
 | 0 => none
 | fuel + 1 =>
 (bif (decide (g11 < (x1.many.length : Int))) then
 (idx x1.many g11).bind fun v15 =>
 (m_spec_FormSame fuel v15.name x1.name).bind fun v16 =>
 (bif (!v16) then
 some false
 else
 (idx x1.many g11).bind fun v18 =>
 (m_spec_l4Hit fuel v18 (w64 (x2 - 1))).bind fun v19 =>
 (bif (!v19) then
 some false
 else
 m_spec_l4Hit_l1 fuel x1 x2 (g11 + 1)))
 else
 (m_spec_FormSame fuel x1.one (Form.mk 0 (⟨#[]⟩ : ByteArray) 0 ([] : List Int) ([] : List Form))).bind fun v21 =>
 (bif v21 then
 some (decide ((x1.many.length : Int) ≤ 400))
 else
 some false))
end
def m_spec_l4Dots (fuel : Nat) (x1 : Form) : Option Bool :=
 (bif (decide (x1.kind = 1)) then
 some (decide (x1.name = (⟨#[46, 46, 46]⟩ : ByteArray)))
 else
 some false)
def m_strings_IndexByte (fuel : Nat) (x1 : ByteArray) (x2 : Int) : Option Int :=
 some (Lib.indexByte x1.data.toList x2.toNat.toUInt8)
def m_impl_within (fuel : Nat) (x1 : Int) (x2 : Int) (x3 : Int) : Option Bool :=
 (bif (decide (x2 ≤ x1)) then
 some (decide (x1 ≤ x3))
 else
 some false)
def m_impl_NameValid_l1 (fuel : Nat) (x1 : ByteArray) (g3 : Int) : Option Bool :=
 match fuel with
 | 0 => none
 | fuel + 1 =>
 (bif (decide (g3 < (x1.size : Int))) then
 (bidx x1 g3).bind fun v6 =>
 (bif (decide (97 ≤ v6)) then
 (bif (decide (v6 ≤ 122)) then
 m_impl_NameValid_l1 fuel x1 (w64 (g3 + 1))
 else
 (m_strings_IndexByte fuel (⟨#[42, 63, 61, 43, 60]⟩ : ByteArray) v6).bind fun v9 =>
 (bif (decide (0 ≤ v9)) then
 m_impl_NameValid_l1 fuel x1 (w64 (g3 + 1))
 else
 (bif (decide (0 < g3)) then
 (bif (decide (48 ≤ v6)) then
 (bif (decide (v6 ≤ 57)) then
 m_impl_NameValid_l1 fuel x1 (w64 (g3 + 1))
 else
 (bif (decide (v6 = 45)) then
 m_impl_NameValid_l1 fuel x1 (w64 (g3 + 1))
 else
 some false))
 else
 (bif (decide (v6 = 45)) then
 m_impl_NameValid_l1 fuel x1 (w64 (g3 + 1))
 else
 some false))
 else
 some false)))
 else
 (m_strings_IndexByte fuel (⟨#[42, 63, 61, 43, 60]⟩ : ByteArray) v6).bind fun v16 =>
 (bif (decide (0 ≤ v16)) then
 m_impl_NameValid_l1 fuel x1 (w64 (g3 + 1))
 else
 (bif (decide (0 < g3)) then
 (bif (decide (48 ≤ v6)) then
 (bif (decide (v6 ≤ 57)) then
 m_impl_NameValid_l1 fuel x1 (w64 (g3 + 1))
 else
 (bif (decide (v6 = 45)) then
 m_impl_NameValid_l1 fuel x1 (w64 (g3 + 1))
 else
 some false))
 else
 (bif (decide (v6 = 45)) then
 m_impl_NameValid_l1 fuel x1 (w64 (g3 + 1))
 else
 some false))
 else
 some false)))
 else
 (m_impl_within fuel (x1.size : Int) 1 12).bind fun v23 =>
 some v23)
def m_impl_NameValid (fuel : Nat) (x1 : ByteArray) : Option Bool :=
 (bif (decide (x1 = (⟨#[46, 46, 46]⟩ : ByteArray))) then
 some true
 else
 (bif (decide (x1 = (⟨#[95]⟩ : ByteArray))) then
 some true
 else
 m_impl_NameValid_l1 fuel x1 0))
def m_impl_scopesOk_l1 (fuel : Nat) (x1 : (List Int)) (g1 : Int) : Option Bool :=
 match fuel with
 | 0 => none
 | fuel + 1 =>
 (bif (decide (g1 < (x1.length : Int))) then
 (idx x1 g1).bind fun v5 =>
 (m_impl_within fuel v5 1 99).bind fun v6 =>
 (bif (!v6) then
 some false
 else
 (bif (decide (0 < g1)) then
 (idx x1 (w64 (g1 - 1))).bind fun v9 =>
 (bif (decide (v5 ≤ v9)) then
 some false
 else
 m_impl_scopesOk_l1 fuel x1 (g1 + 1))
 else
 m_impl_scopesOk_l1 fuel x1 (g1 + 1)))
 else
 some (decide ((x1.length : Int) ≤ 24)))
def m_impl_scopesOk (fuel : Nat) (x1 : (List Int)) : Option Bool :=
 m_impl_scopesOk_l1 fuel x1 0
mutual
def m_impl_formOk (fuel : Nat) (x1 : Form) (x2 : Int) (o1 : Int) : Option (Bool × Int) :=
 match fuel with
 | 0 => none
 | fuel + 1 =>
 (bif (decide ((w64 (o1 - 1)) < 0)) then
 some (false, (w64 (o1 - 1)))
 else
 (bif (decide (40 < x2)) then
 some (false, (w64 (o1 - 1)))
 else
 (bif (decide (x1.kind = 1)) then
 (m_impl_NameValid fuel x1.name).bind fun v4 =>
 (bif v4 then
 (bif (decide (x1.n = 0)) then
 (m_impl_scopesOk fuel x1.scopes).bind fun v7 =>
 (bif v7 then
 some ((decide ((x1.kids.length : Int) = 0)), (w64 (o1 - 1)))
 else
 some (false, (w64 (o1 - 1))))
 else
 some (false, (w64 (o1 - 1))))
 else
 some (false, (w64 (o1 - 1))))
 else
 (bif (decide (x1.kind = 2)) then
 (bif (decide (x1.name = (⟨#[]⟩ : ByteArray))) then
 (m_impl_within fuel x1.n 0 999).bind fun v11 =>
 (bif v11 then
 (bif (decide ((x1.scopes.length : Int) = 0)) then
 some ((decide ((x1.kids.length : Int) = 0)), (w64 (o1 - 1)))
 else
 some (false, (w64 (o1 - 1))))
 else
 some (false, (w64 (o1 - 1))))
 else
 some (false, (w64 (o1 - 1))))
 else
 (bif (decide (x1.kind = 3)) then
 (bif (decide (x1.name ≠ (⟨#[]⟩ : ByteArray))) then
 some (false, (w64 (o1 - 1)))
 else
 (bif (decide (x1.n ≠ 0)) then
 some (false, (w64 (o1 - 1)))
 else
 (bif (decide (0 < (x1.scopes.length : Int))) then
 some (false, (w64 (o1 - 1)))
 else
 m_impl_formOk_l1 fuel x1 x2 0 (w64 (o1 - 1)))))
 else
 some (false, (w64 (o1 - 1))))))))
def m_impl_formOk_l1 (fuel : Nat) (x1 : Form) (x2 : Int) (g19 : Int) (g20 : Int) : Option (Bool × Int) :=
 match fuel with
 | 0 => none
 | fuel + 1 =>
 (bif (decide (g19 < (x1.kids.length : Int))) then
 (idx x1.kids g19).bind fun v24 =>
 (m_impl_formOk fuel v24 (w64 (x2 + 1)) g20).bind fun v25 =>
 (bif (!v25.1) then
 some (false, v25.2)
 else
 m_impl_formOk_l1 fuel x1 x2 (g19 + 1) v25.2)
 else
 some (true, g20))
end
def m_impl_FormValid (fuel : Nat) (x1 : Form) : Option Bool :=
 (m_impl_formOk fuel x1 1 400).bind fun v1 =>
 some v1.1
def m_impl_isName (fuel : Nat) (x1 : Form) : Option Bool :=
 (bif (decide (x1.kind = 1)) then
 (m_impl_FormValid fuel x1).bind fun v2 =>
 some v2
 else
 some false)
def m_slices_Equal_int_l1 (fuel : Nat) (x1 : (List Int)) (x2 : (List Int)) (g2 : Int) : Option Bool :=
 match fuel with
 | 0 => none
 | fuel + 1 =>
 (bif (decide (g2 < (x1.length : Int))) then
 (idx x1 g2).bind fun v6 =>
 (idx x2 g2).bind fun v7 =>
 (bif (decide (v6 ≠ v7)) then
 some false
 else
 m_slices_Equal_int_l1 fuel x1 x2 (g2 + 1))
 else
 some true)
def m_slices_Equal_int (fuel : Nat) (x1 : (List Int)) (x2 : (List Int)) : Option Bool :=
 (bif (decide ((x1.length : Int) ≠ (x2.length : Int))) then
 some false
 else
 m_slices_Equal_int_l1 fuel x1 x2 0)
mutual
def m_impl_FormSame (fuel : Nat) (x1 : Form) (x2 : Form) : Option Bool :=
 match fuel with
 | 0 => none
 | fuel + 1 =>
 (bif (decide (x1.kind = x2.kind)) then
 (bif (decide (x1.name = x2.name)) then
 (bif (decide (x1.n = x2.n)) then
 (m_slices_Equal_int fuel x1.scopes x2.scopes).bind fun v4 =>
 (bif v4 then
 (m_slices_EqualFunc_Form_FormSame fuel x1.kids x2.kids).bind fun v6 =>
 some v6
 else
 some false)
 else
 some false)
 else
 some false)
 else
 some false)
def m_slices_EqualFunc_Form_FormSame (fuel : Nat) (x1 : (List Form)) (x2 : (List Form)) : Option Bool :=
 match fuel with
 | 0 => none
 | fuel + 1 =>
 (bif (decide ((x1.length : Int) ≠ (x2.length : Int))) then
 some false
 else
 m_slices_EqualFunc_Form_FormSame_l1 fuel x1 x2 0)
def m_slices_EqualFunc_Form_FormSame_l1 (fuel : Nat) (x1 : (List Form)) (x2 : (List Form)) (g2 : Int) : Option Bool :=
 match fuel with
 | 0 => none
 | fuel + 1 =>
 (bif (decide (g2 < (x1.length : Int))) then
 (idx x1 g2).bind fun v6 =>
 (idx x2 g2).bind fun v7 =>
 (m_impl_FormSame fuel v6 v7).bind fun v8 =>
 (bif (!v8) then
 some false
 else
 m_slices_EqualFunc_Form_FormSame_l1 fuel x1 x2 (g2 + 1))
 else
 some true)
end
mutual
def m_impl_hitOk (fuel : Nat) (x1 : Hit) : Option Bool :=
 match fuel with
 | 0 => none
 | fuel + 1 =>
 (m_impl_isName fuel x1.name).bind fun v1 =>
 (bif (!v1) then
 some false
 else
 (bif (decide (x1.name.name = (⟨#[46, 46, 46]⟩ : ByteArray))) then
 some false
 else
 (bif (decide (x1.name.name = (⟨#[95]⟩ : ByteArray))) then
 some false
 else
 (m_impl_within fuel x1.depth 0 3).bind fun v5 =>
 (bif (!v5) then
 some false
 else
 (bif (decide (x1.depth = 0)) then
 (m_impl_FormValid fuel x1.one).bind fun v8 =>
 (bif v8 then
 some (decide ((x1.many.length : Int) = 0))
 else
 some false)
 else
 (m_impl_FormSame fuel x1.one (Form.mk 0 (⟨#[]⟩ : ByteArray) 0 ([] : List Int) ([] : List Form))).bind fun v10 =>
 (bif v10 then
 (bif (decide ((x1.many.length : Int) ≤ 400)) then
 (m_slices_ContainsFunc_Hit_hitOk_1 fuel x1.many x1).bind fun v13 =>
 some (!v13)
 else
 some false)
 else
 some false))))))
def m_impl_hitOk_1 (fuel : Nat) (x1 : Hit) (o1 : Hit) : Option Bool :=
 match fuel with
 | 0 => none
 | fuel + 1 =>
 (m_impl_FormSame fuel x1.name o1.name).bind fun v1 =>
 (bif (!v1) then
 some true
 else
 (bif (decide (x1.depth ≠ (w64 (o1.depth - 1)))) then
 some true
 else
 (m_impl_hitOk fuel x1).bind fun v4 =>
 some (!v4)))
def m_slices_ContainsFunc_Hit_hitOk_1 (fuel : Nat) (x1 : (List Hit)) (o1 : Hit) : Option Bool :=
 match fuel with
 | 0 => none
 | fuel + 1 =>
 (m_slices_IndexFunc_Hit_hitOk_1 fuel x1 o1).bind fun v1 =>
 some (decide (0 ≤ v1))
def m_slices_IndexFunc_Hit_hitOk_1 (fuel : Nat) (x1 : (List Hit)) (o1 : Hit) : Option Int :=
 match fuel with
 | 0 => none
 | fuel + 1 =>
 m_slices_IndexFunc_Hit_hitOk_1_l1 fuel x1 o1 0
def m_slices_IndexFunc_Hit_hitOk_1_l1 (fuel : Nat) (x1 : (List Hit)) (o1 : Hit) (g1 : Int) : Option Int :=
 match fuel with
 | 0 => none
 | fuel + 1 =>
 (bif (decide (g1 < (x1.length : Int))) then
 (idx x1 g1).bind fun v5 =>
 (m_impl_hitOk_1 fuel v5 o1).bind fun v6 =>
 (bif v6 then
 some g1
 else
 m_slices_IndexFunc_Hit_hitOk_1_l1 fuel x1 o1 (g1 + 1))
 else
 some (-1))
end
def m_impl_hitAt_1 (fuel : Nat) (x1 : Hit) (o1 : Form) : Option Bool :=
 (m_impl_FormSame fuel x1.name o1).bind fun v1 =>
 some v1
def m_slices_IndexFunc_Hit_hitAt_1_l1 (fuel : Nat) (x1 : (List Hit)) (o1 : Form) (g1 : Int) : Option Int :=
 match fuel with
 | 0 => none
 | fuel + 1 =>
 (bif (decide (g1 < (x1.length : Int))) then
 (idx x1 g1).bind fun v5 =>
 (m_impl_hitAt_1 fuel v5 o1).bind fun v6 =>
 (bif v6 then
 some g1
 else
 m_slices_IndexFunc_Hit_hitAt_1_l1 fuel x1 o1 (g1 + 1))
 else
 some (-1))
def m_slices_IndexFunc_Hit_hitAt_1 (fuel : Nat) (x1 : (List Hit)) (o1 : Form) : Option Int :=
 m_slices_IndexFunc_Hit_hitAt_1_l1 fuel x1 o1 0
def m_impl_hitAt (fuel : Nat) (x1 : (List Hit)) (x2 : Form) : Option Int :=
 (m_slices_IndexFunc_Hit_hitAt_1 fuel x1 x2).bind fun v1 =>
 some v1
def m_impl_HitsValid_l1 (fuel : Nat) (x1 : (List Hit)) (g1 : Int) : Option Bool :=
 match fuel with
 | 0 => none
 | fuel + 1 =>
 (bif (decide (g1 < (x1.length : Int))) then
 (idx x1 g1).bind fun v5 =>
 (m_impl_hitOk fuel v5).bind fun v6 =>
 (bif (!v6) then
 some false
 else
 (sub x1 0 g1).bind fun v8 =>
 (m_impl_hitAt fuel v8 v5.name).bind fun v9 =>
 (bif (decide (0 ≤ v9)) then
 some false
 else
 m_impl_HitsValid_l1 fuel x1 (g1 + 1)))
 else
 some (decide ((x1.length : Int) ≤ 20)))
def m_impl_HitsValid (fuel : Nat) (x1 : (List Hit)) : Option Bool :=
 m_impl_HitsValid_l1 fuel x1 0
def m_spec_l4In_l1 (fuel : Nat) (x1 : (List Form)) (x2 : Form) (g1 : Int) : Option Bool :=
 match fuel with
 | 0 => none
 | fuel + 1 =>
 (bif (decide (g1 < (x1.length : Int))) then
 (idx x1 g1).bind fun v5 =>
 (m_spec_FormSame fuel v5 x2).bind fun v6 =>
 (bif v6 then
 some true
 else
 m_spec_l4In_l1 fuel x1 x2 (g1 + 1))
 else
 some false)
def m_spec_l4In (fuel : Nat) (x1 : (List Form)) (x2 : Form) : Option Bool :=
 m_spec_l4In_l1 fuel x1 x2 0
def m_spec_l4Literals_l1 (fuel : Nat) (x1 : (List Form)) (g1 : Int) : Option Bool :=
 match fuel with
 | 0 => none
 | fuel + 1 =>
 (bif (decide (g1 < (x1.length : Int))) then
 (bif (decide (g1 < 10)) then
 (idx x1 g1).bind fun v5 =>
 (m_spec_l3Is fuel v5).bind fun v6 =>
 (bif (!v6) then
 some false
 else
 (idx x1 g1).bind fun v8 =>
 (bif (decide (v8.name = (⟨#[46, 46, 46]⟩ : ByteArray))) then
 some false
 else
 (idx x1 g1).bind fun v10 =>
 (bif (decide (v10.name = (⟨#[95]⟩ : ByteArray))) then
 some false
 else
 (sub x1 0 g1).bind fun v12 =>
 (idx x1 g1).bind fun v13 =>
 (m_spec_l4In fuel v12 v13).bind fun v14 =>
 (bif v14 then
 some false
 else
 m_spec_l4Literals_l1 fuel x1 (w64 (g1 + 1))))))
 else
 some (decide ((x1.length : Int) < 10)))
 else
 some (decide ((x1.length : Int) < 10)))
def m_spec_l4Literals (fuel : Nat) (x1 : (List Form)) : Option Bool :=
 m_spec_l4Literals_l1 fuel x1 0
mutual
def m_spec_l4Shape (fuel : Nat) (x1 : Form) : Option Bool :=
 match fuel with
 | 0 => none
 | fuel + 1 =>
 (m_spec_l4Dots fuel x1).bind fun v1 =>
 (bif v1 then
 some false
 else
 m_spec_l4Shape_l1 fuel x1 0 0)
def m_spec_l4Shape_l1 (fuel : Nat) (x1 : Form) (g3 : Int) (g4 : Int) : Option Bool :=
 match fuel with
 | 0 => none
 | fuel + 1 =>
 (bif (decide (g4 < (x1.kids.length : Int))) then
 (idx x1.kids g4).bind fun v8 =>
 (m_spec_l4Dots fuel v8).bind fun v9 =>
 (bif v9 then
 (bif (decide (g4 = 0)) then
 some false
 else
 (idx x1.kids (w64 (g4 - 1))).bind fun v12 =>
 (m_spec_l4Dots fuel v12).bind fun v13 =>
 (bif v13 then
 some false
 else
 m_spec_l4Shape_l1 fuel x1 (w64 (g3 + 1)) (g4 + 1)))
 else
 (idx x1.kids g4).bind fun v15 =>
 (m_spec_l4Shape fuel v15).bind fun v16 =>
 (bif (!v16) then
 some false
 else
 m_spec_l4Shape_l1 fuel x1 g3 (g4 + 1)))
 else
 some (decide (g3 ≤ 1)))
end
def m_spec_l4Var (fuel : Nat) (x1 : Form) (x2 : (List Form)) : Option Bool :=
 (bif (decide (x1.kind = 1)) then
 (bif (decide (x1.name ≠ (⟨#[46, 46, 46]⟩ : ByteArray))) then
 (bif (decide (x1.name ≠ (⟨#[95]⟩ : ByteArray))) then
 (m_spec_l4In fuel x2 x1).bind fun v4 =>
 some (!v4)
 else
 some false)
 else
 some false)
 else
 some false)
mutual
def m_spec_l4Vars (fuel : Nat) (x1 : (List Form)) (x2 : Form) (x3 : (List Form)) : Option (List Form) :=
 match fuel with
 | 0 => none
 | fuel + 1 =>
 (m_spec_l4Var fuel x2 x3).bind fun v1 =>
 (bif v1 then
 chk (decide ((x1.length + [x2].length) * 80 ≤ 140737488355328)) <|
 m_spec_l4Vars_l1 fuel x2 x3 (x1 ++ [x2]) 0
 else
 m_spec_l4Vars_l1 fuel x2 x3 x1 0)
def m_spec_l4Vars_l1 (fuel : Nat) (x2 : Form) (x3 : (List Form)) (g4 : (List Form)) (g5 : Int) : Option (List Form) :=
 match fuel with
 | 0 => none
 | fuel + 1 =>
 (bif (decide (g5 < (x2.kids.length : Int))) then
 (idx x2.kids g5).bind fun v9 =>
 (m_spec_l4Vars fuel g4 v9 x3).bind fun v10 =>
 m_spec_l4Vars_l1 fuel x2 x3 v10 (g5 + 1)
 else
 some g4)
end
mutual
def m_spec_l4Depths (fuel : Nat) (x1 : (List Int)) (x2 : Form) (x3 : (List Form)) (x4 : Int) : Option (List Int) :=
 match fuel with
 | 0 => none
 | fuel + 1 =>
 (m_spec_l4Var fuel x2 x3).bind fun v1 =>
 (bif v1 then
 chk (decide ((x1.length + [x4].length) * 8 ≤ 140737488355328)) <|
 m_spec_l4Depths_l1 fuel x2 x3 x4 (x1 ++ [x4]) 0
 else
 m_spec_l4Depths_l1 fuel x2 x3 x4 x1 0)
def m_spec_l4Depths_l1 (fuel : Nat) (x2 : Form) (x3 : (List Form)) (x4 : Int) (g4 : (List Int)) (g5 : Int) : Option (List Int) :=
 match fuel with
 | 0 => none
 | fuel + 1 =>
 (bif (decide (g5 < (x2.kids.length : Int))) then
 (bif (decide ((g5 + 1) < (x2.kids.length : Int))) then
 (idx x2.kids (g5 + 1)).bind fun v10 =>
 (m_spec_l4Dots fuel v10).bind fun v11 =>
 (bif v11 then
 (idx x2.kids g5).bind fun v13 =>
 (m_spec_l4Depths fuel g4 v13 x3 (w64 (x4 + 1))).bind fun v14 =>
 m_spec_l4Depths_l1 fuel x2 x3 x4 v14 (g5 + 1)
 else
 (idx x2.kids g5).bind fun v15 =>
 (m_spec_l4Depths fuel g4 v15 x3 x4).bind fun v16 =>
 m_spec_l4Depths_l1 fuel x2 x3 x4 v16 (g5 + 1))
 else
 (idx x2.kids g5).bind fun v17 =>
 (m_spec_l4Depths fuel g4 v17 x3 x4).bind fun v18 =>
 m_spec_l4Depths_l1 fuel x2 x3 x4 v18 (g5 + 1))
 else
 some g4)
end
mutual
def m_spec_l4Is_l2 (fuel : Nat) (g9 : (List Form)) (v17 : (List Int)) (g18 : Int) : Option Bool :=
 match fuel with
 | 0 => none
 | fuel + 1 =>
 (bif (decide (g18 < (v17.length : Int))) then
 (idx v17 g18).bind fun v22 =>
 (bif (decide (3 < v22)) then
 some false
 else
 m_spec_l4Is_l2 fuel g9 v17 (g18 + 1))
 else
 some (decide ((g9.length : Int) ≤ 20)))
def m_spec_l4Is_l1 (fuel : Nat) (x1 : Form) (x2 : (List Form)) (g8 : Int) (g9 : (List Form)) : Option Bool :=
 match fuel with
 | 0 => none
 | fuel + 1 =>
 (bif (decide (g8 < (g9.length : Int))) then
 (sub g9 0 g8).bind fun v13 =>
 (idx g9 g8).bind fun v14 =>
 (m_spec_l4In fuel v13 v14).bind fun v15 =>
 (bif v15 then
 some false
 else
 m_spec_l4Is_l1 fuel x1 x2 (g8 + 1) g9)
 else
 (m_spec_l4Depths fuel ([] : List Int) x1 x2 0).bind fun v17 =>
 m_spec_l4Is_l2 fuel g9 v17 0)
end
def m_spec_l4Is (fuel : Nat) (x1 : Form) (x2 : (List Form)) : Option Bool :=
 (m_spec_FormValid fuel x1).bind fun v1 =>
 (bif (!v1) then
 some false
 else
 (m_spec_l4Literals fuel x2).bind fun v3 =>
 (bif (!v3) then
 some false
 else
 (m_spec_l4Shape fuel x1).bind fun v5 =>
 (bif (!v5) then
 some false
 else
 (m_spec_l4Vars fuel ([] : List Form) x1 x2).bind fun v7 =>
 m_spec_l4Is_l1 fuel x1 x2 0 v7)))
def m_spec_l15Open (fuel : Nat) (x1 : (List Int)) : Option l15Rd :=
 (bif (decide (2000 < (x1.length : Int))) then
 (sub x1 0 2000).bind fun v3 =>
 some (l15Rd.mk v3 0)
 else
 some (l15Rd.mk x1 0))
def m_spec_l4Texts (fuel : Nat)  : Option (List (List ByteArray)) :=
 some [[(⟨#[40, 95, 32, 97, 32, 98, 41]⟩ : ByteArray), (⟨#[40, 115, 119, 97, 112, 32, 120, 32, 121, 41]⟩ : ByteArray)], [(⟨#[40, 95, 32, 97, 32, 46, 46, 46, 41]⟩ : ByteArray), (⟨#[40, 108, 105, 115, 116, 32, 49, 32, 50, 32, 51, 41]⟩ : ByteArray)], [(⟨#[40, 95, 32, 40, 120, 32, 118, 41, 32, 46, 46, 46, 32, 98, 111, 100, 121, 41]⟩ : ByteArray), (⟨#[40, 108, 101, 116, 32, 40, 112, 32, 49, 41, 32, 40, 113, 32, 50, 41, 32, 40, 102, 32, 112, 32, 113, 41, 41]⟩ : ByteArray)], [(⟨#[40, 95, 32, 40, 40, 120, 32, 118, 41, 32, 46, 46, 46, 41, 32, 98, 111, 100, 121, 32, 46, 46, 46, 41]⟩ : ByteArray), (⟨#[40, 108, 101, 116, 32, 40, 40, 112, 32, 49, 41, 32, 40, 113, 32, 40, 103, 32, 50, 41, 41, 41, 32, 112, 32, 113, 41]⟩ : ByteArray)], [(⟨#[40, 95, 32, 40, 97, 32, 98, 32, 46, 46, 46, 41, 32, 46, 46, 46, 41]⟩ : ByteArray), (⟨#[40, 109, 32, 40, 120, 32, 49, 32, 50, 41, 32, 40, 121, 41, 32, 40, 122, 32, 51, 41, 41]⟩ : ByteArray)], [(⟨#[40, 95, 32, 97, 32, 101, 108, 115, 101, 32, 98, 41]⟩ : ByteArray), (⟨#[40, 109, 32, 112, 32, 101, 108, 115, 101, 32, 113, 41]⟩ : ByteArray)], [(⟨#[40, 95, 41]⟩ : ByteArray), (⟨#[40, 109, 41]⟩ : ByteArray)], [(⟨#[40, 95, 32, 53, 32, 97, 41]⟩ : ByteArray), (⟨#[40, 109, 32, 53, 32, 120, 41]⟩ : ByteArray)], [(⟨#[40, 95, 32, 97, 32, 46, 46, 46, 32, 122, 41]⟩ : ByteArray), (⟨#[40, 109, 32, 49, 32, 50, 32, 51, 32, 52, 41]⟩ : ByteArray)], [(⟨#[97]⟩ : ByteArray), (⟨#[40, 102, 32, 120, 41]⟩ : ByteArray)], [(⟨#[40, 95, 32, 40, 97, 32, 40, 98, 32, 46, 46, 46, 41, 32, 46, 46, 46, 41, 32, 46, 46, 46, 41]⟩ : ByteArray), (⟨#[40, 109, 32, 40, 120, 32, 40, 49, 32, 50, 41, 32, 40, 41, 41, 32, 40, 121, 41, 41]⟩ : ByteArray)]]
def m_spec_l15Rd_pick (fuel : Nat) (o1 : l15Rd) (x2 : Int) : Option (Int × l15Rd) :=
 (bif (decide (x2 < 1)) then
 some (0, (l15Rd.mk o1.b (w64 (o1.p + 1))))
 else
 (bif (decide ((o1.b.length : Int) = 0)) then
 some (0, (l15Rd.mk o1.b (w64 (o1.p + 1))))
 else
 (bif (decide ((w64 ((w64 (o1.p + 1)) - 1)) < (o1.b.length : Int))) then
 (idx o1.b (w64 ((w64 (o1.p + 1)) - 1))).bind fun v4 =>
 chk (decide (x2 ≠ 0)) <|
 some (((w64 v4).tmod x2), (l15Rd.mk o1.b (w64 (o1.p + 1))))
 else
 chk (decide ((o1.b.length : Int) ≠ 0)) <|
 (idx o1.b ((w64 ((w64 (o1.p + 1)) - 1)).tmod (o1.b.length : Int))).bind fun v7 =>
 chk (decide ((o1.b.length : Int) ≠ 0)) <|
 (idx o1.b ((w64 ((w64 ((w64 ((w64 (o1.p + 1)) - 1)) * 7)) + 3)).tmod (o1.b.length : Int))).bind fun v9 =>
 chk (decide ((o1.b.length : Int) ≠ 0)) <|
 chk (decide (x2 ≠ 0)) <|
 some (((xor64 (w64 ((w64 ((w64 ((w64 ((w64 v7) * 131)) + (w64 ((w64 v9) * 1117)))) + (w64 ((w64 ((w64 (o1.p + 1)) - 1)) * 29)))) + (w64 ((w64 ((w64 ((w64 (o1.p + 1)) - 1)).tdiv (o1.b.length : Int))) * 53)))) (w64 ((w64 ((w64 ((w64 ((w64 ((w64 v7) * 131)) + (w64 ((w64 v9) * 1117)))) + (w64 ((w64 ((w64 (o1.p + 1)) - 1)) * 29)))) + (w64 ((w64 ((w64 ((w64 (o1.p + 1)) - 1)).tdiv (o1.b.length : Int))) * 53)))).tdiv 64))).tmod x2), (l15Rd.mk o1.b (w64 (o1.p + 1)))))))
def m_spec_l1Skip_l1 (fuel : Nat) (x1 : ByteArray) (g1 : Int) : Option Int :=
 match fuel with
 | 0 => none
 | fuel + 1 =>
 (bif (decide (g1 < (x1.size : Int))) then
 (bidx x1 g1).bind fun v4 =>
 (bif (decide (v4 = 32)) then
 m_spec_l1Skip_l1 fuel x1 (w64 (g1 + 1))
 else
 some g1)
 else
 some g1)
def m_spec_l1Skip (fuel : Nat) (x1 : ByteArray) (x2 : Int) : Option Int :=
 m_spec_l1Skip_l1 fuel x1 x2
def m_spec_l1Word_l1 (fuel : Nat) (x1 : ByteArray) (g1 : Int) : Option Int :=
 match fuel with
 | 0 => none
 | fuel + 1 =>
 (bif (decide (g1 < (x1.size : Int))) then
 (bidx x1 g1).bind fun v4 =>
 (bif (decide (v4 ≠ 32)) then
 (bidx x1 g1).bind fun v6 =>
 (bif (decide (v6 ≠ 40)) then
 (bidx x1 g1).bind fun v8 =>
 (bif (decide (v8 ≠ 41)) then
 (bidx x1 g1).bind fun v10 =>
 (bif (decide (v10 ≠ 123)) then
 m_spec_l1Word_l1 fuel x1 (w64 (g1 + 1))
 else
 some g1)
 else
 some g1)
 else
 some g1)
 else
 some g1)
 else
 some g1)
def m_spec_l1Word (fuel : Nat) (x1 : ByteArray) (x2 : Int) : Option Int :=
 m_spec_l1Word_l1 fuel x1 x2
mutual
def m_spec_l15Num_j5 (fuel : Nat) (g3 : Bool) (g7 : ByteArray) (g16 : Int) (g17 : Int) (g23 : Bool) : Option (Int × Bool) :=
 match fuel with
 | 0 => none
 | fuel + 1 =>
 (bif g23 then
 some (0, false)
 else
 (bidx g7 g17).bind fun v26 =>
 m_spec_l15Num_l4 fuel g3 g7 (w64 ((w64 (g16 * 10)) + (w64 (w8 (v26 - 48))))) (w64 (g17 + 1)))
def m_spec_l15Num_l4 (fuel : Nat) (g3 : Bool) (g7 : ByteArray) (g16 : Int) (g17 : Int) : Option (Int × Bool) :=
 match fuel with
 | 0 => none
 | fuel + 1 =>
 (bif (decide (g17 < (g7.size : Int))) then
 (bidx g7 g17).bind fun v20 =>
 (bif (decide (v20 < 48)) then
 m_spec_l15Num_j5 fuel g3 g7 g16 g17 true
 else
 (bidx g7 g17).bind fun v22 =>
 m_spec_l15Num_j5 fuel g3 g7 g16 g17 (decide (57 < v22)))
 else
 (bif g3 then
 some ((w64 (0 - g16)), true)
 else
 some (g16, true)))
def m_spec_l15Num_j3 (fuel : Nat) (g3 : Bool) (g7 : ByteArray) : Option (Int × Bool) :=
 match fuel with
 | 0 => none
 | fuel + 1 =>
 m_spec_l15Num_l4 fuel g3 g7 0 0
def m_spec_l15Num_j2 (fuel : Nat) (g3 : Bool) (g7 : ByteArray) : Option (Int × Bool) :=
 match fuel with
 | 0 => none
 | fuel + 1 =>
 (bif (decide ((g7.size : Int) = 0)) then
 some (0, false)
 else
 (bif (decide (17 < (g7.size : Int))) then
 some (0, false)
 else
 (bidx g7 0).bind fun v11 =>
 (bif (decide (v11 = 48)) then
 (bif (decide (1 < (g7.size : Int))) then
 some (0, false)
 else
 (bif g3 then
 some (0, false)
 else
 m_spec_l15Num_j3 fuel g3 g7 ))
 else
 m_spec_l15Num_j3 fuel g3 g7 )))
def m_spec_l15Num_j1 (fuel : Nat) (x1 : ByteArray) (g3 : Bool) : Option (Int × Bool) :=
 match fuel with
 | 0 => none
 | fuel + 1 =>
 (bif g3 then
 (bsub x1 1 (x1.size : Int)).bind fun v6 =>
 m_spec_l15Num_j2 fuel g3 v6
 else
 m_spec_l15Num_j2 fuel g3 x1)
end
def m_spec_l15Num (fuel : Nat) (x1 : ByteArray) : Option (Int × Bool) :=
 (bif (decide (0 < (x1.size : Int))) then
 (bidx x1 0).bind fun v2 =>
 m_spec_l15Num_j1 fuel x1 (decide (v2 = 45))
 else
 m_spec_l15Num_j1 fuel x1 false)
mutual
def m_spec_l15Cut_j2 (fuel : Nat) (x1 : ByteArray) (x2 : Int) (g1 : (List ByteArray)) (g2 : Int) (g3 : Int) (g8 : Bool) : Option (List ByteArray) :=
 match fuel with
 | 0 => none
 | fuel + 1 =>
 (bif g8 then
 (bsub x1 g2 g3).bind fun v11 =>
 chk (decide ((g1.length + [v11].length) * 16 ≤ 140737488355328)) <|
 m_spec_l15Cut_l1 fuel x1 x2 (g1 ++ [v11]) (w64 (g3 + 1)) (w64 (g3 + 1))
 else
 m_spec_l15Cut_l1 fuel x1 x2 g1 g2 (w64 (g3 + 1)))
def m_spec_l15Cut_l1 (fuel : Nat) (x1 : ByteArray) (x2 : Int) (g1 : (List ByteArray)) (g2 : Int) (g3 : Int) : Option (List ByteArray) :=
 match fuel with
 | 0 => none
 | fuel + 1 =>
 (bif (decide (g3 ≤ (x1.size : Int))) then
 (bif (decide (g3 = (x1.size : Int))) then
 m_spec_l15Cut_j2 fuel x1 x2 g1 g2 g3 true
 else
 (bidx x1 g3).bind fun v7 =>
 m_spec_l15Cut_j2 fuel x1 x2 g1 g2 g3 (decide (v7 = x2)))
 else
 some g1)
end
def m_spec_l15Cut (fuel : Nat) (x1 : ByteArray) (x2 : Int) : Option (List ByteArray) :=
 m_spec_l15Cut_l1 fuel x1 x2 ([] : List ByteArray) 0 0
mutual
def m_spec_l1Sets_l3 (fuel : Nat) (x1 : ByteArray) (x2 : Int) (g6 : Int) : Option ((List Int) × Int) :=
 match fuel with
 | 0 => none
 | fuel + 1 =>
 (bif (decide (g6 < (x1.size : Int))) then
 (bidx x1 g6).bind fun v9 =>
 (bif (decide (v9 ≠ 125)) then
 m_spec_l1Sets_l3 fuel x1 x2 (w64 (g6 + 1))
 else
 m_spec_l1Sets_j2 fuel x1 x2 g6)
 else
 m_spec_l1Sets_j2 fuel x1 x2 g6)
def m_spec_l1Sets_j5 (fuel : Nat) (g11 : Int) (v15 : (List ByteArray)) (g16 : (List Int)) (g17 : Int) (g20 : Bool) : Option ((List Int) × Int) :=
 match fuel with
 | 0 => none
 | fuel + 1 =>
 (bif g20 then
 (idx v15 g17).bind fun v23 =>
 (m_spec_l15Num fuel v23).bind fun v24 =>
 (bif (!v24.2) then
 some (g16, (-1))
 else
 chk (decide ((g16.length + [v24.1].length) * 8 ≤ 140737488355328)) <|
 m_spec_l1Sets_l4 fuel g11 v15 (g16 ++ [v24.1]) (w64 (g17 + 1)))
 else
 some (g16, (w64 (g11 + 1))))
def m_spec_l1Sets_l4 (fuel : Nat) (g11 : Int) (v15 : (List ByteArray)) (g16 : (List Int)) (g17 : Int) : Option ((List Int) × Int) :=
 match fuel with
 | 0 => none
 | fuel + 1 =>
 (bif (decide (g17 < (v15.length : Int))) then
 m_spec_l1Sets_j5 fuel g11 v15 g16 g17 (decide (g17 ≤ 24))
 else
 m_spec_l1Sets_j5 fuel g11 v15 g16 g17 false)
def m_spec_l1Sets_j2 (fuel : Nat) (x1 : ByteArray) (x2 : Int) (g11 : Int) : Option ((List Int) × Int) :=
 match fuel with
 | 0 => none
 | fuel + 1 =>
 (bif (decide (g11 = (x1.size : Int))) then
 some (([] : List Int), (-1))
 else
 (bsub x1 (w64 (x2 + 1)) g11).bind fun v14 =>
 (m_spec_l15Cut fuel v14 44).bind fun v15 =>
 m_spec_l1Sets_l4 fuel g11 v15 ([] : List Int) 0)
def m_spec_l1Sets_j1 (fuel : Nat) (x1 : ByteArray) (x2 : Int) (g3 : Bool) : Option ((List Int) × Int) :=
 match fuel with
 | 0 => none
 | fuel + 1 =>
 (bif g3 then
 some (([] : List Int), x2)
 else
 m_spec_l1Sets_l3 fuel x1 x2 x2)
end
def m_spec_l1Sets (fuel : Nat) (x1 : ByteArray) (x2 : Int) : Option ((List Int) × Int) :=
 (bif (decide ((x1.size : Int) ≤ x2)) then
 m_spec_l1Sets_j1 fuel x1 x2 true
 else
 (bidx x1 x2).bind fun v2 =>
 m_spec_l1Sets_j1 fuel x1 x2 (decide (v2 ≠ 123)))
def m_spec_l1Atom (fuel : Nat) (x1 : ByteArray) (x2 : Int) : Option (Form × Int) :=
 (m_spec_l1Word fuel x1 x2).bind fun v1 =>
 (bsub x1 x2 v1).bind fun v2 =>
 (m_spec_l15Num fuel v2).bind fun v3 =>
 (bif v3.2 then
 some ((Form.mk 2 (⟨#[]⟩ : ByteArray) v3.1 ([] : List Int) ([] : List Form)), v1)
 else
 (bif (decide (v2 = (⟨#[]⟩ : ByteArray))) then
 some ((Form.mk 0 (⟨#[]⟩ : ByteArray) 0 ([] : List Int) ([] : List Form)), (-1))
 else
 (m_spec_l1Sets fuel x1 v1).bind fun v6 =>
 some ((Form.mk 1 v2 0 v6.1 ([] : List Form)), v6.2)))
mutual
def m_spec_l1Read (fuel : Nat) (x1 : ByteArray) (x2 : Int) (x3 : Int) : Option (Form × Int) :=
 match fuel with
 | 0 => none
 | fuel + 1 =>
 (m_spec_l1Skip fuel x1 x2).bind fun v1 =>
 (bif (decide ((x1.size : Int) ≤ v1)) then
 m_spec_l1Read_j1 fuel x1 x3 v1 true
 else
 m_spec_l1Read_j1 fuel x1 x3 v1 (decide (x3 = 0)))
def m_spec_l1Read_j4 (fuel : Nat) (x1 : ByteArray) (x3 : Int) (g10 : Int) (g11 : (List Form)) (g16 : Bool) : Option (Form × Int) :=
 match fuel with
 | 0 => none
 | fuel + 1 =>
 (bif g16 then
 (m_spec_l1Read fuel x1 g10 (w64 (x3 - 1))).bind fun v19 =>
 (bif (decide (v19.2 < 0)) then
 some ((Form.mk 3 (⟨#[]⟩ : ByteArray) 0 ([] : List Int) g11), (-1))
 else
 chk (decide ((g11.length + [v19.1].length) * 80 ≤ 140737488355328)) <|
 (m_spec_l1Skip fuel x1 v19.2).bind fun v22 =>
 m_spec_l1Read_l3 fuel x1 x3 v22 (g11 ++ [v19.1]))
 else
 m_spec_l1Read_j2 fuel x1 g10 g11)
def m_spec_l1Read_l3 (fuel : Nat) (x1 : ByteArray) (x3 : Int) (g10 : Int) (g11 : (List Form)) : Option (Form × Int) :=
 match fuel with
 | 0 => none
 | fuel + 1 =>
 (bif (decide (g10 < (x1.size : Int))) then
 (bidx x1 g10).bind fun v14 =>
 (bif (decide (v14 ≠ 41)) then
 m_spec_l1Read_j4 fuel x1 x3 g10 g11 (decide ((g11.length : Int) < 400))
 else
 m_spec_l1Read_j4 fuel x1 x3 g10 g11 false)
 else
 m_spec_l1Read_j4 fuel x1 x3 g10 g11 false)
def m_spec_l1Read_j5 (fuel : Nat) (g23 : Int) (g24 : (List Form)) (g28 : Bool) : Option (Form × Int) :=
 match fuel with
 | 0 => none
 | fuel + 1 =>
 (bif g28 then
 some ((Form.mk 3 (⟨#[]⟩ : ByteArray) 0 ([] : List Int) g24), (-1))
 else
 some ((Form.mk 3 (⟨#[]⟩ : ByteArray) 0 ([] : List Int) g24), (w64 (g23 + 1))))
def m_spec_l1Read_j2 (fuel : Nat) (x1 : ByteArray) (g23 : Int) (g24 : (List Form)) : Option (Form × Int) :=
 match fuel with
 | 0 => none
 | fuel + 1 =>
 (bif (decide ((x1.size : Int) ≤ g23)) then
 m_spec_l1Read_j5 fuel g23 g24 true
 else
 (bidx x1 g23).bind fun v27 =>
 m_spec_l1Read_j5 fuel g23 g24 (decide (v27 ≠ 41)))
def m_spec_l1Read_j1 (fuel : Nat) (x1 : ByteArray) (x3 : Int) (v1 : Int) (g3 : Bool) : Option (Form × Int) :=
 match fuel with
 | 0 => none
 | fuel + 1 =>
 (bif g3 then
 some ((Form.mk 0 (⟨#[]⟩ : ByteArray) 0 ([] : List Int) ([] : List Form)), (-1))
 else
 (bidx x1 v1).bind fun v6 =>
 (bif (decide (v6 ≠ 40)) then
 (m_spec_l1Atom fuel x1 v1).bind fun v8 =>
 some (v8.1, v8.2)
 else
 (m_spec_l1Skip fuel x1 (w64 (v1 + 1))).bind fun v9 =>
 m_spec_l1Read_l3 fuel x1 x3 v9 ([] : List Form)))
end
def m_spec_ParseForm (fuel : Nat) (x1 : ByteArray) : Option (Form × Bool) :=
 (m_spec_l1Read fuel x1 0 40).bind fun v1 =>
 (bif (decide (v1.2 < 0)) then
 some ((Form.mk 0 (⟨#[]⟩ : ByteArray) 0 ([] : List Int) ([] : List Form)), false)
 else
 (m_spec_l1Skip fuel x1 v1.2).bind fun v3 =>
 (bif (decide (v3 ≠ (x1.size : Int))) then
 some ((Form.mk 0 (⟨#[]⟩ : ByteArray) 0 ([] : List Int) ([] : List Form)), false)
 else
 (m_spec_FormValid fuel v1.1).bind fun v5 =>
 (bif (!v5) then
 some ((Form.mk 0 (⟨#[]⟩ : ByteArray) 0 ([] : List Int) ([] : List Form)), false)
 else
 some (v1.1, true))))
def m_spec_l1Parse (fuel : Nat) (x1 : ByteArray) : Option Form :=
 (m_spec_ParseForm fuel x1).bind fun v1 =>
 some v1.1
def m_spec_l1Name (fuel : Nat) (x1 : ByteArray) : Option Form :=
 some (Form.mk 1 x1 0 ([] : List Int) ([] : List Form))
mutual
def m_spec_l1Copy (fuel : Nat) (x1 : Form) : Option Form :=
 match fuel with
 | 0 => none
 | fuel + 1 =>
 chk (decide ((([] : List Int).length + x1.scopes.length) * 8 ≤ 140737488355328)) <|
 m_spec_l1Copy_l1 fuel x1 0 ([] : List Form)
def m_spec_l1Copy_l1 (fuel : Nat) (x1 : Form) (g2 : Int) (g3 : (List Form)) : Option Form :=
 match fuel with
 | 0 => none
 | fuel + 1 =>
 (bif (decide (g2 < (x1.kids.length : Int))) then
 (idx x1.kids g2).bind fun v7 =>
 (m_spec_l1Copy fuel v7).bind fun v8 =>
 chk (decide ((g3.length + [v8].length) * 80 ≤ 140737488355328)) <|
 m_spec_l1Copy_l1 fuel x1 (g2 + 1) (g3 ++ [v8])
 else
 some (Form.mk x1.kind x1.name x1.n (([] : List Int) ++ x1.scopes) g3))
end
def m_spec_l15Rd_num (fuel : Nat) (o1 : l15Rd) (x2 : (List Int)) : Option (Int × l15Rd) :=
 (m_spec_l15Rd_pick fuel o1 (x2.length : Int)).bind fun v1 =>
 (idx x2 v1.1).bind fun v2 =>
 some (v2, v1.2)
def m_spec_l15Rd_of (fuel : Nat) (o1 : l15Rd) (x2 : (List ByteArray)) : Option (ByteArray × l15Rd) :=
 (m_spec_l15Rd_pick fuel o1 (x2.length : Int)).bind fun v1 =>
 (idx x2 v1.1).bind fun v2 =>
 some (v2, v1.2)
def m_spec_l1Mutate (fuel : Nat) (o1 : l15Rd) (x2 : Form) : Option (Form × l15Rd) :=
 match fuel with
 | 0 => none
 | fuel + 1 =>
 (m_spec_l1Copy fuel x2).bind fun v1 =>
 (bif (decide (0 < (v1.kids.length : Int))) then
 (m_spec_l15Rd_pick fuel o1 2).bind fun v3 =>
 (bif (decide (0 < v3.1)) then
 (m_spec_l15Rd_pick fuel v3.2 (v1.kids.length : Int)).bind fun v5 =>
 (idx v1.kids v5.1).bind fun v6 =>
 (m_spec_l1Mutate fuel v5.2 v6).bind fun v7 =>
 (idx v1.kids v5.1).bind fun v8 =>
 some ((Form.mk v1.kind v1.name v1.n v1.scopes (v1.kids.set v5.1.toNat v7.1)), v7.2)
 else
 (m_spec_l15Rd_pick fuel v3.2 14).bind fun v9 =>
 (bif (decide (v9.1 = 0)) then
 (m_spec_l15Rd_num fuel v9.2 [0, 4, 1, 3]).bind fun v11 =>
 some ((Form.mk v11.1 v1.name v1.n v1.scopes v1.kids), v11.2)
 else
 (bif (decide (v9.1 = 1)) then
 (m_spec_l15Rd_of fuel v9.2 [(⟨#[]⟩ : ByteArray), (⟨#[65]⟩ : ByteArray), (⟨#[116, 111, 111, 108, 111, 110, 103, 97, 110, 97, 109, 101, 49]⟩ : ByteArray), (⟨#[122]⟩ : ByteArray), (⟨#[120, 32, 121]⟩ : ByteArray)]).bind fun v13 =>
 some ((Form.mk v1.kind v13.1 v1.n v1.scopes v1.kids), v13.2)
 else
 (bif (decide (v9.1 = 2)) then
 (m_spec_l15Rd_num fuel v9.2 [1000, (-1), 5]).bind fun v15 =>
 some ((Form.mk v1.kind v1.name v15.1 v1.scopes v1.kids), v15.2)
 else
 (bif (decide (v9.1 = 3)) then
 (m_spec_l15Rd_num fuel v9.2 [0, 100, 1, 50]).bind fun v17 =>
 chk (decide ((v1.scopes.length + [v17.1].length) * 8 ≤ 140737488355328)) <|
 some ((Form.mk v1.kind v1.name v1.n (v1.scopes ++ [v17.1]) v1.kids), v17.2)
 else
 some (v1, v9.2))))))
 else
 (m_spec_l15Rd_pick fuel o1 14).bind fun v19 =>
 (bif (decide (v19.1 = 0)) then
 (m_spec_l15Rd_num fuel v19.2 [0, 4, 1, 3]).bind fun v21 =>
 some ((Form.mk v21.1 v1.name v1.n v1.scopes v1.kids), v21.2)
 else
 (bif (decide (v19.1 = 1)) then
 (m_spec_l15Rd_of fuel v19.2 [(⟨#[]⟩ : ByteArray), (⟨#[65]⟩ : ByteArray), (⟨#[116, 111, 111, 108, 111, 110, 103, 97, 110, 97, 109, 101, 49]⟩ : ByteArray), (⟨#[122]⟩ : ByteArray), (⟨#[120, 32, 121]⟩ : ByteArray)]).bind fun v23 =>
 some ((Form.mk v1.kind v23.1 v1.n v1.scopes v1.kids), v23.2)
 else
 (bif (decide (v19.1 = 2)) then
 (m_spec_l15Rd_num fuel v19.2 [1000, (-1), 5]).bind fun v25 =>
 some ((Form.mk v1.kind v1.name v25.1 v1.scopes v1.kids), v25.2)
 else
 (bif (decide (v19.1 = 3)) then
 (m_spec_l15Rd_num fuel v19.2 [0, 100, 1, 50]).bind fun v27 =>
 chk (decide ((v1.scopes.length + [v27.1].length) * 8 ≤ 140737488355328)) <|
 some ((Form.mk v1.kind v1.name v1.n (v1.scopes ++ [v27.1]) v1.kids), v27.2)
 else
 some (v1, v19.2))))))
mutual
def m_spec_l1Dress (fuel : Nat) (o1 : l15Rd) (x2 : Form) : Option (Form × l15Rd) :=
 match fuel with
 | 0 => none
 | fuel + 1 =>
 (m_spec_l1Copy fuel x2).bind fun v1 =>
 (bif (decide (x2.kind = 1)) then
 (m_spec_l15Rd_pick fuel o1 ([([] : List Int), [1], [2], [1, 2], [1, 3], [1, 2, 3], [99]].length : Int)).bind fun v3 =>
 (idx [([] : List Int), [1], [2], [1, 2], [1, 3], [1, 2, 3], [99]] v3.1).bind fun v4 =>
 chk (decide ((([] : List Int).length + v4.length) * 8 ≤ 140737488355328)) <|
 m_spec_l1Dress_l1 fuel v1 v4 0 v3.2.b v3.2.p v1.kids
 else
 m_spec_l1Dress_l2 fuel v1 0 o1.b o1.p v1.kids)
def m_spec_l1Dress_l1 (fuel : Nat) (v1 : Form) (v4 : (List Int)) (g6 : Int) (g7 : (List Int)) (g8 : Int) (g9 : (List Form)) : Option (Form × l15Rd) :=
 match fuel with
 | 0 => none
 | fuel + 1 =>
 (bif (decide (g6 < (g9.length : Int))) then
 (idx g9 g6).bind fun v13 =>
 (m_spec_l1Dress fuel (l15Rd.mk g7 g8) v13).bind fun v14 =>
 (idx g9 g6).bind fun v15 =>
 m_spec_l1Dress_l1 fuel v1 v4 (g6 + 1) v14.2.b v14.2.p (g9.set g6.toNat v14.1)
 else
 some ((Form.mk v1.kind v1.name v1.n (([] : List Int) ++ v4) g9), (l15Rd.mk g7 g8)))
def m_spec_l1Dress_l2 (fuel : Nat) (v1 : Form) (g16 : Int) (g17 : (List Int)) (g18 : Int) (g19 : (List Form)) : Option (Form × l15Rd) :=
 match fuel with
 | 0 => none
 | fuel + 1 =>
 (bif (decide (g16 < (g19.length : Int))) then
 (idx g19 g16).bind fun v23 =>
 (m_spec_l1Dress fuel (l15Rd.mk g17 g18) v23).bind fun v24 =>
 (idx g19 g16).bind fun v25 =>
 m_spec_l1Dress_l2 fuel v1 (g16 + 1) v24.2.b v24.2.p (g19.set g16.toNat v24.1)
 else
 some ((Form.mk v1.kind v1.name v1.n v1.scopes g19), (l15Rd.mk g17 g18)))
end
def m_spec_l4Case (fuel : Nat) (x1 : (List Int)) : Option (Form × (List Form) × Form) :=
 (m_spec_l15Open fuel x1).bind fun v1 =>
 (m_spec_l4Texts fuel).bind fun v2 =>
 (m_spec_l15Rd_pick fuel v1 (v2.length : Int)).bind fun v3 =>
 (idx v2 v3.1).bind fun v4 =>
 (idx v4 0).bind fun v5 =>
 (m_spec_l1Parse fuel v5).bind fun v6 =>
 (idx v2 v3.1).bind fun v7 =>
 (idx v7 1).bind fun v8 =>
 (m_spec_l1Parse fuel v8).bind fun v9 =>
 (m_spec_l1Name fuel (⟨#[101, 108, 115, 101]⟩ : ByteArray)).bind fun v10 =>
 (m_spec_l15Rd_pick fuel v3.2 8).bind fun v11 =>
 (bif (decide (v11.1 = 0)) then
 (m_spec_l1Mutate fuel v11.2 v9).bind fun v13 =>
 (m_spec_l1Mutate fuel v13.2 v13.1).bind fun v14 =>
 some (v6, [v10], v14.1)
 else
 (bif (decide (v11.1 = 1)) then
 (m_spec_l1Mutate fuel v11.2 v6).bind fun v16 =>
 (m_spec_l1Mutate fuel v16.2 v16.1).bind fun v17 =>
 some (v17.1, [v10], v9)
 else
 (bif (decide (v11.1 = 2)) then
 (m_spec_l1Dress fuel v11.2 v9).bind fun v19 =>
 some (v6, [v10], v19.1)
 else
 (bif (decide (v11.1 = 3)) then
 some (v6, ([] : List Form), v9)
 else
 (bif (decide (v11.1 = 4)) then
 (m_spec_l15Rd_pick fuel v11.2 (v2.length : Int)).bind fun v22 =>
 (idx v2 v22.1).bind fun v23 =>
 (idx v23 1).bind fun v24 =>
 (m_spec_l1Parse fuel v24).bind fun v25 =>
 some (v6, [v10], v25)
 else
 some (v6, [v10], v9))))))
def m_slices_Clone_int (fuel : Nat) (x1 : (List Int)) : Option (List Int) :=
 chk (decide ((([] : List Int).length + x1.length) * 8 ≤ 140737488355328)) <|
 some (([] : List Int) ++ x1)
mutual
def m_impl_copyForm (fuel : Nat) (x1 : Form) : Option Form :=
 match fuel with
 | 0 => none
 | fuel + 1 =>
 (m_slices_Clone_int fuel x1.scopes).bind fun v1 =>
 m_impl_copyForm_l1 fuel x1 v1 0 ([] : List Form)
def m_impl_copyForm_l1 (fuel : Nat) (x1 : Form) (v1 : (List Int)) (g2 : Int) (g3 : (List Form)) : Option Form :=
 match fuel with
 | 0 => none
 | fuel + 1 =>
 (bif (decide (g2 < (x1.kids.length : Int))) then
 (idx x1.kids g2).bind fun v7 =>
 (m_impl_copyForm fuel v7).bind fun v8 =>
 chk (decide ((g3.length + [v8].length) * 80 ≤ 140737488355328)) <|
 m_impl_copyForm_l1 fuel x1 v1 (g2 + 1) (g3 ++ [v8])
 else
 some (Form.mk x1.kind x1.name x1.n v1 g3))
end
def m_laws_mxForms_l1 (fuel : Nat) (x1 : (List Form)) (x2 : (List Form)) (g2 : Int) : Option Bool :=
 match fuel with
 | 0 => none
 | fuel + 1 =>
 (bif (decide (g2 < (x1.length : Int))) then
 (idx x1 g2).bind fun v6 =>
 (idx x2 g2).bind fun v7 =>
 (m_impl_FormSame fuel v6 v7).bind fun v8 =>
 (bif (!v8) then
 some false
 else
 m_laws_mxForms_l1 fuel x1 x2 (g2 + 1))
 else
 some true)
def m_laws_mxForms (fuel : Nat) (x1 : (List Form)) (x2 : (List Form)) : Option Bool :=
 (bif (decide ((x1.length : Int) ≠ (x2.length : Int))) then
 some false
 else
 m_laws_mxForms_l1 fuel x1 x2 0)
def m_spec_DrawMatchPattern (fuel : Nat) (x1 : (List Int)) : Option ((List Bind) × Form × (List Form) × Form) :=
 (m_spec_l4Case fuel x1).bind fun v1 =>
 (m_spec_l15Open fuel x1).bind fun v2 =>
 (m_spec_l15Rd_pick fuel v2 4).bind fun v3 =>
 (bif (decide (v3.1 = 0)) then
 some ([(Bind.mk (⟨#[101, 108, 115, 101]⟩ : ByteArray) [1] 3)], v1.1, v1.2.1, v1.2.2)
 else
 some (([] : List Bind), v1.1, v1.2.1, v1.2.2))
mutual
def m_spec_BindsValid_j5 (fuel : Nat) (x1 : (List Bind)) (g1 : Int) (g19 : Int) (g28 : Bool) : Option Bool :=
 match fuel with
 | 0 => none
 | fuel + 1 =>
 (bif g28 then
 some false
 else
 m_spec_BindsValid_l4 fuel x1 g1 (w64 (g19 + 1)))
def m_spec_BindsValid_l4 (fuel : Nat) (x1 : (List Bind)) (g1 : Int) (g19 : Int) : Option Bool :=
 match fuel with
 | 0 => none
 | fuel + 1 =>
 (bif (decide (g19 < g1)) then
 (idx x1 g19).bind fun v22 =>
 (idx x1 g1).bind fun v23 =>
 (bif (decide (v22.name = v23.name)) then
 (idx x1 g19).bind fun v25 =>
 (idx x1 g1).bind fun v26 =>
 (m_spec_l1Ints fuel v25.scopes v26.scopes).bind fun v27 =>
 m_spec_BindsValid_j5 fuel x1 g1 g19 v27
 else
 m_spec_BindsValid_j5 fuel x1 g1 g19 false)
 else
 m_spec_BindsValid_l1 fuel x1 (w64 (g1 + 1)))
def m_spec_BindsValid_j3 (fuel : Nat) (x1 : (List Bind)) (g1 : Int) (g16 : Bool) : Option Bool :=
 match fuel with
 | 0 => none
 | fuel + 1 =>
 (bif g16 then
 some false
 else
 m_spec_BindsValid_l4 fuel x1 g1 0)
def m_spec_BindsValid_j2 (fuel : Nat) (x1 : (List Bind)) (g1 : Int) (g4 : Bool) : Option Bool :=
 match fuel with
 | 0 => none
 | fuel + 1 =>
 (bif g4 then
 (idx x1 g1).bind fun v7 =>
 (m_spec_NameValid fuel v7.name).bind fun v8 =>
 (bif (!v8) then
 m_spec_BindsValid_j3 fuel x1 g1 true
 else
 (idx x1 g1).bind fun v10 =>
 (m_spec_l1Scopes fuel v10.scopes).bind fun v11 =>
 (bif (!v11) then
 m_spec_BindsValid_j3 fuel x1 g1 true
 else
 (idx x1 g1).bind fun v13 =>
 (bif (decide (v13.id < 1)) then
 m_spec_BindsValid_j3 fuel x1 g1 true
 else
 (idx x1 g1).bind fun v15 =>
 m_spec_BindsValid_j3 fuel x1 g1 (decide (999 < v15.id)))))
 else
 some (decide ((x1.length : Int) ≤ 60)))
def m_spec_BindsValid_l1 (fuel : Nat) (x1 : (List Bind)) (g1 : Int) : Option Bool :=
 match fuel with
 | 0 => none
 | fuel + 1 =>
 (bif (decide (g1 < (x1.length : Int))) then
 m_spec_BindsValid_j2 fuel x1 g1 (decide (g1 ≤ 60))
 else
 m_spec_BindsValid_j2 fuel x1 g1 false)
end
def m_spec_BindsValid (fuel : Nat) (x1 : (List Bind)) : Option Bool :=
 m_spec_BindsValid_l1 fuel x1 0
def m_spec_l2Has_l1 (fuel : Nat) (x1 : (List Int)) (x2 : Int) (g1 : Int) : Option Bool :=
 match fuel with
 | 0 => none
 | fuel + 1 =>
 (bif (decide (g1 < (x1.length : Int))) then
 (idx x1 g1).bind fun v5 =>
 (bif (decide (v5 = x2)) then
 some true
 else
 m_spec_l2Has_l1 fuel x1 x2 (g1 + 1))
 else
 some false)
def m_spec_l2Has (fuel : Nat) (x1 : (List Int)) (x2 : Int) : Option Bool :=
 m_spec_l2Has_l1 fuel x1 x2 0
def m_spec_ScopesWithin_l1 (fuel : Nat) (x1 : (List Int)) (x2 : (List Int)) (g1 : Int) : Option Bool :=
 match fuel with
 | 0 => none
 | fuel + 1 =>
 (bif (decide (g1 < (x1.length : Int))) then
 (idx x1 g1).bind fun v5 =>
 (m_spec_l2Has fuel x2 v5).bind fun v6 =>
 (bif (!v6) then
 some false
 else
 m_spec_ScopesWithin_l1 fuel x1 x2 (g1 + 1))
 else
 some true)
def m_spec_ScopesWithin (fuel : Nat) (x1 : (List Int)) (x2 : (List Int)) : Option Bool :=
 m_spec_ScopesWithin_l1 fuel x1 x2 0
mutual
def m_spec_l3Fitting_j2 (fuel : Nat) (x1 : (List Bind)) (x2 : Form) (g1 : (List Int)) (g2 : Int) (g10 : Bool) : Option (List Int) :=
 match fuel with
 | 0 => none
 | fuel + 1 =>
 (bif g10 then
 chk (decide ((g1.length + [g2].length) * 8 ≤ 140737488355328)) <|
 m_spec_l3Fitting_l1 fuel x1 x2 (g1 ++ [g2]) (g2 + 1)
 else
 m_spec_l3Fitting_l1 fuel x1 x2 g1 (g2 + 1))
def m_spec_l3Fitting_l1 (fuel : Nat) (x1 : (List Bind)) (x2 : Form) (g1 : (List Int)) (g2 : Int) : Option (List Int) :=
 match fuel with
 | 0 => none
 | fuel + 1 =>
 (bif (decide (g2 < (x1.length : Int))) then
 (idx x1 g2).bind fun v6 =>
 (bif (decide (v6.name = x2.name)) then
 (idx x1 g2).bind fun v8 =>
 (m_spec_ScopesWithin fuel v8.scopes x2.scopes).bind fun v9 =>
 m_spec_l3Fitting_j2 fuel x1 x2 g1 g2 v9
 else
 m_spec_l3Fitting_j2 fuel x1 x2 g1 g2 false)
 else
 some g1)
end
def m_spec_l3Fitting (fuel : Nat) (x1 : (List Bind)) (x2 : Form) : Option (List Int) :=
 m_spec_l3Fitting_l1 fuel x1 x2 ([] : List Int) 0
mutual
def m_spec_l3Find_j4 (fuel : Nat) (x1 : (List Bind)) (v1 : (List Int)) (g2 : Int) (g7 : Int) (g16 : Bool) : Option (Int × Int) :=
 match fuel with
 | 0 => none
 | fuel + 1 =>
 m_spec_l3Find_l3 fuel x1 v1 g2 g16 (g7 + 1)
def m_spec_l3Find_l3 (fuel : Nat) (x1 : (List Bind)) (v1 : (List Int)) (g2 : Int) (g6 : Bool) (g7 : Int) : Option (Int × Int) :=
 match fuel with
 | 0 => none
 | fuel + 1 =>
 (bif (decide (g7 < (v1.length : Int))) then
 (bif g6 then
 (idx v1 g7).bind fun v11 =>
 (idx x1 v11).bind fun v12 =>
 (idx v1 g2).bind fun v13 =>
 (idx x1 v13).bind fun v14 =>
 (m_spec_ScopesWithin fuel v12.scopes v14.scopes).bind fun v15 =>
 m_spec_l3Find_j4 fuel x1 v1 g2 g7 v15
 else
 m_spec_l3Find_j4 fuel x1 v1 g2 g7 false)
 else
 m_spec_l3Find_j2 fuel x1 v1 g2 g6)
def m_spec_l3Find_j2 (fuel : Nat) (x1 : (List Bind)) (v1 : (List Int)) (g2 : Int) (g18 : Bool) : Option (Int × Int) :=
 match fuel with
 | 0 => none
 | fuel + 1 =>
 (bif g18 then
 (idx v1 g2).bind fun v21 =>
 some (v21, 1)
 else
 m_spec_l3Find_l1 fuel x1 v1 (g2 + 1))
def m_spec_l3Find_l1 (fuel : Nat) (x1 : (List Bind)) (v1 : (List Int)) (g2 : Int) : Option (Int × Int) :=
 match fuel with
 | 0 => none
 | fuel + 1 =>
 (bif (decide (g2 < (v1.length : Int))) then
 m_spec_l3Find_l3 fuel x1 v1 g2 true 0
 else
 (bif (decide (0 < (v1.length : Int))) then
 some (0, 2)
 else
 some (0, 0)))
end
def m_spec_l3Find (fuel : Nat) (x1 : (List Bind)) (x2 : Form) : Option (Int × Int) :=
 (m_spec_l3Fitting fuel x1 x2).bind fun v1 =>
 m_spec_l3Find_l1 fuel x1 v1 0
def m_spec_l3Same_j1 (fuel : Nat) (x1 : (List Bind)) (x2 : Form) (x3 : Form) (v1 : Int × Int) (v2 : Int × Int) (g4 : Bool) : Option Bool :=
 match fuel with
 | 0 => none
 | fuel + 1 =>
 (bif g4 then
 some false
 else
 (bif (decide (v1.2 = 0)) then
 some (decide (x2.name = x3.name))
 else
 (idx x1 v1.1).bind fun v8 =>
 (idx x1 v2.1).bind fun v9 =>
 some (decide (v8.id = v9.id))))
def m_spec_l3Same (fuel : Nat) (x1 : (List Bind)) (x2 : Form) (x3 : Form) : Option Bool :=
 (m_spec_l3Find fuel x1 x2).bind fun v1 =>
 (m_spec_l3Find fuel x1 x3).bind fun v2 =>
 (bif (decide (v1.2 ≠ v2.2)) then
 m_spec_l3Same_j1 fuel x1 x2 x3 v1 v2 true
 else
 m_spec_l3Same_j1 fuel x1 x2 x3 v1 v2 (decide (v1.2 = 2)))
mutual
def m_spec_l4Row_l2 (fuel : Nat) (x3 : (List (List Hit))) (v1 : (List Form)) (v2 : (List Int)) (g3 : (List Hit)) (g4 : Int) (v8 : Form) (v9 : Int) (g10 : Int) (g11 : (List Hit)) : Option (List Hit) :=
 match fuel with
 | 0 => none
 | fuel + 1 =>
 (bif (decide (g10 < (x3.length : Int))) then
 (idx x3 g10).bind fun v15 =>
 (idx v15 g4).bind fun v16 =>
 chk (decide ((g11.length + [v16].length) * 192 ≤ 140737488355328)) <|
 m_spec_l4Row_l2 fuel x3 v1 v2 g3 g4 v8 v9 (g10 + 1) (g11 ++ [v16])
 else
 chk (decide ((g3.length + [(Hit.mk v8 (w64 (v9 + 1)) (Form.mk 0 (⟨#[]⟩ : ByteArray) 0 ([] : List Int) ([] : List Form)) g11)].length) * 192 ≤ 140737488355328)) <|
 m_spec_l4Row_l1 fuel x3 v1 v2 (g3 ++ [(Hit.mk v8 (w64 (v9 + 1)) (Form.mk 0 (⟨#[]⟩ : ByteArray) 0 ([] : List Int) ([] : List Form)) g11)]) (w64 (g4 + 1)))
def m_spec_l4Row_l1 (fuel : Nat) (x3 : (List (List Hit))) (v1 : (List Form)) (v2 : (List Int)) (g3 : (List Hit)) (g4 : Int) : Option (List Hit) :=
 match fuel with
 | 0 => none
 | fuel + 1 =>
 (bif (decide (g4 < (v1.length : Int))) then
 (idx v1 g4).bind fun v8 =>
 (idx v2 g4).bind fun v9 =>
 m_spec_l4Row_l2 fuel x3 v1 v2 g3 g4 v8 v9 0 ([] : List Hit)
 else
 some g3)
end
def m_spec_l4Row (fuel : Nat) (x1 : Form) (x2 : (List Form)) (x3 : (List (List Hit))) : Option (List Hit) :=
 (m_spec_l4Vars fuel ([] : List Form) x1 x2).bind fun v1 =>
 (m_spec_l4Depths fuel ([] : List Int) x1 x2 0).bind fun v2 =>
 m_spec_l4Row_l1 fuel x3 v1 v2 ([] : List Hit) 0
mutual
def m_spec_l4List (fuel : Nat) (x1 : (List Bind)) (x2 : (List Form)) (x3 : (List Form)) (x4 : (List Form)) : Option ((List Hit) × Bool) :=
 match fuel with
 | 0 => none
 | fuel + 1 =>
 m_spec_l4List_l2 fuel x1 x2 x3 x4 (-1) 0
def m_spec_l4List_l2 (fuel : Nat) (x1 : (List Bind)) (x2 : (List Form)) (x3 : (List Form)) (x4 : (List Form)) (g1 : Int) (g2 : Int) : Option ((List Hit) × Bool) :=
 match fuel with
 | 0 => none
 | fuel + 1 =>
 (bif (decide ((w64 (g2 + 1)) < (x2.length : Int))) then
 (idx x2 (w64 (g2 + 1))).bind fun v5 =>
 (m_spec_l4Dots fuel v5).bind fun v6 =>
 (bif v6 then
 m_spec_l4List_l2 fuel x1 x2 x3 x4 g2 (w64 (g2 + 1))
 else
 m_spec_l4List_l2 fuel x1 x2 x3 x4 g1 (w64 (g2 + 1)))
 else
 m_spec_l4List_j1 fuel x1 x2 x3 x4 g1)
def m_spec_l4List_l6 (fuel : Nat) (x1 : (List Bind)) (x2 : (List Form)) (x3 : (List Form)) (x4 : (List Form)) (g8 : Int) (g17 : Int) (g18 : (List Hit)) (g32 : Int) (g33 : (List (List Hit))) (g34 : Int) : Option ((List Hit) × Bool) :=
 match fuel with
 | 0 => none
 | fuel + 1 =>
 (bif (decide (0 < g34)) then
 (idx x2 g17).bind fun v37 =>
 (idx x4 g32).bind fun v38 =>
 (m_spec_l4Match fuel x1 v37 x3 v38).bind fun v39 =>
 (bif (!v39.2) then
 some (g18, false)
 else
 chk (decide ((g33.length + [v39.1].length) * 24 ≤ 140737488355328)) <|
 m_spec_l4List_l6 fuel x1 x2 x3 x4 g8 g17 g18 (w64 (g32 + 1)) (g33 ++ [v39.1]) (w64 (g34 - 1)))
 else
 m_spec_l4List_j5 fuel x1 x2 x3 x4 g8 g17 g18 g32 g33)
def m_spec_l4List_j5 (fuel : Nat) (x1 : (List Bind)) (x2 : (List Form)) (x3 : (List Form)) (x4 : (List Form)) (g8 : Int) (g17 : Int) (g18 : (List Hit)) (g42 : Int) (g43 : (List (List Hit))) : Option ((List Hit) × Bool) :=
 match fuel with
 | 0 => none
 | fuel + 1 =>
 (idx x2 g17).bind fun v45 =>
 (m_spec_l4Row fuel v45 x3 g43).bind fun v46 =>
 chk (decide ((g18.length + v46.length) * 192 ≤ 140737488355328)) <|
 m_spec_l4List_l4 fuel x1 x2 x3 x4 g8 (g17 + 1) (g18 ++ v46) g42
def m_spec_l4List_l4 (fuel : Nat) (x1 : (List Bind)) (x2 : (List Form)) (x3 : (List Form)) (x4 : (List Form)) (g8 : Int) (g17 : Int) (g18 : (List Hit)) (g19 : Int) : Option ((List Hit) × Bool) :=
 match fuel with
 | 0 => none
 | fuel + 1 =>
 (bif (decide (g17 < (x2.length : Int))) then
 (idx x2 g17).bind fun v23 =>
 (m_spec_l4Dots fuel v23).bind fun v24 =>
 (bif v24 then
 m_spec_l4List_l4 fuel x1 x2 x3 x4 g8 (g17 + 1) g18 g19
 else
 (bif (decide (g17 ≠ g8)) then
 (idx x2 g17).bind fun v27 =>
 (idx x4 g19).bind fun v28 =>
 (m_spec_l4Match fuel x1 v27 x3 v28).bind fun v29 =>
 (bif (!v29.2) then
 some (g18, false)
 else
 chk (decide ((g18.length + v29.1.length) * 192 ≤ 140737488355328)) <|
 m_spec_l4List_l4 fuel x1 x2 x3 x4 g8 (g17 + 1) (g18 ++ v29.1) (w64 (g19 + 1)))
 else
 m_spec_l4List_l6 fuel x1 x2 x3 x4 g8 g17 g18 g19 ([] : List (List Hit)) (w64 ((x4.length : Int) - (w64 ((x2.length : Int) - 2))))))
 else
 some (g18, true))
def m_spec_l4List_j3 (fuel : Nat) (x1 : (List Bind)) (x2 : (List Form)) (x3 : (List Form)) (x4 : (List Form)) (g8 : Int) : Option ((List Hit) × Bool) :=
 match fuel with
 | 0 => none
 | fuel + 1 =>
 m_spec_l4List_l4 fuel x1 x2 x3 x4 g8 0 ([] : List Hit) 0
def m_spec_l4List_j1 (fuel : Nat) (x1 : (List Bind)) (x2 : (List Form)) (x3 : (List Form)) (x4 : (List Form)) (g8 : Int) : Option ((List Hit) × Bool) :=
 match fuel with
 | 0 => none
 | fuel + 1 =>
 (bif (decide (g8 < 0)) then
 (bif (decide ((x2.length : Int) ≠ (x4.length : Int))) then
 some (([] : List Hit), false)
 else
 (bif (decide (0 ≤ g8)) then
 (bif (decide ((x4.length : Int) < (w64 ((x2.length : Int) - 2)))) then
 some (([] : List Hit), false)
 else
 m_spec_l4List_j3 fuel x1 x2 x3 x4 g8 )
 else
 m_spec_l4List_j3 fuel x1 x2 x3 x4 g8 ))
 else
 (bif (decide (0 ≤ g8)) then
 (bif (decide ((x4.length : Int) < (w64 ((x2.length : Int) - 2)))) then
 some (([] : List Hit), false)
 else
 m_spec_l4List_j3 fuel x1 x2 x3 x4 g8 )
 else
 m_spec_l4List_j3 fuel x1 x2 x3 x4 g8 ))
def m_spec_l4Match (fuel : Nat) (x1 : (List Bind)) (x2 : Form) (x3 : (List Form)) (x4 : Form) : Option ((List Hit) × Bool) :=
 match fuel with
 | 0 => none
 | fuel + 1 =>
 (bif (decide (x2.kind = 1)) then
 (bif (decide (x2.name = (⟨#[95]⟩ : ByteArray))) then
 some (([] : List Hit), true)
 else
 (m_spec_l4In fuel x3 x2).bind fun v3 =>
 (bif v3 then
 (bif (decide (x4.kind = 1)) then
 (m_spec_l3Same fuel x1 x2 x4).bind fun v6 =>
 m_spec_l4Match_j1 fuel  v6
 else
 m_spec_l4Match_j1 fuel  false)
 else
 chk (decide ((([] : List Hit).length + [(Hit.mk x2 0 x4 ([] : List Hit))].length) * 192 ≤ 140737488355328)) <|
 some ((([] : List Hit) ++ [(Hit.mk x2 0 x4 ([] : List Hit))]), true)))
 else
 (bif (decide (x2.kind = 2)) then
 (m_spec_FormSame fuel x2 x4).bind fun v11 =>
 some (([] : List Hit), v11)
 else
 (bif (decide (x4.kind ≠ 3)) then
 some (([] : List Hit), false)
 else
 (m_spec_l4List fuel x1 x2.kids x3 x4.kids).bind fun v13 =>
 some (v13.1, v13.2))))
def m_spec_l4Match_j1 (fuel : Nat) (g7 : Bool) : Option ((List Hit) × Bool) :=
 match fuel with
 | 0 => none
 | fuel + 1 =>
 some (([] : List Hit), g7)
end
mutual
def m_spec_l4CopyHit (fuel : Nat) (x1 : Hit) : Option Hit :=
 match fuel with
 | 0 => none
 | fuel + 1 =>
 (m_spec_l1Copy fuel x1.name).bind fun v1 =>
 (m_spec_l1Copy fuel x1.one).bind fun v2 =>
 m_spec_l4CopyHit_l1 fuel x1 v1 v2 0 ([] : List Hit)
def m_spec_l4CopyHit_l1 (fuel : Nat) (x1 : Hit) (v1 : Form) (v2 : Form) (g3 : Int) (g4 : (List Hit)) : Option Hit :=
 match fuel with
 | 0 => none
 | fuel + 1 =>
 (bif (decide (g3 < (x1.many.length : Int))) then
 (idx x1.many g3).bind fun v8 =>
 (m_spec_l4CopyHit fuel v8).bind fun v9 =>
 chk (decide ((g4.length + [v9].length) * 192 ≤ 140737488355328)) <|
 m_spec_l4CopyHit_l1 fuel x1 v1 v2 (g3 + 1) (g4 ++ [v9])
 else
 some (Hit.mk v1 x1.depth v2 g4))
end
def m_spec_l4Copy_l1 (fuel : Nat) (x1 : (List Hit)) (g1 : (List Hit)) (g2 : Int) : Option (List Hit) :=
 match fuel with
 | 0 => none
 | fuel + 1 =>
 (bif (decide (g2 < (x1.length : Int))) then
 (idx x1 g2).bind fun v6 =>
 (m_spec_l4CopyHit fuel v6).bind fun v7 =>
 chk (decide ((g1.length + [v7].length) * 192 ≤ 140737488355328)) <|
 m_spec_l4Copy_l1 fuel x1 (g1 ++ [v7]) (g2 + 1)
 else
 some g1)
def m_spec_l4Copy (fuel : Nat) (x1 : (List Hit)) : Option (List Hit) :=
 m_spec_l4Copy_l1 fuel x1 ([] : List Hit) 0
def m_spec_MatchPattern_j1 (fuel : Nat) (x1 : (List Bind)) (x2 : Form) (x3 : (List Form)) (x4 : Form) (g6 : Bool) : Option ((List Hit) × Bool) :=
 match fuel with
 | 0 => none
 | fuel + 1 =>
 (bif g6 then
 some (([] : List Hit), false)
 else
 (m_spec_l4Match fuel x1 x2 x3 x4).bind fun v9 =>
 (bif (!v9.2) then
 some (([] : List Hit), false)
 else
 (m_spec_l4Copy fuel v9.1).bind fun v11 =>
 some (v11, true)))
def m_spec_MatchPattern (fuel : Nat) (x1 : (List Bind)) (x2 : Form) (x3 : (List Form)) (x4 : Form) : Option ((List Hit) × Bool) :=
 (m_spec_BindsValid fuel x1).bind fun v1 =>
 (bif (!v1) then
 m_spec_MatchPattern_j1 fuel x1 x2 x3 x4 true
 else
 (m_spec_l4Is fuel x2 x3).bind fun v3 =>
 (bif (!v3) then
 m_spec_MatchPattern_j1 fuel x1 x2 x3 x4 true
 else
 (m_spec_FormValid fuel x4).bind fun v5 =>
 m_spec_MatchPattern_j1 fuel x1 x2 x3 x4 (!v5)))
def m_spec_l4Hits (fuel : Nat) (x1 : (List Int)) : Option (List Hit) :=
 (m_spec_DrawMatchPattern fuel x1).bind fun v1 =>
 (m_spec_MatchPattern fuel v1.1 v1.2.1 v1.2.2.1 v1.2.2.2).bind fun v2 =>
 (m_spec_l15Open fuel x1).bind fun v3 =>
 (bif (decide ((v2.1.length : Int) = 0)) then
 some v2.1
 else
 (m_spec_l15Rd_pick fuel v3 (v2.1.length : Int)).bind fun v5 =>
 (m_spec_l15Rd_pick fuel v5.2 16).bind fun v6 =>
 (bif (decide (v6.1 = 0)) then
 (m_spec_l15Rd_num fuel v6.2 [0, 1, 2, 4, (-1)]).bind fun v8 =>
 (idx v2.1 v5.1).bind fun v9 =>
 some (v2.1.set v5.1.toNat (Hit.mk v9.name v8.1 v9.one v9.many))
 else
 (bif (decide (v6.1 = 1)) then
 (idx v2.1 v5.1).bind fun v11 =>
 (m_spec_l1Mutate fuel v6.2 v11.name).bind fun v12 =>
 (m_spec_l1Mutate fuel v12.2 v12.1).bind fun v13 =>
 (idx v2.1 v5.1).bind fun v14 =>
 some (v2.1.set v5.1.toNat (Hit.mk v13.1 v14.depth v14.one v14.many))
 else
 (bif (decide (v6.1 = 2)) then
 (idx v2.1 v5.1).bind fun v16 =>
 chk (decide ((v2.1.length + [v16].length) * 192 ≤ 140737488355328)) <|
 some (v2.1 ++ [v16])
 else
 some v2.1))))
mutual
def m_impl_hitForms (fuel : Nat) (x1 : Hit) (x2 : (List Form)) : Option (List Form) :=
 match fuel with
 | 0 => none
 | fuel + 1 =>
 (bif (decide (x1.depth = 0)) then
 (m_impl_copyForm fuel x1.one).bind fun v2 =>
 chk (decide ((x2.length + [v2].length) * 80 ≤ 140737488355328)) <|
 some (x2 ++ [v2])
 else
 m_impl_hitForms_l1 fuel x1 x2 0)
def m_impl_hitForms_l1 (fuel : Nat) (x1 : Hit) (g4 : (List Form)) (g5 : Int) : Option (List Form) :=
 match fuel with
 | 0 => none
 | fuel + 1 =>
 (bif (decide (g5 < (x1.many.length : Int))) then
 (idx x1.many g5).bind fun v9 =>
 (m_impl_hitForms fuel v9 g4).bind fun v10 =>
 m_impl_hitForms_l1 fuel x1 v10 (g5 + 1)
 else
 some g4)
end
def m_impl_hitForms_n (fuel : Nat) (x1 : Hit) : Option (List Form) :=
 (bif (decide (x1.depth = 0)) then
 (m_impl_copyForm fuel x1.one).bind fun v2 =>
 chk (decide ([v2].length * 80 ≤ 140737488355328)) <|
 some [v2]
 else
 m_impl_hitForms_l1 fuel x1 ([] : List Form) 0)
def m_impl_HitForms (fuel : Nat) (x1 : Hit) : Option (List Form) :=
 (m_impl_hitOk fuel x1).bind fun v1 =>
 (bif (!v1) then
 some ([] : List Form)
 else
 (m_impl_hitForms_n fuel x1).bind fun v3 =>
 some v3)
def m_spec_DrawHitForms (fuel : Nat) (x1 : (List Int)) : Option Hit :=
 (m_spec_l4Hits fuel x1).bind fun v1 =>
 (bif (decide ((v1.length : Int) = 0)) then
 (m_spec_l1Name fuel (⟨#[97]⟩ : ByteArray)).bind fun v3 =>
 (m_spec_l1Name fuel (⟨#[120]⟩ : ByteArray)).bind fun v4 =>
 some (Hit.mk v3 0 v4 ([] : List Hit))
 else
 (m_spec_l15Open fuel x1).bind fun v5 =>
 (m_spec_l15Rd_pick fuel v5 (v1.length : Int)).bind fun v6 =>
 (idx v1 v6.1).bind fun v7 =>
 some v7)
mutual
def m_spec_l4Forms (fuel : Nat) (x1 : (List Form)) (x2 : Hit) : Option (List Form) :=
 match fuel with
 | 0 => none
 | fuel + 1 =>
 (bif (decide (x2.depth = 0)) then
 (m_spec_l1Copy fuel x2.one).bind fun v2 =>
 chk (decide ((x1.length + [v2].length) * 80 ≤ 140737488355328)) <|
 some (x1 ++ [v2])
 else
 m_spec_l4Forms_l1 fuel x2 x1 0)
def m_spec_l4Forms_l1 (fuel : Nat) (x2 : Hit) (g4 : (List Form)) (g5 : Int) : Option (List Form) :=
 match fuel with
 | 0 => none
 | fuel + 1 =>
 (bif (decide (g5 < (x2.many.length : Int))) then
 (idx x2.many g5).bind fun v9 =>
 (m_spec_l4Forms fuel g4 v9).bind fun v10 =>
 m_spec_l4Forms_l1 fuel x2 v10 (g5 + 1)
 else
 some g4)
end
def m_spec_HitForms (fuel : Nat) (x1 : Hit) : Option (List Form) :=
 (m_spec_l4Hit fuel x1 x1.depth).bind fun v1 =>
 (bif (!v1) then
 some ([] : List Form)
 else
 (m_spec_l4Forms fuel ([] : List Form) x1).bind fun v3 =>
 some v3)
mutual
def m_laws_FnHitForms_j2 (fuel : Nat) (g17 : Bool) : Option Bool :=
 match fuel with
 | 0 => none
 | fuel + 1 =>
 some g17
def m_laws_FnHitForms_l4 (fuel : Nat) (v3 : Hit) (v4 : (List Form)) (g25 : (List Form)) (g26 : Int) : Option Bool :=
 match fuel with
 | 0 => none
 | fuel + 1 =>
 (bif (decide (g26 < (v3.many.length : Int))) then
 (idx v3.many g26).bind fun v30 =>
 (m_impl_HitForms fuel v30).bind fun v31 =>
 chk (decide ((g25.length + v31.length) * 80 ≤ 140737488355328)) <|
 m_laws_FnHitForms_l4 fuel v3 v4 (g25 ++ v31) (g26 + 1)
 else
 (m_laws_mxForms fuel g25 v4).bind fun v33 =>
 some v33)
def m_laws_FnHitForms_j1 (fuel : Nat) (v3 : Hit) (v4 : (List Form)) (g9 : Bool) : Option Bool :=
 match fuel with
 | 0 => none
 | fuel + 1 =>
 (bif g9 then
 (m_spec_HitForms fuel v3).bind fun v12 =>
 (m_laws_mxForms fuel v4 v12).bind fun v13 =>
 (bif v13 then
 (bif (decide ((v4.length : Int) = 0)) then
 m_laws_FnHitForms_j2 fuel  true
 else
 (m_impl_HitsValid fuel [v3]).bind fun v16 =>
 m_laws_FnHitForms_j2 fuel  v16)
 else
 m_laws_FnHitForms_j2 fuel  false)
 else
 (bif (decide (v3.depth = 0)) then
 (bif (decide ((v4.length : Int) = 1)) then
 (idx v4 0).bind fun v21 =>
 (m_impl_FormSame fuel v21 v3.one).bind fun v22 =>
 m_laws_FnHitForms_j2 fuel  v22
 else
 m_laws_FnHitForms_j2 fuel  false)
 else
 m_laws_FnHitForms_l4 fuel v3 v4 ([] : List Form) 0))
end
def m_laws_FnHitForms (fuel : Nat) (x1 : (List Int)) : Option Bool :=
 (bif (decide (1048576 < (x1.length : Int))) then
 some true
 else
 (m_spec_DrawHitForms fuel x1).bind fun v3 =>
 (m_impl_HitForms fuel v3).bind fun v4 =>
 (m_spec_HitForms fuel v3).bind fun v5 =>
 (m_laws_mxForms fuel v4 v5).bind fun v6 =>
 (bif (!v6) then
 m_laws_FnHitForms_j1 fuel v3 v4 true
 else
 (m_impl_HitsValid fuel [v3]).bind fun v8 =>
 m_laws_FnHitForms_j1 fuel v3 v4 (!v8)))
end Go.Abs
end
