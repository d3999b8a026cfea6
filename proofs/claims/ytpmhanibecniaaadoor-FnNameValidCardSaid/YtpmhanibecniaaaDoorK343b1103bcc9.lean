/- A part of the proof: what the functions that the law calls answer, as pure values. -/
import Derived.Test.YtpmhanibecniaaaDoorK0c2fee0c4f9f
set_option linter.unusedSimpArgs false
set_option linter.unusedVariables false
set_option maxHeartbeats 4000000
namespace Go.Abs
def m_spec_l1Letter (fuel : Nat) (x1 : Int) (x2 : Bool) : Option Bool :=
 (bif (decide (97 ≤ x1)) then
 (bif (decide (x1 ≤ 122)) then
 some true
 else
 (bif (decide (x1 = 42)) then
 some true
 else
 (bif (decide (x1 = 63)) then
 some true
 else
 (bif (decide (x1 = 61)) then
 some true
 else
 (bif (decide (x1 = 43)) then
 some true
 else
 (bif (decide (x1 = 60)) then
 some true
 else
 (bif (!x2) then
 (bif (decide (48 ≤ x1)) then
 (bif (decide (x1 ≤ 57)) then
 some true
 else
 some (decide (x1 = 45)))
 else
 some (decide (x1 = 45)))
 else
 some false)))))))
 else
 (bif (decide (x1 = 42)) then
 some true
 else
 (bif (decide (x1 = 63)) then
 some true
 else
 (bif (decide (x1 = 61)) then
 some true
 else
 (bif (decide (x1 = 43)) then
 some true
 else
 (bif (decide (x1 = 60)) then
 some true
 else
 (bif (!x2) then
 (bif (decide (48 ≤ x1)) then
 (bif (decide (x1 ≤ 57)) then
 some true
 else
 some (decide (x1 = 45)))
 else
 some (decide (x1 = 45)))
 else
 some false)))))))
def m_spec_NameValid_l1 (fuel : Nat) (x1 : ByteArray) (g3 : Int) : Option Bool :=
 match fuel with
 | 0 => none
 | fuel + 1 =>
 (bif (decide (g3 < (x1.size : Int))) then
 (bif (decide (g3 ≤ 12)) then
 (bidx x1 g3).bind fun v7 =>
 (m_spec_l1Letter fuel v7 (decide (g3 = 0))).bind fun v8 =>
 (bif (!v8) then
 some false
 else
 m_spec_NameValid_l1 fuel x1 (w64 (g3 + 1)))
 else
 (bif (decide (1 ≤ (x1.size : Int))) then
 some (decide ((x1.size : Int) ≤ 12))
 else
 some false))
 else
 (bif (decide (1 ≤ (x1.size : Int))) then
 some (decide ((x1.size : Int) ≤ 12))
 else
 some false))
def m_spec_NameValid (fuel : Nat) (x1 : ByteArray) : Option Bool :=
 (bif (decide (x1 = (⟨#[46, 46, 46]⟩ : ByteArray))) then
 some true
 else
 (bif (decide (x1 = (⟨#[95]⟩ : ByteArray))) then
 some true
 else
 m_spec_NameValid_l1 fuel x1 0))
def m_strings_IndexByte (fuel : Nat) (x1 : ByteArray) (x2 : Int) : Option Int :=
 some (Lib.indexByte x1.data.toList x2.toNat.toUInt8)
def m_impl_within (fuel : Nat) (x1 : Int) (x2 : Int) (x3 : Int) : Option Bool :=
 (bif (decide (x2 ≤ x1)) then
 some (decide (x1 ≤ x3))
 else
 some false)
def m_impl_NameValid_l1 (fuel : Nat) (x1 : ByteArray) (g3 : Int) : Option Bool :=
 match fuel with
 | 0 => none
 | fuel + 1 =>
 (bif (decide (g3 < (x1.size : Int))) then
 (bidx x1 g3).bind fun v6 =>
 (bif (decide (97 ≤ v6)) then
 (bif (decide (v6 ≤ 122)) then
 m_impl_NameValid_l1 fuel x1 (w64 (g3 + 1))
 else
 (m_strings_IndexByte fuel (⟨#[42, 63, 61, 43, 60]⟩ : ByteArray) v6).bind fun v9 =>
 (bif (decide (0 ≤ v9)) then
 m_impl_NameValid_l1 fuel x1 (w64 (g3 + 1))
 else
 (bif (decide (0 < g3)) then
 (bif (decide (48 ≤ v6)) then
 (bif (decide (v6 ≤ 57)) then
 m_impl_NameValid_l1 fuel x1 (w64 (g3 + 1))
 else
 (bif (decide (v6 = 45)) then
 m_impl_NameValid_l1 fuel x1 (w64 (g3 + 1))
 else
 some false))
 else
 (bif (decide (v6 = 45)) then
 m_impl_NameValid_l1 fuel x1 (w64 (g3 + 1))
 else
 some false))
 else
 some false)))
 else
 (m_strings_IndexByte fuel (⟨#[42, 63, 61, 43, 60]⟩ : ByteArray) v6).bind fun v16 =>
 (bif (decide (0 ≤ v16)) then
 m_impl_NameValid_l1 fuel x1 (w64 (g3 + 1))
 else
 (bif (decide (0 < g3)) then
 (bif (decide (48 ≤ v6)) then
 (bif (decide (v6 ≤ 57)) then
 m_impl_NameValid_l1 fuel x1 (w64 (g3 + 1))
 else
 (bif (decide (v6 = 45)) then
 m_impl_NameValid_l1 fuel x1 (w64 (g3 + 1))
 else
 some false))
 else
 (bif (decide (v6 = 45)) then
 m_impl_NameValid_l1 fuel x1 (w64 (g3 + 1))
 else
 some false))
 else
 some false)))
 else
 (m_impl_within fuel (x1.size : Int) 1 12).bind fun v23 =>
 some v23)
def m_impl_NameValid (fuel : Nat) (x1 : ByteArray) : Option Bool :=
 (bif (decide (x1 = (⟨#[46, 46, 46]⟩ : ByteArray))) then
 some true
 else
 (bif (decide (x1 = (⟨#[95]⟩ : ByteArray))) then
 some true
 else
 m_impl_NameValid_l1 fuel x1 0))
def m_impl_scopesOk_l1 (fuel : Nat) (x1 : (List Int)) (g1 : Int) : Option Bool :=
 match fuel with
 | 0 => none
 | fuel + 1 =>
 (bif (decide (g1 < (x1.length : Int))) then
 (idx x1 g1).bind fun v5 =>
 (m_impl_within fuel v5 1 99).bind fun v6 =>
 (bif (!v6) then
 some false
 else
 (bif (decide (0 < g1)) then
 (idx x1 (w64 (g1 - 1))).bind fun v9 =>
 (bif (decide (v5 ≤ v9)) then
 some false
 else
 m_impl_scopesOk_l1 fuel x1 (g1 + 1))
 else
 m_impl_scopesOk_l1 fuel x1 (g1 + 1)))
 else
 some (decide ((x1.length : Int) ≤ 24)))
def m_impl_scopesOk (fuel : Nat) (x1 : (List Int)) : Option Bool :=
 m_impl_scopesOk_l1 fuel x1 0
mutual
def m_impl_formOk (fuel : Nat) (x1 : Form) (x2 : Int) (o1 : Int) : Option (Bool × Int) :=
 match fuel with
 | 0 => none
 | fuel + 1 =>
 (bif (decide ((w64 (o1 - 1)) < 0)) then
 some (false, (w64 (o1 - 1)))
 else
 (bif (decide (40 < x2)) then
 some (false, (w64 (o1 - 1)))
 else
 (bif (decide (x1.kind = 1)) then
 (m_impl_NameValid fuel x1.name).bind fun v4 =>
 (bif v4 then
 (bif (decide (x1.n = 0)) then
 (m_impl_scopesOk fuel x1.scopes).bind fun v7 =>
 (bif v7 then
 some ((decide ((x1.kids.length : Int) = 0)), (w64 (o1 - 1)))
 else
 some (false, (w64 (o1 - 1))))
 else
 some (false, (w64 (o1 - 1))))
 else
 some (false, (w64 (o1 - 1))))
 else
 (bif (decide (x1.kind = 2)) then
 (bif (decide (x1.name = (⟨#[]⟩ : ByteArray))) then
 (m_impl_within fuel x1.n 0 999).bind fun v11 =>
 (bif v11 then
 (bif (decide ((x1.scopes.length : Int) = 0)) then
 some ((decide ((x1.kids.length : Int) = 0)), (w64 (o1 - 1)))
 else
 some (false, (w64 (o1 - 1))))
 else
 some (false, (w64 (o1 - 1))))
 else
 some (false, (w64 (o1 - 1))))
 else
 (bif (decide (x1.kind = 3)) then
 (bif (decide (x1.name ≠ (⟨#[]⟩ : ByteArray))) then
 some (false, (w64 (o1 - 1)))
 else
 (bif (decide (x1.n ≠ 0)) then
 some (false, (w64 (o1 - 1)))
 else
 (bif (decide (0 < (x1.scopes.length : Int))) then
 some (false, (w64 (o1 - 1)))
 else
 m_impl_formOk_l1 fuel x1 x2 0 (w64 (o1 - 1)))))
 else
 some (false, (w64 (o1 - 1))))))))
def m_impl_formOk_l1 (fuel : Nat) (x1 : Form) (x2 : Int) (g19 : Int) (g20 : Int) : Option (Bool × Int) :=
 match fuel with
 | 0 => none
 | fuel + 1 =>
 (bif (decide (g19 < (x1.kids.length : Int))) then
 (idx x1.kids g19).bind fun v24 =>
 (m_impl_formOk fuel v24 (w64 (x2 + 1)) g20).bind fun v25 =>
 (bif (!v25.1) then
 some (false, v25.2)
 else
 m_impl_formOk_l1 fuel x1 x2 (g19 + 1) v25.2)
 else
 some (true, g20))
end
def m_impl_FormValid (fuel : Nat) (x1 : Form) : Option Bool :=
 (m_impl_formOk fuel x1 1 400).bind fun v1 =>
 some v1.1
def m_spec_l15Open (fuel : Nat) (x1 : (List Int)) : Option l15Rd :=
 (bif (decide (2000 < (x1.length : Int))) then
 (sub x1 0 2000).bind fun v3 =>
 some (l15Rd.mk v3 0)
 else
 some (l15Rd.mk x1 0))
def m_spec_l15Rd_pick (fuel : Nat) (o1 : l15Rd) (x2 : Int) : Option (Int × l15Rd) :=
 (bif (decide (x2 < 1)) then
 some (0, (l15Rd.mk o1.b (w64 (o1.p + 1))))
 else
 (bif (decide ((o1.b.length : Int) = 0)) then
 some (0, (l15Rd.mk o1.b (w64 (o1.p + 1))))
 else
 (bif (decide ((w64 ((w64 (o1.p + 1)) - 1)) < (o1.b.length : Int))) then
 (idx o1.b (w64 ((w64 (o1.p + 1)) - 1))).bind fun v4 =>
 chk (decide (x2 ≠ 0)) <|
 some (((w64 v4).tmod x2), (l15Rd.mk o1.b (w64 (o1.p + 1))))
 else
 chk (decide ((o1.b.length : Int) ≠ 0)) <|
 (idx o1.b ((w64 ((w64 (o1.p + 1)) - 1)).tmod (o1.b.length : Int))).bind fun v7 =>
 chk (decide ((o1.b.length : Int) ≠ 0)) <|
 (idx o1.b ((w64 ((w64 ((w64 ((w64 (o1.p + 1)) - 1)) * 7)) + 3)).tmod (o1.b.length : Int))).bind fun v9 =>
 chk (decide ((o1.b.length : Int) ≠ 0)) <|
 chk (decide (x2 ≠ 0)) <|
 some (((xor64 (w64 ((w64 ((w64 ((w64 ((w64 v7) * 131)) + (w64 ((w64 v9) * 1117)))) + (w64 ((w64 ((w64 (o1.p + 1)) - 1)) * 29)))) + (w64 ((w64 ((w64 ((w64 (o1.p + 1)) - 1)).tdiv (o1.b.length : Int))) * 53)))) (w64 ((w64 ((w64 ((w64 ((w64 ((w64 v7) * 131)) + (w64 ((w64 v9) * 1117)))) + (w64 ((w64 ((w64 (o1.p + 1)) - 1)) * 29)))) + (w64 ((w64 ((w64 ((w64 (o1.p + 1)) - 1)).tdiv (o1.b.length : Int))) * 53)))).tdiv 64))).tmod x2), (l15Rd.mk o1.b (w64 (o1.p + 1)))))))
def m_spec_l15Rd_of (fuel : Nat) (o1 : l15Rd) (x2 : (List ByteArray)) : Option (ByteArray × l15Rd) :=
 (m_spec_l15Rd_pick fuel o1 (x2.length : Int)).bind fun v1 =>
 (idx x2 v1.1).bind fun v2 =>
 some (v2, v1.2)
def m_strings_TrimLeft (fuel : Nat) (x1 : ByteArray) (x2 : ByteArray) : Option ByteArray :=
 chk (decide (x2 = (⟨#[32]⟩ : ByteArray))) <|
 some ⟨(Lib.trimLeftB x1.data.toList 32).toArray⟩
def m_impl_scan_blanks (fuel : Nat) (o1 : scan) : Option (Bool × scan) :=
 (m_strings_TrimLeft fuel o1.s (⟨#[32]⟩ : ByteArray)).bind fun v1 =>
 some ((decide ((v1.size : Int) < (o1.s.size : Int))), (scan.mk v1 o1.bad))
def m_strings_IndexAny (fuel : Nat) (x1 : ByteArray) (x2 : ByteArray) : Option Int :=
 chk (decide (x1.size < 4294967281)) <|
 chk (decide (x2 = (⟨#[32, 40, 41, 123, 125]⟩ : ByteArray))) <|
 some (Lib.indexAny x1.data.toList x2.data.toList)
def m_impl_scan_word_j1 (fuel : Nat) (o1 : scan) (g3 : Int) : Option (ByteArray × scan) :=
 match fuel with
 | 0 => none
 | fuel + 1 =>
 (bsub o1.s 0 g3).bind fun v5 =>
 (bsub o1.s g3 (o1.s.size : Int)).bind fun v6 =>
 some (v5, (scan.mk v6 o1.bad))
def m_impl_scan_word (fuel : Nat) (o1 : scan) : Option (ByteArray × scan) :=
 (m_strings_IndexAny fuel o1.s (⟨#[32, 40, 41, 123, 125]⟩ : ByteArray)).bind fun v1 =>
 (bif (decide (v1 < 0)) then
 m_impl_scan_word_j1 fuel o1 (o1.s.size : Int)
 else
 m_impl_scan_word_j1 fuel o1 v1)
def m_impl_number (fuel : Nat) (x1 : ByteArray) (x2 : Int) : Option (Int × Bool) :=
 chk (decide (x1.size ≤ 140737488355328)) <|
 some (match Lib.atoiAll x1.data.toList with
 | .ok v => (v, (decide ((⟨(Lib.itoa v).toArray⟩ : ByteArray) = x1)) && ((decide (0 ≤ v)) && decide (v ≤ x2)))
 | .range => (Lib.atoiSat x1.data.toList, false)
 | _ => (0, false))
def m_strings_CutPrefix (fuel : Nat) (x1 : ByteArray) (x2 : ByteArray) : Option (ByteArray × Bool) :=
 some (⟨(Lib.trimPrefix x1.data.toList x2.data.toList).toArray⟩, Lib.hasPrefix x1.data.toList x2.data.toList)
def m_strings_Cut (fuel : Nat) (x1 : ByteArray) (x2 : ByteArray) : Option (ByteArray × ByteArray × Bool) :=
 chk (decide (x1.size < 4294967281)) <|
 some (⟨(Lib.cut x1.data.toList x2.data.toList).1.toArray⟩, ⟨(Lib.cut x1.data.toList x2.data.toList).2.1.toArray⟩, (Lib.cut x1.data.toList x2.data.toList).2.2)
def m_strings_Split (fuel : Nat) (x1 : ByteArray) (x2 : ByteArray) : Option (List ByteArray) :=
 chk (decide (x1.size < 4294967281)) <|
 chk (decide (1 ≤ x2.size)) <|
 chk (decide ((Lib.splitB x2 0 (Lib.countB x1 x2) x1).length = Lib.countB x1 x2 + 1)) <|
 chk (decide ((Lib.splitB x2 0 (Lib.countB x1 x2) x1).length ≤ maxLen)) <|
 some (Lib.splitB x2 0 (Lib.countB x1 x2) x1)
mutual
def m_impl_scan_form (fuel : Nat) (o1 : scan) (x2 : Int) : Option (Form × Bool × scan) :=
 match fuel with
 | 0 => none
 | fuel + 1 =>
 (m_impl_scan_blanks fuel o1).bind fun v1 =>
 (bif (decide (v1.2.s = (⟨#[]⟩ : ByteArray))) then
 m_impl_scan_form_j1 fuel x2 v1 true
 else
 m_impl_scan_form_j1 fuel x2 v1 (decide (40 < x2)))
def m_impl_scan_form_j5 (fuel : Nat) (x2 : Int) (g12 : (List Form)) (g17 : ByteArray) (g18 : Bool) (g29 : Bool) : Option (Form × Bool × scan) :=
 match fuel with
 | 0 => none
 | fuel + 1 =>
 (bif g29 then
 some ((Form.mk 0 (⟨#[]⟩ : ByteArray) 0 ([] : List Int) ([] : List Form)), false, (scan.mk g17 true))
 else
 (m_impl_scan_form fuel (scan.mk g17 g18) (w64 (x2 + 1))).bind fun v32 =>
 chk (decide ((g12.length + [v32.1].length) * 80 ≤ 140737488355328)) <|
 m_impl_scan_form_l2 fuel x2 v32.2.1 v32.2.2.s v32.2.2.bad (g12 ++ [v32.1]))
def m_impl_scan_form_j4 (fuel : Nat) (x2 : Int) (g12 : (List Form)) (g16 : Bool) (g17 : ByteArray) (g18 : Bool) (g21 : Bool) : Option (Form × Bool × scan) :=
 match fuel with
 | 0 => none
 | fuel + 1 =>
 (bif g21 then
 some ((Form.mk 0 (⟨#[]⟩ : ByteArray) 0 ([] : List Int) ([] : List Form)), false, (scan.mk g17 true))
 else
 (bidx g17 0).bind fun v24 =>
 (bif (decide (v24 = 41)) then
 (bsub g17 1 (g17.size : Int)).bind fun v26 =>
 some ((Form.mk 3 (⟨#[]⟩ : ByteArray) 0 ([] : List Int) g12), true, (scan.mk v26 g18))
 else
 (bif (!g16) then
 (bidx g17 0).bind fun v28 =>
 m_impl_scan_form_j5 fuel x2 g12 g17 g18 (decide (v28 ≠ 40))
 else
 m_impl_scan_form_j5 fuel x2 g12 g17 g18 false)))
def m_impl_scan_form_j3 (fuel : Nat) (x2 : Int) (g12 : (List Form)) (g16 : Bool) (g17 : ByteArray) (g18 : Bool) : Option (Form × Bool × scan) :=
 match fuel with
 | 0 => none
 | fuel + 1 =>
 (bif g18 then
 m_impl_scan_form_j4 fuel x2 g12 g16 g17 g18 true
 else
 m_impl_scan_form_j4 fuel x2 g12 g16 g17 g18 (decide (g17 = (⟨#[]⟩ : ByteArray))))
def m_impl_scan_form_l2 (fuel : Nat) (x2 : Int) (g9 : Bool) (g10 : ByteArray) (g11 : Bool) (g12 : (List Form)) : Option (Form × Bool × scan) :=
 match fuel with
 | 0 => none
 | fuel + 1 =>
 (m_impl_scan_blanks fuel (scan.mk g10 g11)).bind fun v14 =>
 (bif v14.1 then
 m_impl_scan_form_j3 fuel x2 g12 true v14.2.s v14.2.bad
 else
 m_impl_scan_form_j3 fuel x2 g12 g9 v14.2.s v14.2.bad)
def m_impl_scan_form_j8 (fuel : Nat) (v34 : ByteArray × scan) (v41 : ByteArray × ByteArray × Bool) (v45 : (List ByteArray)) (g46 : Int) (g48 : (List Int)) (v53 : Int × Bool) (g55 : Bool) : Option (Form × Bool × scan) :=
 match fuel with
 | 0 => none
 | fuel + 1 =>
 chk (decide ((g48.length + [v53.1].length) * 8 ≤ 140737488355328)) <|
 m_impl_scan_form_l7 fuel v34 v41 v45 (g46 + 1) g55 (g48 ++ [v53.1])
def m_impl_scan_form_l7 (fuel : Nat) (v34 : ByteArray × scan) (v41 : ByteArray × ByteArray × Bool) (v45 : (List ByteArray)) (g46 : Int) (g47 : Bool) (g48 : (List Int)) : Option (Form × Bool × scan) :=
 match fuel with
 | 0 => none
 | fuel + 1 =>
 (bif (decide (g46 < (v45.length : Int))) then
 (idx v45 g46).bind fun v52 =>
 (m_impl_number fuel v52 99).bind fun v53 =>
 (bif g47 then
 m_impl_scan_form_j8 fuel v34 v41 v45 g46 g48 v53 true
 else
 m_impl_scan_form_j8 fuel v34 v41 v45 g46 g48 v53 (!v53.2))
 else
 some ((Form.mk 1 v34.1 0 g48 ([] : List Form)), true, (scan.mk v41.2.1 g47)))
def m_impl_scan_form_j6 (fuel : Nat) (v34 : ByteArray × scan) (v41 : ByteArray × ByteArray × Bool) (g43 : Bool) : Option (Form × Bool × scan) :=
 match fuel with
 | 0 => none
 | fuel + 1 =>
 (m_strings_Split fuel v41.1 (⟨#[44]⟩ : ByteArray)).bind fun v45 =>
 m_impl_scan_form_l7 fuel v34 v41 v45 0 g43 ([] : List Int)
def m_impl_scan_form_j1 (fuel : Nat) (x2 : Int) (v1 : Bool × scan) (g3 : Bool) : Option (Form × Bool × scan) :=
 match fuel with
 | 0 => none
 | fuel + 1 =>
 (bif g3 then
 some ((Form.mk 0 (⟨#[]⟩ : ByteArray) 0 ([] : List Int) ([] : List Form)), false, (scan.mk v1.2.s true))
 else
 (bidx v1.2.s 0).bind fun v6 =>
 (bif (decide (v6 = 40)) then
 (bsub v1.2.s 1 (v1.2.s.size : Int)).bind fun v8 =>
 m_impl_scan_form_l2 fuel x2 true v8 v1.2.bad ([] : List Form)
 else
 (m_impl_scan_word fuel v1.2).bind fun v34 =>
 (m_impl_number fuel v34.1 999).bind fun v35 =>
 (bif v35.2 then
 some ((Form.mk 2 (⟨#[]⟩ : ByteArray) v35.1 ([] : List Int) ([] : List Form)), false, v34.2)
 else
 (m_impl_NameValid fuel v34.1).bind fun v37 =>
 (bif (!v37) then
 some ((Form.mk 0 (⟨#[]⟩ : ByteArray) 0 ([] : List Int) ([] : List Form)), false, (scan.mk v34.2.s true))
 else
 (m_strings_CutPrefix fuel v34.2.s (⟨#[123]⟩ : ByteArray)).bind fun v39 =>
 (bif (!v39.2) then
 some ((Form.mk 1 v34.1 0 ([] : List Int) ([] : List Form)), false, v34.2)
 else
 (m_strings_Cut fuel v39.1 (⟨#[125]⟩ : ByteArray)).bind fun v41 =>
 (bif v34.2.bad then
 m_impl_scan_form_j6 fuel v34 v41 true
 else
 m_impl_scan_form_j6 fuel v34 v41 (!v41.2.2)))))))
end
def m_impl_ParseForm (fuel : Nat) (x1 : ByteArray) : Option (Form × Bool) :=
 (m_impl_scan_form fuel (scan.mk x1 false) 1).bind fun v1 =>
 (m_impl_scan_blanks fuel v1.2.2).bind fun v2 =>
 (bif v2.2.bad then
 some ((Form.mk 0 (⟨#[]⟩ : ByteArray) 0 ([] : List Int) ([] : List Form)), false)
 else
 (bif (decide (v2.2.s ≠ (⟨#[]⟩ : ByteArray))) then
 some ((Form.mk 0 (⟨#[]⟩ : ByteArray) 0 ([] : List Int) ([] : List Form)), false)
 else
 (m_impl_FormValid fuel v1.1).bind fun v5 =>
 (bif (!v5) then
 some ((Form.mk 0 (⟨#[]⟩ : ByteArray) 0 ([] : List Int) ([] : List Form)), false)
 else
 some (v1.1, true))))
def m_spec_l1Bend_j1 (fuel : Nat) (x2 : ByteArray) (x3 : (List ByteArray)) (g3 : Bool) (g4 : (List Int)) (g5 : Int) : Option (ByteArray × l15Rd) :=
 match fuel with
 | 0 => none
 | fuel + 1 =>
 (bif g3 then
 some (x2, (l15Rd.mk g4 g5))
 else
 (m_spec_l15Rd_pick fuel (l15Rd.mk g4 g5) (x2.size : Int)).bind fun v8 =>
 (bsub x2 0 v8.1).bind fun v9 =>
 (m_spec_l15Rd_of fuel v8.2 x3).bind fun v10 =>
 (bcat v9 v10.1).bind fun v11 =>
 (m_spec_l15Rd_pick fuel v10.2 2).bind fun v12 =>
 (bsub x2 (w64 (v8.1 + v12.1)) (x2.size : Int)).bind fun v13 =>
 (bcat v11 v13).bind fun v14 =>
 some (v14, v12.2))
def m_spec_l1Bend (fuel : Nat) (o1 : l15Rd) (x2 : ByteArray) (x3 : (List ByteArray)) : Option (ByteArray × l15Rd) :=
 (bif (decide ((x2.size : Int) = 0)) then
 m_spec_l1Bend_j1 fuel x2 x3 true o1.b o1.p
 else
 (m_spec_l15Rd_pick fuel o1 2).bind fun v2 =>
 m_spec_l1Bend_j1 fuel x2 x3 (decide (v2.1 = 0)) v2.2.b v2.2.p)
def m_spec_DrawNameValid (fuel : Nat) (x1 : (List Int)) : Option ByteArray :=
 (m_spec_l15Open fuel x1).bind fun v1 =>
 (m_spec_l15Rd_of fuel v1 [(⟨#[97]⟩ : ByteArray), (⟨#[108, 101, 116, 45, 115, 121, 110, 116, 97, 120]⟩ : ByteArray), (⟨#[46, 46, 46]⟩ : ByteArray), (⟨#[95]⟩ : ByteArray), (⟨#[120, 49]⟩ : ByteArray), (⟨#[108, 97, 109, 98, 100, 97]⟩ : ByteArray), (⟨#[97, 98, 99, 100, 101, 102, 103, 104, 105, 106, 107, 108]⟩ : ByteArray), (⟨#[43]⟩ : ByteArray)]).bind fun v2 =>
 (m_spec_l1Bend fuel v2.2 v2.1 [(⟨#[]⟩ : ByteArray), (⟨#[49]⟩ : ByteArray), (⟨#[65]⟩ : ByteArray), (⟨#[46]⟩ : ByteArray), (⟨#[45]⟩ : ByteArray), (⟨#[95]⟩ : ByteArray)]).bind fun v3 =>
 some v3.1
def m_laws_FnNameValid (fuel : Nat) (x1 : (List Int)) : Option Bool :=
 (bif (decide (1048576 < (x1.length : Int))) then
 some true
 else
 (m_spec_DrawNameValid fuel x1).bind fun v3 =>
 (m_impl_NameValid fuel v3).bind fun v4 =>
 (m_impl_ParseForm fuel v3).bind fun v5 =>
 (m_spec_NameValid fuel v3).bind fun v6 =>
 (bif (decide (v4 = v6)) then
 (bif (!v4) then
 some true
 else
 (bif v5.2 then
 (bif (decide (v5.1.kind = 1)) then
 some (decide (v5.1.name = v3))
 else
 some false)
 else
 some false))
 else
 some false))
end Go.Abs
