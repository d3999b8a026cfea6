/- A part of the proof: what the functions that the law calls answer, as pure values. -/
import Derived.Test.YtcllpfmjggkpnaaGreatKa9a65b968d17
import Derived.Test.YtcllpfmjggkpnaaGreatKcd1b73107f87
import Derived.Test.YtcllpfmjggkpnaaGreatKa8136476e481
import Derived.Test.YtcllpfmjggkpnaaGreatK1df75f79e59f
set_option linter.unusedSimpArgs false
set_option linter.unusedVariables false
set_option maxRecDepth 100000
set_option maxHeartbeats 4000000
namespace Go.Abs
open Go.Proofs
theorem m_spec_l1Read_all (fuel:Nat):zfC fuel:=by
 induction fuel using Nat.strongRecOn with
 | _ N ih =>
   cases N with
   | zero=>exact (by intro x1 x2 x3 r h;rw [zf3] at h;cases h)
   | succ fu=>exact m_spec_l1Read_st fu (fun k hk=>(ih k (by omega)))
theorem m_spec_l1Read_ok (fuel:Nat):zfC fuel:=(m_spec_l1Read_all fuel)
def m_spec_l1Letter_AC (fuel:Nat):Prop:=∀ (x1:Int) (x2:Bool) (r:Bool),zeW fuel x1 x2=some r→AC Tryz.prog 115 [.t (.sc (.int .u8 x1)),.t (.sc (.bool x2))] noOb (.t (.sc (.bool r))) noOb
theorem m_spec_l1Letter_ok (fuel:Nat):m_spec_l1Letter_AC fuel:=by
 intro x1 x2 r F0
 unfold zeW at F0
 refine AC_i [.t (.sc (.bool r))] Tryz.func115 rfl Tryz.ntmps115 ?_
 intro C hC
 refine zb (za ?_)
 refine s_as ?_
 refine zf (zd (zb (zb (za ?_))))
 refine s_mv ?_
 refine s_ge ?_
 refine s_mv ?_
 refine zo _ 7 F0 ?_ ?_<;>intro C1 F1
 refine s_mv ?_
 refine s_le ?_
 refine zz ?_
 refine s_mv ?_
 refine zo _ 11 F1 ?_ ?_<;>intro C2 F2
 refine r_no rfl (r_no rfl ?_)
 refine zz ?_
 refine s_mv ?_
 refine r_no rfl (r_no rfl ?_)
 refine zz ?_
 refine s_mv ?_
 refine r_no rfl (r_no rfl ?_)
 refine zz ?_
 refine s_mv ?_
 refine r_no rfl (r_no rfl ?_)
 refine zz ?_
 refine s_mv ?_
 refine r_no rfl (r_no rfl ?_)
 refine zz ?_
 refine zf (zd (zM rfl (zb (za ?_))))
 refine s_as ?_
 refine zf (zd (zh (zg (zn ?_))))
 cases F2
 exact zl [] [] Tryz.results115
 refine s_mv ?_
 refine s_eq ?_
 refine zB ?_
 refine s_mv ?_
 refine zo _ 15 F2 ?_ ?_<;>intro C3 F3
 refine r_no rfl (r_no rfl ?_)
 refine zz ?_
 refine s_mv ?_
 refine r_no rfl (r_no rfl ?_)
 refine zz ?_
 refine s_mv ?_
 refine r_no rfl (r_no rfl ?_)
 refine zz ?_
 refine s_mv ?_
 refine r_no rfl (r_no rfl ?_)
 refine zz ?_
 refine zf (zd (zM rfl (zb (za ?_))))
 refine s_as ?_
 refine zf (zd (zh (zg (zn ?_))))
 cases F3
 exact zl [] [] Tryz.results115
 refine s_mv ?_
 refine s_eq ?_
 refine zB ?_
 refine s_mv ?_
 refine zo _ 19 F3 ?_ ?_<;>intro C4 F4
 refine r_no rfl (r_no rfl ?_)
 refine zz ?_
 refine s_mv ?_
 refine r_no rfl (r_no rfl ?_)
 refine zz ?_
 refine s_mv ?_
 refine r_no rfl (r_no rfl ?_)
 refine zz ?_
 refine zf (zd (zM rfl (zb (za ?_))))
 refine s_as ?_
 refine zf (zd (zh (zg (zn ?_))))
 cases F4
 exact zl [] [] Tryz.results115
 refine s_mv ?_
 refine s_eq ?_
 refine zB ?_
 refine s_mv ?_
 refine zo _ 23 F4 ?_ ?_<;>intro C5 F5
 refine r_no rfl (r_no rfl ?_)
 refine zz ?_
 refine s_mv ?_
 refine r_no rfl (r_no rfl ?_)
 refine zz ?_
 refine zf (zd (zM rfl (zb (za ?_))))
 refine s_as ?_
 refine zf (zd (zh (zg (zn ?_))))
 cases F5
 exact zl [] [] Tryz.results115
 refine s_mv ?_
 refine s_eq ?_
 refine zB ?_
 refine s_mv ?_
 refine zo _ 27 F5 ?_ ?_<;>intro C6 F6
 refine r_no rfl (r_no rfl ?_)
 refine zz ?_
 refine zf (zd (zM rfl (zb (za ?_))))
 refine s_as ?_
 refine zf (zd (zh (zg (zn ?_))))
 cases F6
 exact zl [] [] Tryz.results115
 refine s_mv ?_
 refine s_eq ?_
 refine zB ?_
 refine zf (zd ?_)
 refine zm F6 ?_ ?_<;>intro C7 F7
 refine zb (za ?_)
 refine s_as ?_
 refine zf (zd (zh (zg (zn ?_))))
 cases F7
 exact zl [] [] Tryz.results115
 refine zi (zd (zb (za ?_)))
 refine s_mv ?_
 refine zbq ?_
 refine s_mv ?_
 refine zo _ 33 F7 ?_ ?_<;>intro C8 F8
 refine s_mv ?_
 refine s_ge ?_
 refine s_mv ?_
 refine zo _ 36 F8 ?_ ?_<;>intro C9 F9
 refine s_mv ?_
 refine s_le ?_
 refine zz ?_
 refine s_mv ?_
 refine zo _ 40 F9 ?_ ?_<;>intro C10 F10
 refine r_no rfl (r_no rfl ?_)
 refine zz ?_
 refine zz ?_
 refine s_as ?_
 refine zf (zd (zh (zn ?_)))
 cases F10
 exact zl [] [] Tryz.results115
 refine s_mv ?_
 refine s_eq ?_
 refine zB ?_
 refine zz ?_
 refine s_as ?_
 refine zf (zd (zh (zn ?_)))
 cases F10
 exact zl [] [] Tryz.results115
 refine r_no rfl (r_no rfl ?_)
 refine zB ?_
 refine s_mv ?_
 refine s_mv ?_
 refine s_eq ?_
 refine zB ?_
 refine zz ?_
 refine s_as ?_
 refine zf (zd (zh (zn ?_)))
 cases F9
 exact zl [] [] Tryz.results115
 iterate 10 refine r_no rfl ?_
 refine zB ?_
 refine s_as ?_
 refine zf (zd (zh (zn ?_)))
 cases F8
 exact zl [] [] Tryz.results115
 refine r_no rfl (r_no rfl ?_)
 refine zB ?_
 refine s_mv ?_
 refine s_mv ?_
 refine s_eq ?_
 refine zB ?_
 refine s_mv ?_
 refine zo _ 15 F1 ?_ ?_<;>intro C11 F2
 refine r_no rfl (r_no rfl ?_)
 refine zz ?_
 refine s_mv ?_
 refine r_no rfl (r_no rfl ?_)
 refine zz ?_
 refine s_mv ?_
 refine r_no rfl (r_no rfl ?_)
 refine zz ?_
 refine s_mv ?_
 refine r_no rfl (r_no rfl ?_)
 refine zz ?_
 refine zf (zd (zM rfl (zb (za ?_))))
 refine s_as ?_
 refine zf (zd (zh (zg (zn ?_))))
 cases F2
 exact zl [] [] Tryz.results115
 refine s_mv ?_
 refine s_eq ?_
 refine zB ?_
 refine s_mv ?_
 refine zo _ 19 F2 ?_ ?_<;>intro C12 F3
 refine r_no rfl (r_no rfl ?_)
 refine zz ?_
 refine s_mv ?_
 refine r_no rfl (r_no rfl ?_)
 refine zz ?_
 refine s_mv ?_
 refine r_no rfl (r_no rfl ?_)
 refine zz ?_
 refine zf (zd (zM rfl (zb (za ?_))))
 refine s_as ?_
 refine zf (zd (zh (zg (zn ?_))))
 cases F3
 exact zl [] [] Tryz.results115
 refine s_mv ?_
 refine s_eq ?_
 refine zB ?_
 refine s_mv ?_
 refine zo _ 23 F3 ?_ ?_<;>intro C13 F4
 refine r_no rfl (r_no rfl ?_)
 refine zz ?_
 refine s_mv ?_
 refine r_no rfl (r_no rfl ?_)
 refine zz ?_
 refine zf (zd (zM rfl (zb (za ?_))))
 refine s_as ?_
 refine zf (zd (zh (zg (zn ?_))))
 cases F4
 exact zl [] [] Tryz.results115
 refine s_mv ?_
 refine s_eq ?_
 refine zB ?_
 refine s_mv ?_
 refine zo _ 27 F4 ?_ ?_<;>intro C14 F5
 refine r_no rfl (r_no rfl ?_)
 refine zz ?_
 refine zf (zd (zM rfl (zb (za ?_))))
 refine s_as ?_
 refine zf (zd (zh (zg (zn ?_))))
 cases F5
 exact zl [] [] Tryz.results115
 refine s_mv ?_
 refine s_eq ?_
 refine zB ?_
 refine zf (zd ?_)
 refine zm F5 ?_ ?_<;>intro C15 F6
 refine zb (za ?_)
 refine s_as ?_
 refine zf (zd (zh (zg (zn ?_))))
 cases F6
 exact zl [] [] Tryz.results115
 refine zi (zd (zb (za ?_)))
 refine s_mv ?_
 refine zbq ?_
 refine s_mv ?_
 refine zo _ 33 F6 ?_ ?_<;>intro C16 F7
 refine s_mv ?_
 refine s_ge ?_
 refine s_mv ?_
 refine zo _ 36 F7 ?_ ?_<;>intro C17 F8
 refine s_mv ?_
 refine s_le ?_
 refine zz ?_
 refine s_mv ?_
 refine zo _ 40 F8 ?_ ?_<;>intro C18 F9
 refine r_no rfl (r_no rfl ?_)
 refine zz ?_
 refine zz ?_
 refine s_as ?_
 refine zf (zd (zh (zn ?_)))
 cases F9
 exact zl [] [] Tryz.results115
 refine s_mv ?_
 refine s_eq ?_
 refine zB ?_
 refine zz ?_
 refine s_as ?_
 refine zf (zd (zh (zn ?_)))
 cases F9
 exact zl [] [] Tryz.results115
 refine r_no rfl (r_no rfl ?_)
 refine zB ?_
 refine s_mv ?_
 refine s_mv ?_
 refine s_eq ?_
 refine zB ?_
 refine zz ?_
 refine s_as ?_
 refine zf (zd (zh (zn ?_)))
 cases F8
 exact zl [] [] Tryz.results115
 iterate 10 refine r_no rfl ?_
 refine zB ?_
 refine s_as ?_
 refine zf (zd (zh (zn ?_)))
 cases F7
 exact zl [] [] Tryz.results115
def m_spec_NameValid_AC (fuel:Nat):Prop:=∀ (x1:ByteArray) (r:Bool),zdE fuel x1=some r→AC Tryz.prog 63 [.t (.sc (.str x1))] noOb (.t (.sc (.bool r))) noOb
theorem zg1 (fuel:Nat):m_spec_NameValid_AC fuel:=by
 intro x1 r F0
 unfold zdE at F0
 refine AC_i [.t (.sc (.bool r))] Tryz.func63 rfl Tryz.ntmps63 ?_
 intro C hC
 refine zb (za ?_)
 refine s_as ?_
 refine zf (zd (zb (zb (za ?_))))
 refine s_mv ?_
 refine zht ?_
 refine s_mv ?_
 refine zo _ 6 F0 ?_ ?_<;>intro C1 F1
 refine r_no rfl (r_no rfl ?_)
 refine zz ?_
 refine zf (zd (zM rfl (zb (za ?_))))
 refine s_as ?_
 refine zf (zd (zh (zg (zn ?_))))
 cases F1
 exact zl [] [] Tryz.results63
 refine s_mv ?_
 refine zht ?_
 refine zB ?_
 refine zf (zd ?_)
 refine zm F1 ?_ ?_<;>intro C2 F2
 refine zb (za ?_)
 refine s_as ?_
 refine zf (zd (zh (zg (zn ?_))))
 cases F2
 exact zl [] [] Tryz.results63
 refine zi (zd (zb (zb (za ?_))))
 refine s_as ?_
 refine zf (zd (zk ?_))
 refine zbk (β:=Int) [2,3,10,11,12,13,14,15,16,17,18,19,20,21,22,23,24,25,26] [] [] (fun a=>[(3,.t (.sc (.int .i64 a.2)))]) (fun a=>[]) (fun a=>a.1≤fuel∧zbu a.1 x1 a.2=some r) (fuel,0) ⟨Nat.le_refl _,F2⟩ ?_
 clear F2
 rintro ⟨fu,g3⟩ ⟨hl4,F3⟩
 dsimp only at hl4 F3 ⊢
 obtain _ | fu:=fu
 · rw [zbu] at F3;cases F3
 rw [zbu] at F3
 refine zb (zb (za ?_))
 refine s_mv ?_
 refine s_mv ?_
 refine zeS yU9 ?_
 refine s_lt ?_
 refine s_mv ?_
 refine zo _ 14 F3 ?_ ?_<;>intro C5 F4
 refine s_mv ?_
 refine s_le ?_
 refine zz ?_
 refine zf (zd ?_)
 refine zm F4 ?_ ?_<;>intro C6 F5
 refine zi (zd (zb (zk (zb (za ?_)))))
 refine s_mv ?_
 refine s_mv ?_
 obtain ⟨v7,V7,F6⟩:=zc F5
 refine s_ixS V7 yU9 ?_
 refine s_mv ?_
 refine s_eq ?_
 obtain ⟨v8,V8,F7⟩:=zc F6
 refine zx [] (m_spec_l1Letter_ok fu _ _ _ V8) ?_
 refine zbq ?_
 refine zf (zd ?_)
 refine zm F7 ?_ ?_<;>intro C9 F8
 refine zb (za ?_)
 refine s_as ?_
 refine zf (zd (zh (zj (zg (zy (zj (zg (zn ?_))))))))
 cases F8
 exact zl [] [] Tryz.results63
 refine zi (zaa (zd (za ?_)))
 refine s_mv ?_
 refine zO rfl ?_
 refine s_as ?_
 refine zf ?_
 exact s_rn (fu,(w64 (g3+1))) ⟨by first | omega | (dsimp only;omega),F8⟩
 refine zA (zq (zp (zr (zd (zb (za ?_))))))
 refine s_mv ?_
 refine zeS yU9 ?_
 refine s_ge ?_
 refine s_mv ?_
 refine zo _ 30 F5 ?_ ?_<;>intro C10 F6
 refine s_mv ?_
 refine zeS yU9 ?_
 refine s_le ?_
 refine zz ?_
 refine s_as ?_
 refine zf (zd (zh (zn ?_)))
 cases F6
 exact zl [] [] Tryz.results63
 iterate 3 refine r_no rfl ?_
 refine zB ?_
 refine s_as ?_
 refine zf (zd (zh (zn ?_)))
 cases F6
 exact zl [] [] Tryz.results63
 refine r_no rfl (r_no rfl ?_)
 refine zB ?_
 refine zf (zd (zaS rfl (zA (zq (zp (zr (zd (zb (za ?_)))))))))
 refine s_mv ?_
 refine zeS yU9 ?_
 refine s_ge ?_
 refine s_mv ?_
 refine zo _ 30 F4 ?_ ?_<;>intro C11 F5
 refine s_mv ?_
 refine zeS yU9 ?_
 refine s_le ?_
 refine zz ?_
 refine s_as ?_
 refine zf (zd (zh (zn ?_)))
 cases F5
 exact zl [] [] Tryz.results63
 iterate 3 refine r_no rfl ?_
 refine zB ?_
 refine s_as ?_
 refine zf (zd (zh (zn ?_)))
 cases F5
 exact zl [] [] Tryz.results63
def m_spec_l1Scopes_AC (fuel:Nat):Prop:=∀ (x1:(List Int)) (r:Bool),zdW fuel x1=some r→AC Tryz.prog 64 [.t (.sl (x1.map rI))] noOb (.t (.sc (.bool r))) noOb
theorem zhf (fuel:Nat):m_spec_l1Scopes_AC fuel:=by
 intro x1 r F0
 unfold zdW at F0
 refine AC_i [.t (.sc (.bool r))] Tryz.func64 rfl Tryz.ntmps64 ?_
 intro C hC
 refine zb (za ?_)
 refine s_as ?_
 refine zf (zd (zb (zb (za ?_))))
 refine s_as ?_
 refine zf (zd (zk ?_))
 refine zbk (β:=Int) [2,3,4,5,6,7,8,9,10,11,12,13,14,15,16,17,18,19,20,21,22,23,24,25,26,27,28,29,30,31,32,33,34,35,36,37,38,39,40,41] [] [] (fun a=>[(3,.t (.sc (.int .i64 a.2)))]) (fun a=>[]) (fun a=>a.1≤fuel∧zbm a.1 x1 a.2=some r) (fuel,0) ⟨Nat.le_refl _,F0⟩ ?_
 clear F0
 rintro ⟨fu,g1⟩ ⟨hl2,F1⟩
 dsimp only at hl2 F1 ⊢
 obtain _ | fu:=fu
 · rw [zbm] at F1;cases F1
 rw [zbm] at F1
 refine zb (zb (za ?_))
 refine s_mv ?_
 refine s_mv ?_
 refine zF yU24 ?_
 refine s_lt ?_
 refine s_mv ?_
 refine zo _ 8 F1 ?_ ?_<;>intro C3 F2
 refine s_mv ?_
 refine s_le ?_
 refine zz ?_
 refine zf (zd ?_)
 refine zm F2 ?_ ?_<;>intro C4 F3
 refine zi (zd (zb (zk (zb ?_))))
 refine z7 yMix (by kernel_rfl) ?_
 refine s_mv ?_
 refine s_mv ?_
 obtain ⟨v5,V5,F4⟩:=zc F3
 refine zN rI V5 rfl yE24 ?_
 refine zu yA3 ?_
 refine s_lt ?_
 refine s_mv ?_
 refine zo _ 19 F4 ?_ ?_<;>intro C6 F5
 iterate 5 refine r_no rfl ?_
 refine zz ?_
 refine s_mv ?_
 iterate 14 refine r_no rfl ?_
 refine zz ?_
 refine zar (by kernel_rfl) ?_
 refine zd (zM rfl (zb (za ?_)))
 refine s_as ?_
 refine zf (zd (zh (zj (zg (zy (zj (zg (zn ?_))))))))
 cases F5
 exact zl [] [] Tryz.results64
 refine s_mv ?_
 refine s_mv ?_
 obtain ⟨v7,V7,F6⟩:=zc F5
 refine zN rI V7 rfl yE24 ?_
 refine zu yA3 ?_
 refine s_gt ?_
 refine zB ?_
 refine s_mv ?_
 refine zo _ 26 F6 ?_ ?_<;>intro C8 F7
 iterate 14 refine r_no rfl ?_
 refine zz ?_
 refine zar (by kernel_rfl) ?_
 refine zd (zM rfl (zb (za ?_)))
 refine s_as ?_
 refine zf (zd (zh (zj (zg (zy (zj (zg (zn ?_))))))))
 cases F7
 exact zl [] [] Tryz.results64
 refine s_mv ?_
 refine s_gt ?_
 refine s_mv ?_
 refine zo _ 29 F7 ?_ ?_<;>intro C9 F8
 refine s_mv ?_
 refine s_mv ?_
 obtain ⟨v10,V10,F9⟩:=zc F8
 refine zN rI V10 rfl yE24 ?_
 refine zu yA3 ?_
 refine s_mv ?_
 refine s_mv ?_
 refine zhq rfl ?_
 obtain ⟨v11,V11,F10⟩:=zc F9
 refine zN rI V11 rfl yE24 ?_
 refine zu yA3 ?_
 refine s_le ?_
 refine zz ?_
 refine zB ?_
 refine zar (by kernel_rfl) ?_
 refine zd ?_
 refine zm F10 ?_ ?_<;>intro C12 F11
 refine zb (za ?_)
 refine s_as ?_
 refine zf (zd (zh (zj (zg (zy (zj (zg (zn ?_))))))))
 cases F11
 exact zl [] [] Tryz.results64
 refine zi (zaa (zd (za ?_)))
 refine s_mv ?_
 refine zO rfl ?_
 refine s_as ?_
 refine zf ?_
 exact s_rn (fu,(w64 (g1+1))) ⟨by first | omega | (dsimp only;omega),F11⟩
 iterate 10 refine r_no rfl ?_
 refine zB ?_
 refine zB ?_
 refine zar (by kernel_rfl) ?_
 refine zd (zaS rfl (zi (zaa (zd (za ?_)))))
 refine s_mv ?_
 refine zO rfl ?_
 refine s_as ?_
 refine zf ?_
 exact s_rn (fu,(w64 (g1+1))) ⟨by first | omega | (dsimp only;omega),F8⟩
 refine zA (zq (zp (zr (zd (zb (za ?_))))))
 refine s_mv ?_
 refine zF yU24 ?_
 refine s_le ?_
 refine s_as ?_
 refine zf (zd (zh (zn ?_)))
 cases F3
 exact zl [] [] Tryz.results64
 refine r_no rfl (r_no rfl ?_)
 refine zB ?_
 refine zf (zd (zaS rfl (zA (zq (zp (zr (zd (zb (za ?_)))))))))
 refine s_mv ?_
 refine zF yU24 ?_
 refine s_le ?_
 refine s_as ?_
 refine zf (zd (zh (zn ?_)))
 cases F2
 exact zl [] [] Tryz.results64
def zgt (fuel:Nat):Prop:=∀ (x1:Form) (x2:Int) (r:Bool),zeX fuel x1 x2=some r→AC Tryz.prog 71 [.ag [.t (.sc (.int .i64 x1.kind)),.t (.sc (.str x1.name)),.t (.sc (.int .i64 x1.n)),.t (.sl (x1.scopes.map rI)),.t (.sl (x1.kids.map Form.row))],.t (.sc (.int .i64 x2))] noOb (.t (.sc (.bool r))) noOb
theorem m_spec_l1Is_st (fu:Nat) (ih_m_spec_l1Is:∀ k,k≤fu→zgt k):zgt (fu+1):=by
 intro x1 x2 r F0
 rw [zeX] at F0
 refine AC_i [.t (.sc (.bool r))] Tryz.func71 rfl Tryz.ntmps71 ?_
 intro C hC
 refine zb (za ?_)
 refine za9 ?_
 refine s_as ?_
 refine zf (zd (zb (zb (za ?_))))
 refine s_mv ?_
 refine s_eq ?_
 refine zf (zd ?_)
 refine zm F0 ?_ ?_<;>intro C1 F1
 refine zb (za ?_)
 refine s_as ?_
 refine zf (zd (zh (zg (zn ?_))))
 cases F1
 exact zl [] [] Tryz.results71
 refine zi (zd (zb (zb (za ?_))))
 refine s_fa zcT ?_
 refine zu yA3 ?_
 refine zf (zd (zk (zb (za ?_))))
 refine s_eq ?_
 refine s_as ?_
 refine zf (zd ?_)
 refine zm F1 ?_ ?_<;>intro C2 F2
 refine zb (za ?_)
 refine s_fa zdp ?_
 refine zu yA9 ?_
 obtain ⟨v3,V3,F3⟩:=zc F2
 refine zx [] (zg1 fu _ _ V3) ?_
 refine s_mv ?_
 refine zo _ 15 F3 ?_ ?_<;>intro C4 F4
 refine s_fa zgd ?_
 refine zu yA3 ?_
 refine s_eq ?_
 refine zz ?_
 refine s_mv ?_
 refine zo _ 20 F4 ?_ ?_<;>intro C5 F5
 refine s_fa zeR ?_
 refine zu yA24 ?_
 obtain ⟨v6,V6,F6⟩:=zc F5
 refine zx [] (zhf fu _ _ V6) ?_
 refine zz ?_
 refine s_mv ?_
 refine zo _ 25 F6 ?_ ?_<;>intro C7 F7
 refine s_fa zH ?_
 refine zu yA25 ?_
 refine zF yU25 ?_
 refine s_eq ?_
 refine zz ?_
 refine s_as ?_
 refine zf (zd (zh (zj (zg (zn ?_)))))
 cases F7
 exact zl [] [] Tryz.results71
 iterate 4 refine r_no rfl ?_
 refine zB ?_
 refine s_as ?_
 refine zf (zd (zh (zj (zg (zn ?_)))))
 cases F7
 exact zl [] [] Tryz.results71
 iterate 3 refine r_no rfl ?_
 refine zB ?_
 refine s_mv ?_
 iterate 4 refine r_no rfl ?_
 refine zB ?_
 refine s_as ?_
 refine zf (zd (zh (zj (zg (zn ?_)))))
 cases F5
 exact zl [] [] Tryz.results71
 iterate 3 refine r_no rfl ?_
 refine zB ?_
 refine s_mv ?_
 iterate 3 refine r_no rfl ?_
 refine zB ?_
 refine s_mv ?_
 iterate 4 refine r_no rfl ?_
 refine zB ?_
 refine s_as ?_
 refine zf (zd (zh (zj (zg (zn ?_)))))
 cases F4
 exact zl [] [] Tryz.results71
 refine zb (za ?_)
 refine s_eq ?_
 refine s_as ?_
 refine zf (zd ?_)
 refine zm F2 ?_ ?_<;>intro C8 F3
 refine zb (za ?_)
 refine s_fa zdp ?_
 refine zu yA9 ?_
 refine zht ?_
 refine s_mv ?_
 refine zo _ 36 F3 ?_ ?_<;>intro C9 F4
 refine s_fa zgd ?_
 refine zu yA3 ?_
 refine s_ge ?_
 refine zz ?_
 refine s_mv ?_
 refine zo _ 41 F4 ?_ ?_<;>intro C10 F5
 refine s_fa zgd ?_
 refine zu yA3 ?_
 refine s_le ?_
 refine zz ?_
 refine s_mv ?_
 refine zo _ 46 F5 ?_ ?_<;>intro C11 F6
 refine s_fa zeR ?_
 refine zu yA24 ?_
 refine zF yU24 ?_
 refine s_eq ?_
 refine zz ?_
 refine s_mv ?_
 refine zo _ 52 F6 ?_ ?_<;>intro C12 F7
 refine s_fa zH ?_
 refine zu yA25 ?_
 refine zF yU25 ?_
 refine s_eq ?_
 refine zz ?_
 refine s_as ?_
 refine zf (zd (zh (zj (zg (zn ?_)))))
 cases F7
 exact zl [] [] Tryz.results71
 iterate 4 refine r_no rfl ?_
 refine zB ?_
 refine s_as ?_
 refine zf (zd (zh (zj (zg (zn ?_)))))
 cases F7
 exact zl [] [] Tryz.results71
 iterate 4 refine r_no rfl ?_
 refine zB ?_
 refine s_mv ?_
 iterate 4 refine r_no rfl ?_
 refine zB ?_
 refine s_as ?_
 refine zf (zd (zh (zj (zg (zn ?_)))))
 cases F6
 exact zl [] [] Tryz.results71
 iterate 3 refine r_no rfl ?_
 refine zB ?_
 refine s_mv ?_
 iterate 4 refine r_no rfl ?_
 refine zB ?_
 refine s_mv ?_
 iterate 4 refine r_no rfl ?_
 refine zB ?_
 refine s_as ?_
 refine zf (zd (zh (zj (zg (zn ?_)))))
 cases F5
 exact zl [] [] Tryz.results71
 iterate 3 refine r_no rfl ?_
 refine zB ?_
 refine s_mv ?_
 iterate 3 refine r_no rfl ?_
 refine zB ?_
 refine s_mv ?_
 iterate 4 refine r_no rfl ?_
 refine zB ?_
 refine s_mv ?_
 iterate 4 refine r_no rfl ?_
 refine zB ?_
 refine s_as ?_
 refine zf (zd (zh (zj (zg (zn ?_)))))
 cases F4
 exact zl [] [] Tryz.results71
 refine zi (zaa (zd (zb (zb (za ?_)))))
 refine s_fa zcT ?_
 refine zu yA3 ?_
 refine s_ne ?_
 refine s_mv ?_
 refine zo _ 61 F3 ?_ ?_<;>intro C13 F4
 iterate 3 refine r_no rfl ?_
 refine zz ?_
 refine s_mv ?_
 iterate 3 refine r_no rfl ?_
 refine zz ?_
 refine s_mv ?_
 iterate 4 refine r_no rfl ?_
 refine zz ?_
 refine zf (zd (zM rfl (zb (za ?_))))
 refine s_as ?_
 refine zf (zd (zh (zg (zn ?_))))
 cases F4
 exact zl [] [] Tryz.results71
 refine s_fa zdp ?_
 refine zu yA9 ?_
 refine s_neS ?_
 refine zB ?_
 refine s_mv ?_
 refine zo _ 66 F4 ?_ ?_<;>intro C14 F5
 iterate 3 refine r_no rfl ?_
 refine zz ?_
 refine s_mv ?_
 iterate 4 refine r_no rfl ?_
 refine zz ?_
 refine zf (zd (zM rfl (zb (za ?_))))
 refine s_as ?_
 refine zf (zd (zh (zg (zn ?_))))
 cases F5
 exact zl [] [] Tryz.results71
 refine s_fa zgd ?_
 refine zu yA3 ?_
 refine s_ne ?_
 refine zB ?_
 refine s_mv ?_
 refine zo _ 71 F5 ?_ ?_<;>intro C15 F6
 iterate 4 refine r_no rfl ?_
 refine zz ?_
 refine zf (zd (zM rfl (zb (za ?_))))
 refine s_as ?_
 refine zf (zd (zh (zg (zn ?_))))
 cases F6
 exact zl [] [] Tryz.results71
 refine s_fa zeR ?_
 refine zu yA24 ?_
 refine zF yU24 ?_
 refine s_ne ?_
 refine zB ?_
 refine zf (zd ?_)
 refine zm F6 ?_ ?_<;>intro C16 F7
 refine zb (za ?_)
 refine s_as ?_
 refine zf (zd (zh (zg (zn ?_))))
 cases F7
 exact zl [] [] Tryz.results71
 refine zi (zd (zb (zb (za ?_))))
 refine s_as ?_
 refine zf (zd (zk ?_))
 refine zbk (β:=Int) [4,5,77,78,79,80,81,82,83,84,85,86,87,88,89,90,91,92] [] [] (fun a=>[(5,.t (.sc (.int .i64 a.2)))]) (fun a=>[]) (fun a=>a.1≤fu∧zdO a.1 x1 x2 a.2=some r∧0≤a.2) (fu,0) ⟨Nat.le_refl _,F7,by simp⟩ ?_
 clear F7
 rintro ⟨fu,g17⟩ ⟨hl18,F8,hn_g17⟩
 dsimp only at hl18 F8 hn_g17 ⊢
 obtain _ | fu:=fu
 · rw [zdO] at F8;cases F8
 rw [zdO] at F8
 refine zb (zb (za ?_))
 refine s_mv ?_
 refine s_fa zH ?_
 refine zu yA25 ?_
 refine zF yU25 ?_
 refine s_lt ?_
 refine zf (zd ?_)
 refine zm F8 ?_ ?_<;>intro C19 F9
 refine zW 79 (fun B20=>?_)
 refine zi (zd (zb (zk (zb (za ?_)))))
 refine s_fa zH ?_
 refine zu yA25 ?_
 refine s_mv ?_
 obtain ⟨v21,V21,F10⟩:=zc F9
 refine zN Form.row V21 (Form.row_eq _) yE25 ?_
 refine zas yA27 yS27 ?_
 refine s_mv ?_
 refine zhq rfl ?_
 obtain ⟨v22,V22,F11⟩:=zc F10
 refine zx [] (ih_m_spec_l1Is fu (by omega) _ _ _ V22) ?_
 refine zbq ?_
 refine zf (zd ?_)
 refine zm F11 ?_ ?_<;>intro C23 F12
 refine zb (za ?_)
 refine s_as ?_
 refine zf (zd (zh (zj (zg (zy (zj (zg (zn ?_))))))))
 cases F12
 exact zl [] [] Tryz.results71
 refine zi (zaa (zd (za ?_)))
 refine s_mv ?_
 refine zO (zaJ C19 B20 hn_g17) ?_
 refine s_as ?_
 refine zf ?_
 exact s_rn (fu,(g17+1)) ⟨by first | omega | (dsimp only;omega),F12,by first | omega | (dsimp only;omega)⟩
 refine zA (zq (zp (zr (zd (zb (za ?_))))))
 refine s_as ?_
 refine zf (zd (zh (zn ?_)))
 cases F9
 exact zl [] [] Tryz.results71
theorem m_spec_l1Is_all (fuel:Nat):zgt fuel:=by
 induction fuel using Nat.strongRecOn with
 | _ N ih =>
   cases N with
   | zero=>exact (by intro x1 x2 r h;rw [zeX] at h;cases h)
   | succ fu=>exact m_spec_l1Is_st fu (fun k hk=>(ih k (by omega)))
theorem m_spec_l1Is_ok (fuel:Nat):zgt fuel:=(m_spec_l1Is_all fuel)
def zfe (fuel:Nat):Prop:=∀ (x1:Form) (r:Int),zdh fuel x1=some r→AC Tryz.prog 72 [.ag [.t (.sc (.int .i64 x1.kind)),.t (.sc (.str x1.name)),.t (.sc (.int .i64 x1.n)),.t (.sl (x1.scopes.map rI)),.t (.sl (x1.kids.map Form.row))]] noOb (.t (.sc (.int .i64 r))) noOb
theorem m_spec_l1Count_st (fu:Nat) (ih_m_spec_l1Count:∀ k,k≤fu→zfe k):zfe (fu+1):=by
 intro x1 r F0
 rw [zdh] at F0
 refine AC_i [.t (.sc (.int .i64 r))] Tryz.func72 rfl Tryz.ntmps72 ?_
 intro C hC
 refine zb (za ?_)
 refine za9 ?_
 refine s_as ?_
 refine zf (zd (zb (za ?_)))
 refine s_as ?_
 refine zf (zd (zb (zb (za ?_))))
 refine s_as ?_
 refine zf (zd (zk ?_))
 refine zbk (β:=Int × Int) [3,4,5,6,7,8,9,10,11,12,13,14,15,16,17,18,19] [] [] (fun a=>[(3,.t (.sc (.int .i64 a.2.1))),(4,.t (.sc (.int .i64 a.2.2)))]) (fun a=>[]) (fun a=>a.1≤fu∧zb3 a.1 x1 a.2.1 a.2.2=some r∧0≤a.2.2) (fu,1,0) ⟨Nat.le_refl _,F0,by simp⟩ ?_
 clear F0
 rintro ⟨fu,g1,g2⟩ ⟨hl3,F1,hn_g2⟩
 dsimp only at hl3 F1 hn_g2 ⊢
 obtain _ | fu:=fu
 · rw [zb3] at F1;cases F1
 rw [zb3] at F1
 refine zb (zb (za ?_))
 refine s_mv ?_
 refine s_fa zH ?_
 refine zu yA25 ?_
 refine zF yU25 ?_
 refine s_lt ?_
 refine zf (zd ?_)
 refine zm F1 ?_ ?_<;>intro C4 F2
 refine zW 7 (fun B5=>?_)
 refine zi (zd (zb (zk (za ?_))))
 refine s_mv ?_
 refine s_fa zH ?_
 refine zu yA25 ?_
 refine s_mv ?_
 obtain ⟨v6,V6,F3⟩:=zc F2
 refine zN Form.row V6 (Form.row_eq _) yE25 ?_
 refine zas yA27 yS27 ?_
 obtain ⟨v7,V7,F4⟩:=zc F3
 refine zx [] (ih_m_spec_l1Count fu (by omega) _ _ V7) ?_
 refine zO rfl ?_
 refine s_as ?_
 refine zf (zaa (zd (za ?_)))
 refine s_mv ?_
 refine zO (zaJ C4 B5 hn_g2) ?_
 refine s_as ?_
 refine zf ?_
 exact s_rn (fu,(w64 (g1+v7)),(g2+1)) ⟨by first | omega | (dsimp only;omega),F4,by first | omega | (dsimp only;omega)⟩
 refine zA (zq (zp (zr (zd (zb (za ?_))))))
 refine s_mv ?_
 refine s_as ?_
 refine zf (zd (zh (zn ?_)))
 cases F2
 exact zl [] [] Tryz.results72
theorem m_spec_l1Count_all (fuel:Nat):zfe fuel:=by
 induction fuel using Nat.strongRecOn with
 | _ N ih =>
   cases N with
   | zero=>exact (by intro x1 r h;rw [zdh] at h;cases h)
   | succ fu=>exact m_spec_l1Count_st fu (fun k hk=>(ih k (by omega)))
theorem zhz (fuel:Nat):zfe fuel:=(m_spec_l1Count_all fuel)
def m_spec_FormValid_AC (fuel:Nat):Prop:=∀ (x1:Form) (r:Bool),zaF fuel x1=some r→AC Tryz.prog 24 [.ag [.t (.sc (.int .i64 x1.kind)),.t (.sc (.str x1.name)),.t (.sc (.int .i64 x1.n)),.t (.sl (x1.scopes.map rI)),.t (.sl (x1.kids.map Form.row))]] noOb (.t (.sc (.bool r))) noOb
theorem zaQ (fuel:Nat):m_spec_FormValid_AC fuel:=by
 intro x1 r F0
 unfold zaF at F0
 refine AC_i [.t (.sc (.bool r))] Tryz.func24 rfl Tryz.ntmps24 ?_
 intro C hC
 refine zb (za ?_)
 refine za9 ?_
 refine s_as ?_
 refine zf (zd (zb (za ?_)))
 refine zJ yA27 yS27 ?_
 obtain ⟨v1,V1,F1⟩:=zc F0
 refine zx [] (m_spec_l1Is_ok fuel _ _ _ V1) ?_
 refine s_mv ?_
 refine zo _ 5 F1 ?_ ?_<;>intro C2 F2
 refine zJ yA27 yS27 ?_
 obtain ⟨v3,V3,F3⟩:=zc F2
 refine zx [] (zhz fuel _ _ V3) ?_
 refine s_le ?_
 refine zz ?_
 refine s_as ?_
 refine zf (zd (zh (zn ?_)))
 cases F3
 exact zl [] [] Tryz.results24
 iterate 3 refine r_no rfl ?_
 refine zB ?_
 refine s_as ?_
 refine zf (zd (zh (zn ?_)))
 cases F2
 exact zl [] [] Tryz.results24
def m_spec_ParseForm_AC (fuel:Nat):Prop:=∀ (x1:ByteArray) (r:(Form × Bool)),zgF fuel x1=some r→AC Tryz.prog 104 [.t (.sc (.str x1))] noOb (.tp [.ag [.t (.sc (.int .i64 r.1.kind)),.t (.sc (.str r.1.name)),.t (.sc (.int .i64 r.1.n)),.t (.sl (r.1.scopes.map rI)),.t (.sl (r.1.kids.map Form.row))],.t (.sc (.bool r.2))]) noOb
theorem m_spec_ParseForm_ok (fuel:Nat):m_spec_ParseForm_AC fuel:=by
 intro x1 r F0
 unfold zgF at F0
 refine AC_i [.ag [.t (.sc (.int .i64 r.1.kind)),.t (.sc (.str r.1.name)),.t (.sc (.int .i64 r.1.n)),.t (.sl (r.1.scopes.map rI)),.t (.sl (r.1.kids.map Form.row))],.t (.sc (.bool r.2))] Tryz.func104 rfl Tryz.ntmps104 ?_
 intro C hC
 refine zb (za ?_)
 refine zR yZ27 ?_
 refine s_as ?_
 refine zf (zd (zb (za ?_)))
 refine s_mv ?_
 obtain ⟨v1,V1,F1⟩:=zc F0
 refine zx [] (m_spec_l1Read_ok fuel _ _ _ _ V1) ?_
 refine s_mv ?_
 refine zbJ ?_
 refine zbJ ?_
 refine zR yZ27 ?_
 refine zac yS27 ?_
 refine s_as ?_
 refine zf (zd (zb (zb (za ?_))))
 refine s_mv ?_
 refine s_lt ?_
 refine s_mv ?_
 refine zo _ 13 F1 ?_ ?_<;>intro C2 F2
 iterate 6 refine r_no rfl ?_
 refine zz ?_
 refine s_mv ?_
 iterate 3 refine r_no rfl ?_
 refine zz ?_
 refine zf (zd (zM rfl (zb (za ?_))))
 refine zeJ yZ27 yL27 ?_
 refine zac yS27 ?_
 refine s_as ?_
 refine zf (zd (zh (zg (zn ?_))))
 cases F2
 exact zI [] [] (by rw [Tryz.results104];exact (zZ (by conv=>lhs;whnf) (by conv=>lhs;whnf) yA27 yS27 rfl (zah (by conv=>lhs;whnf) zP)))
 refine s_mv ?_
 refine s_mv ?_
 obtain ⟨v3,V3,F3⟩:=zc F2
 refine zx [] (zfA fuel _ _ _ V3) ?_
 refine s_mv ?_
 refine zeS yU9 ?_
 refine s_ne ?_
 refine zB ?_
 refine s_mv ?_
 refine zo _ 21 F3 ?_ ?_<;>intro C4 F4
 iterate 3 refine r_no rfl ?_
 refine zz ?_
 refine zf (zd (zM rfl (zb (za ?_))))
 refine zeJ yZ27 yL27 ?_
 refine zac yS27 ?_
 refine s_as ?_
 refine zf (zd (zh (zg (zn ?_))))
 cases F4
 exact zI [] [] (by rw [Tryz.results104];exact (zZ (by conv=>lhs;whnf) (by conv=>lhs;whnf) yA27 yS27 rfl (zah (by conv=>lhs;whnf) zP)))
 refine zJ yA27 yS27 ?_
 obtain ⟨v5,V5,F5⟩:=zc F4
 refine zx [] (zaQ fuel _ _ V5) ?_
 refine zbq ?_
 refine zB ?_
 refine zf (zd ?_)
 refine zm F5 ?_ ?_<;>intro C6 F6
 refine zb (za ?_)
 refine zeJ yZ27 yL27 ?_
 refine zac yS27 ?_
 refine s_as ?_
 refine zf (zd (zh (zg (zn ?_))))
 cases F6
 exact zI [] [] (by rw [Tryz.results104];exact (zZ (by conv=>lhs;whnf) (by conv=>lhs;whnf) yA27 yS27 rfl (zah (by conv=>lhs;whnf) zP)))
 refine zi (zd (zb (za ?_)))
 refine zJ yA27 yS27 ?_
 refine zac yS27 ?_
 refine s_as ?_
 refine zf (zd (zh (zn ?_)))
 cases F6
 exact zI [] [] (by rw [Tryz.results104];exact (zZ (by conv=>lhs;whnf) (by conv=>lhs;whnf) yA27 yS27 rfl (zah (by conv=>lhs;whnf) zP)))
def m_spec_l1Parse_AC (fuel:Nat):Prop:=∀ (x1:ByteArray) (r:Form),zdg fuel x1=some r→AC Tryz.prog 44 [.t (.sc (.str x1))] noOb (.ag [.t (.sc (.int .i64 r.kind)),.t (.sc (.str r.name)),.t (.sc (.int .i64 r.n)),.t (.sl (r.scopes.map rI)),.t (.sl (r.kids.map Form.row))]) noOb
theorem zdX (fuel:Nat):m_spec_l1Parse_AC fuel:=by
 intro x1 r F0
 unfold zdg at F0
 refine AC_i [.ag [.t (.sc (.int .i64 r.kind)),.t (.sc (.str r.name)),.t (.sc (.int .i64 r.n)),.t (.sl (r.scopes.map rI)),.t (.sl (r.kids.map Form.row))]] Tryz.func44 rfl Tryz.ntmps44 ?_
 intro C hC
 refine zb (za ?_)
 refine zR yZ27 ?_
 refine zf (zd (zb (za ?_)))
 refine s_mv ?_
 obtain ⟨v1,V1,F1⟩:=zc F0
 refine zx [] (m_spec_ParseForm_ok fuel _ _ V1) ?_
 refine s_mv ?_
 refine zbJ ?_
 refine zbJ ?_
 refine zR yZ27 ?_
 refine zac yS27 ?_
 refine s_as ?_
 refine zf (zd (zb (za ?_)))
 refine zJ yA27 yS27 ?_
 refine zac yS27 ?_
 refine zf (zd (zh (zn ?_)))
 cases F1
 exact zI [] [] (by rw [Tryz.results44];exact (zZ (by conv=>lhs;whnf) (by conv=>lhs;whnf) yA27 yS27 rfl zP))
def m_spec_l1Name_AC (fuel:Nat):Prop:=∀ (x1:ByteArray) (r:Form),zeb fuel x1=some r→AC Tryz.prog 45 [.t (.sc (.str x1))] noOb (.ag [.t (.sc (.int .i64 r.kind)),.t (.sc (.str r.name)),.t (.sc (.int .i64 r.n)),.t (.sl (r.scopes.map rI)),.t (.sl (r.kids.map Form.row))]) noOb
theorem m_spec_l1Name_ok (fuel:Nat):m_spec_l1Name_AC fuel:=by
 intro x1 r F0
 unfold zeb at F0
 refine AC_i [.ag [.t (.sc (.int .i64 r.kind)),.t (.sc (.str r.name)),.t (.sc (.int .i64 r.n)),.t (.sl (r.scopes.map rI)),.t (.sl (r.kids.map Form.row))]] Tryz.func45 rfl Tryz.ntmps45 ?_
 intro C hC
 refine zb (za ?_)
 refine zR yZ27 ?_
 refine zf (zd (zb (za ?_)))
 refine s_mv ?_
 refine zeJ yZ27 yL27 ?_
 refine zac yS27 ?_
 refine zf (zd (zh (zn ?_)))
 cases F0
 exact zI [] [] (by rw [Tryz.results45];exact (zZ (by conv=>lhs;whnf) (by conv=>lhs;whnf) yA27 yS27 rfl zP))
def zfD (fuel:Nat):Prop:=∀ (x1:Form) (r:Form),za4 fuel x1=some r→AC Tryz.prog 86 [.ag [.t (.sc (.int .i64 x1.kind)),.t (.sc (.str x1.name)),.t (.sc (.int .i64 x1.n)),.t (.sl (x1.scopes.map rI)),.t (.sl (x1.kids.map Form.row))]] (objs []) (.ag [.t (.sc (.int .i64 r.kind)),.t (.sc (.str r.name)),.t (.sc (.int .i64 r.n)),.ar 9203,.ar 9204]) (objs [(9203,.arr (r.scopes.map rI) 3 true),(9204,.arr (r.kids.map Form.row) 27 true)])
theorem m_spec_l1Copy_st (fu:Nat) (ih_m_spec_l1Copy:∀ k,k≤fu→zfD k):zfD (fu+1):=by
 intro x1 r F0
 rw [za4] at F0
 refine AC_i [.ag [.t (.sc (.int .i64 r.kind)),.t (.sc (.str r.name)),.t (.sc (.int .i64 r.n)),.ar 9203,.ar 9204]] Tryz.func86 rfl Tryz.ntmps86 ?_
 intro C hC
 refine zb (za ?_)
 refine za9 ?_
 refine zR yZ27 ?_
 refine zf (zd (zb ?_))
 refine z7 yMix (by kernel_rfl) ?_
 refine s_fa zcT ?_
 refine zu yA3 ?_
 refine s_fa zdp ?_
 refine zu yA9 ?_
 refine s_fa zgd ?_
 refine zu yA3 ?_
 refine s_bs rI ([]:List Int) yP24 yR3 ?_
 refine s_fa zeR ?_
 refine zu yA24 ?_
 obtain ⟨hk1,F1⟩:=zab F0
 refine zd4 rI (fun _=>rfl) hk1 yP24 ?_
 refine zeJ yZ27 yL27 ?_
 refine zR yZ27 ?_
 refine zac yS27 ?_
 refine zar (by kernel_rfl) ?_
 refine zd (zb (zb (za ?_)))
 refine s_as ?_
 refine zf (zd (zk ?_))
 refine zgZ 3 5020 27 [.t (.sc (.int .i64 x1.kind)),.t (.sc (.str x1.name)),.t (.sc (.int .i64 x1.n)),.ar 14,.ar 5020] yI27.choose_spec ?_
 refine zap [4,16,17,18,19,20,21,22,23,24,25,26,27,28,29,30,31,32,33] [3,5020] [31,32,2030,12030] [5020] (fun a:Nat × Int × (List Form)=>a.1) (fun a:Nat × Int × (List Form)=>[(4,.t (.sc (.int .i64 a.2.1)))]) (fun a:Nat × Int × (List Form)=>[(3,.box [.t (.sc (.int .i64 x1.kind)),.t (.sc (.str x1.name)),.t (.sc (.int .i64 x1.n)),.ar 14,.ar 5020]),(5020,.arr (a.2.2.map Form.row) 27 true)]) (fun a:Nat × Int × (List Form)=>a.1≤fu∧zcv a.1 x1 a.2.1 a.2.2=some r∧0≤a.2.1) (fu,0,([]:List Form)) ⟨Nat.le_refl _,F1,by simp⟩ (by rfl) (by rfl) (fun _=>rfl) (zG (by conv=>lhs;whnf) (by rfl) za7) (zT (by conv=>lhs;whnf) (by rfl) (zT (by conv=>lhs;whnf) (by rfl) zaW)) (zb7 hC rfl) (by repeat (first | exact zai rfl | refine zat rfl ?_ | refine zX rfl ?_)) (by repeat (first | exact zaL | exact zam rfl | refine zau rfl ?_ | refine zY rfl ?_)) ?_
 clear F1
 rintro ⟨fu,g2,g3⟩ ⟨hl4,F2,hn_g2⟩
 dsimp only at hl4 F2 hn_g2 ⊢
 obtain _ | fu:=fu
 · rw [zcv] at F2;cases F2
 rw [zcv] at F2
 refine zb (zb (za ?_))
 refine s_mv ?_
 refine s_fa zH ?_
 refine zu yA25 ?_
 refine zF yU25 ?_
 refine s_lt ?_
 refine zf (zd ?_)
 refine zm F2 ?_ ?_<;>intro C5 F3
 refine zW 18 (fun B6=>?_)
 refine zi (zd (zb (zk ?_)))
 refine z7 yMix (by kernel_rfl) ?_
 refine s_fa zH ?_
 refine zu yA25 ?_
 refine s_fa zH ?_
 refine zu yA25 ?_
 refine s_mv ?_
 obtain ⟨v7,V7,F4⟩:=zc F3
 refine zN Form.row V7 (Form.row_eq _) yE25 ?_
 refine zas yA27 yS27 ?_
 obtain ⟨v8,V8,F5⟩:=zc F4
 refine zU [(9203,2030),(9204,12030)] [] _ _ (ih_m_spec_l1Copy fu (by omega) _ _ V8) ?_
 refine s_bs Form.row [v8] yP25 yR27 ?_
 obtain ⟨hk9,F6⟩:=zab F5
 refine zd4 Form.row (fun y=>Form.row_len y) hk9 yP25 ?_
 refine s_fa zH ?_
 refine zgO yS25 ?_
 refine zar (by kernel_rfl) ?_
 refine zaa (zd (za ?_))
 refine s_mv ?_
 refine zO (zaJ C5 B6 hn_g2) ?_
 refine s_as ?_
 refine zf ?_
 exact s_rn (fu,(g2+1),(g3++[v8])) ⟨by first | omega | (dsimp only;omega),F6,by first | omega | (dsimp only;omega)⟩ [(5020,32)]
 refine zA (zq (zp (zr (zd (zb (za ?_))))))
 refine zJ yA27 yS27 ?_
 refine zac yS27 ?_
 refine zf (zd ?_)
 refine awp_mvB 2 14 9203 [.t (.sc (.int .i64 x1.kind)),.t (.sc (.str x1.name)),.t (.sc (.int .i64 x1.n)),.ar 9203,.ar 5020] ?_
 refine awp_mvB 2 5020 9204 [.t (.sc (.int .i64 x1.kind)),.t (.sc (.str x1.name)),.t (.sc (.int .i64 x1.n)),.ar 9203,.ar 9204] ?_
 refine zh (zn ?_)
 cases F3
 exact zI _ [] (by rw [Tryz.results86];exact (zZ (by conv=>lhs;whnf) (by conv=>lhs;whnf) yA27 yS27 rfl zP))
theorem m_spec_l1Copy_all (fuel:Nat):zfD fuel:=by
 induction fuel using Nat.strongRecOn with
 | _ N ih =>
   cases N with
   | zero=>exact (by intro x1 r h;rw [za4] at h;cases h)
   | succ fu=>exact m_spec_l1Copy_st fu (fun k hk=>(ih k (by omega)))
theorem zbW (fuel:Nat):zfD fuel:=(m_spec_l1Copy_all fuel)
def m_spec_l15Rd_num_AC (fuel:Nat):Prop:=∀ (o1:zba) (x2:(List Int)) (r:(Int × zba)),zaq fuel o1 x2=some r→AC Tryz.prog 105 [.rf 9000 0,.t (.sl (x2.map rI))] (objs [(9000,.box [.t (.sl (o1.b.map rB)),.t (.sc (.int .i64 o1.p))])]) (.t (.sc (.int .i64 r.1))) (objs [(9000,.box [.t (.sl (r.2.b.map rB)),.t (.sc (.int .i64 r.2.p))])])
theorem zbt (fuel:Nat):m_spec_l15Rd_num_AC fuel:=by
 intro o1 x2 r F0
 unfold zaq at F0
 refine AC_i [.t (.sc (.int .i64 r.1))] Tryz.func105 rfl Tryz.ntmps105 ?_
 intro C hC
 refine zb (za ?_)
 refine s_as ?_
 refine zf (zd (zb (za ?_)))
 iterate 3 refine s_mv ?_
 refine zF yU24 ?_
 obtain ⟨v1,V1,F1⟩:=zc F0
 refine zU [(9000,9000)] [] _ _ (zV fuel _ _ _ V1) ?_
 obtain ⟨v2,V2,F2⟩:=zc F1
 refine zN rI V2 rfl yE24 ?_
 refine zu yA3 ?_
 refine s_as ?_
 refine zf (zd (zh (zn ?_)))
 cases F2
 exact zl _ [] Tryz.results105
end Go.Abs
