/- A part of the proof: what the functions that the law calls answer, as pure values. -/
import Derived.LaidHandle
import Derived.LaidMore
import Derived.Lib.LaidTab
import Derived.MakeChecks
import Derived.OpenShut
import Derived.SevenTiedAt
import Derived.Test.YtehdhaaopmihaaaGreatDoorK2132e835c9ce
import Derived.Test.YtehdhaaopmihaaaGreatDoorK2fa2763a6b98
set_option linter.unusedSimpArgs false
set_option linter.unusedVariables false
section
set_option linter.unusedVariables false
namespace Go.Abs
theorem TabW.of_is {P : Program} {w : World} (h : Lib.TabIs P w "internal/strconv.uint64pow10" .u64 Lib.pow10Tab) : TabW P w := by
  intro p hp g hg
  rw [libTabs, List.mem_singleton] at hp
  subst hp
  unfold Lib.TabIs World.var? at h
  dsimp only at hg
  rw [hg, Option.bind_some] at h
  cases hw : w.heap[g]? with
  | none => simp [hw] at h
  | some o =>
    cases o <;> simp [hw] at h
    rename_i c e fr
    refine ⟨e, fr, ?_⟩
    rw [← h]
theorem laidMet.tail1 {P : Program} {x : String × DataW Unit} {r : List (String × DataW Unit)} {w : World} (h : laidMet P (x :: r) w) : laidMet P r w := by
  obtain ⟨ps, hv, hnd, hrows⟩ := h
  obtain ⟨n, d⟩ := x
  obtain ⟨g, t, cs, fuel, p, q, _, _, _, _, hq, rfl⟩ := hv
  exact ⟨q, hq, List.Nodup.sublist (List.sublist_append_right _ _) hnd, fun b off hm => hrows b off (List.mem_append_right _ hm)⟩
end Go.Abs
end
