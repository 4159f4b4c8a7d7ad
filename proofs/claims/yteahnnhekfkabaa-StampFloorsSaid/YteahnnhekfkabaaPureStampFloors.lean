/- The whole part of a correction and what is left, for every correction. -/
import Derived.Test.YteahnnhekfkabaaPx1
import Derived.Test.YteahnnhekfkabaaLib
namespace Go.Proofs.Yteahnnhekfkabaa.Pure
open Go.RowKit Go.Proofs.Yteahnnhekfkabaa.P Go.Proofs.YteahnnhekfkabaaW.PrintWords Go.Proofs.YteahnnhekfkabaaW.PrintLast Go.Proofs.Yteahnnhekfkabaa.Lib

theorem awake_true : carillonlaw02_awake.f = some true := by decide +kernel

theorem StampFloors : carillonlaw02_StampFloors.Pure := by
  intro a h
  have h := wf64 h
  refine ⟨1, ?_⟩
  unfold carillonlaw02_StampFloors.f stamp_Floor.f
  simp only [Option.bind_some, carillonlaw02_StampFloors.j0, awake_true, if_true]
  have w1 : wrap64 (a / 65536 * 65536) = a / 65536 * 65536 := by unfold wrap64; omega
  have w2 : wrap64 (a - a / 65536 * 65536) = a - a / 65536 * 65536 := by unfold wrap64; omega
  rw [w1, w2]
  split
  · rfl
  · split
    · rfl
    · rw [if_pos (by omega), if_pos (by omega)]

end Go.Proofs.Yteahnnhekfkabaa.Pure
