/- An interval more is twice as long; ticks and nanoseconds tell the same time: for every number. -/
import Derived.Test.YteahnnhekfkabaaPx1
import Derived.Test.YteahnnhekfkabaaLib
namespace Go.Proofs.Yteahnnhekfkabaa.Pure
open Go.RowKit Go.Proofs.Yteahnnhekfkabaa.P Go.Proofs.YteahnnhekfkabaaW.PrintWords Go.Proofs.YteahnnhekfkabaaW.PrintLast Go.Proofs.Yteahnnhekfkabaa.Lib

theorem awake_true : carillonlaw02_awake.f = some true := by decide +kernel
theorem shifted_of (n : Int) (k : Int) (h0 : -3 ≤ k) (h1 : k ≤ 4) : stamp_shifted.f n k = if k = -3 then some (wrap64 (Int.tdiv (wrap64 (Int.tdiv (wrap64 (Int.tdiv n 2)) 2)) 2)) else if k = -2 then some (wrap64 (Int.tdiv (wrap64 (Int.tdiv n 2)) 2)) else if k = -1 then some (wrap64 (Int.tdiv n 2)) else if 0 ≤ k then some (wrap64 (n * 2 ^ k.toNat)) else none := by
  have hm : mx (-3) (mn k 4) = k := by unfold mx mn; omega
  unfold stamp_shifted.f
  rw [hm]
theorem clip (k : Int) : stamp_shifted.f 8 k = stamp_shifted.f 8 (mx (-3) (mn k 4)) ∧ stamp_shifted.f 1000000000 k = stamp_shifted.f 1000000000 (mx (-3) (mn k 4)) := by
  have hm : mx (-3) (mn (mx (-3) (mn k 4)) 4) = mx (-3) (mn k 4) := by unfold mx mn; omega
  unfold stamp_shifted.f
  rw [hm]
  exact ⟨rfl, rfl⟩
/-- All intervals there are. -/
theorem all8 (k : Int) (h0 : -3 ≤ k) (h1 : k ≤ 4) : stamp_Ticks.f k = some (2 ^ (k + 3).toNat) ∧ stamp_Nanos.f k = some (125000000 * 2 ^ (k + 3).toNat) := by
  have hk : k = -3 ∨ k = -2 ∨ k = -1 ∨ k = 0 ∨ k = 1 ∨ k = 2 ∨ k = 3 ∨ k = 4 := by omega
  rcases hk with rfl | rfl | rfl | rfl | rfl | rfl | rfl | rfl <;> decide +kernel
theorem ticks (k : Int) : stamp_Ticks.f k = some (2 ^ (mx (-3) (mn k 4) + 3).toNat) ∧ stamp_Nanos.f k = some (125000000 * 2 ^ (mx (-3) (mn k 4) + 3).toNat) := by
  have hb : -3 ≤ mx (-3) (mn k 4) ∧ mx (-3) (mn k 4) ≤ 4 := by unfold mx mn; omega
  have h := all8 _ hb.1 hb.2
  have hc := clip k
  unfold stamp_Ticks.f stamp_Nanos.f at *
  rw [hc.1, hc.2]
  exact h

theorem StampTwice : carillonlaw02_StampTwice.Pure := by
  intro a h
  have h := wf64 h
  unfold carillonlaw02_StampTwice.f carillonlaw00_Place.f
  rw [place a 7 (by omega) (by omega)]
  have hp0 := Int.emod_nonneg a (show (7 : Int) ≠ 0 by omega)
  have hp1 := Int.emod_lt_of_pos a (show (0 : Int) < 7 by omega)
  generalize a % 7 = p at hp0 hp1 ⊢
  have hk : p = 0 ∨ p = 1 ∨ p = 2 ∨ p = 3 ∨ p = 4 ∨ p = 5 ∨ p = 6 := by omega
  rcases hk with rfl | rfl | rfl | rfl | rfl | rfl | rfl <;> decide +kernel

end Go.Proofs.Yteahnnhekfkabaa.Pure
