/- Sums go either way round; nought turns nothing; they never go round: for every two numbers. -/
import Derived.Test.YteahnnhekfkabaaPx3
import Derived.Test.YteahnnhekfkabaaLib
namespace Go.Proofs.Yteahnnhekfkabaa.Pure
open Go.RowKit Go.Proofs.Yteahnnhekfkabaa.P Go.Proofs.YteahnnhekfkabaaW.PrintWords Go.Proofs.YteahnnhekfkabaaW.PrintLast Go.Proofs.Yteahnnhekfkabaa.Lib

theorem awake_true : carillonlaw02_awake.f = some true := by decide +kernel
theorem add_of (a b : Int) (ha : -9223372036854775808 ≤ a ∧ a ≤ 9223372036854775807) (hb : -9223372036854775808 ≤ b ∧ b ≤ 9223372036854775807) (k : Nat) :
    stamp_Add.f (k + 1) a b = some (if a + b > 9223372036854775807 then 9223372036854775807 else if a + b < -9223372036854775808 then -9223372036854775808 else a + b) := by
  unfold stamp_Add.f
  simp only [stamp_Add.j0]
  by_cases h0 : b > 0
  · have w1 : wrap64 (9223372036854775807 - b) = 9223372036854775807 - b := by unfold wrap64; omega
    rw [if_pos h0, w1]
    by_cases h1 : a > 9223372036854775807 - b
    · rw [if_pos (by simpa using h1), if_pos (by omega)]
    · rw [if_neg (by simpa using h1), if_neg (by omega), if_neg (by omega), if_neg (by omega)]
      have w2 : wrap64 (a + b) = a + b := by unfold wrap64; omega
      rw [w2]
  · rw [if_neg h0, if_neg (by simp)]
    by_cases h2 : b < 0
    · have w1 : wrap64 (-9223372036854775808 - b) = -9223372036854775808 - b := by unfold wrap64; omega
      rw [if_pos h2, w1]
      by_cases h1 : a < -9223372036854775808 - b
      · rw [if_pos h1, if_neg (by omega), if_pos (by omega)]
      · rw [if_neg h1, if_neg (by omega), if_neg (by omega)]
        have w2 : wrap64 (a + b) = a + b := by unfold wrap64; omega
        rw [w2]
    · rw [if_neg h2, if_neg (by omega), if_neg (by omega)]
      have w2 : wrap64 (a + b) = a + b := by unfold wrap64; omega
      rw [w2]

theorem StampSums : carillonlaw02_StampSums.Pure := by
  intro a b ha hb
  have ha := wf64 ha
  have hb := wf64 hb
  refine ⟨1, ?_⟩
  unfold carillonlaw02_StampSums.f
  rw [add_of a b ha hb 0, add_of b a hb ha 0, add_of a 0 ha (by omega) 0, awake_true]
  simp only [Option.bind_some]
  rw [Int.add_comm b a, Int.add_zero, if_pos rfl, if_neg (show ¬ a > 9223372036854775807 by omega), if_neg (show ¬ a < -9223372036854775808 by omega), if_pos rfl]
  generalize hs : (if a + b > 9223372036854775807 then (9223372036854775807 : Int) else if a + b < -9223372036854775808 then -9223372036854775808 else a + b) = s
  have h1 : 0 ≤ b → s ≥ a := by intro h; rw [← hs]; split <;> (try split) <;> omega
  have h2 : b ≤ 0 → s ≤ a := by intro h; rw [← hs]; split <;> (try split) <;> omega
  by_cases h0 : b < 0
  · rw [if_pos h0, if_neg (by omega), if_pos (h2 (by omega))]
  · rw [if_neg h0, if_pos (h1 (by omega))]
    by_cases h3 : b > 0
    · rw [if_pos h3]
    · rw [if_neg h3, if_pos (h2 (by omega))]

end Go.Proofs.Yteahnnhekfkabaa.Pure
