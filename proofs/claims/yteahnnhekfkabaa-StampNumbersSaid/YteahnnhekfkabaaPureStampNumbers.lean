/- The whole part of a correction, a sum, an interval's ticks and nanoseconds are the document's, for every two numbers. -/
import Derived.Test.YteahnnhekfkabaaPx3
import Derived.Test.YteahnnhekfkabaaLib
namespace Go.Proofs.Yteahnnhekfkabaa.Pure
open Go.RowKit Go.Proofs.Yteahnnhekfkabaa.P Go.Proofs.YteahnnhekfkabaaW.PrintWords Go.Proofs.YteahnnhekfkabaaW.PrintLast Go.Proofs.Yteahnnhekfkabaa.Lib

theorem awake_true : carillonlaw02_awake.f = some true := by decide +kernel
theorem shifted_of (n : Int) (k : Int) (h0 : -3 ≤ k) (h1 : k ≤ 4) : stamp_shifted.f n k = if k = -3 then some (wrap64 (Int.tdiv (wrap64 (Int.tdiv (wrap64 (Int.tdiv n 2)) 2)) 2)) else if k = -2 then some (wrap64 (Int.tdiv (wrap64 (Int.tdiv n 2)) 2)) else if k = -1 then some (wrap64 (Int.tdiv n 2)) else if 0 ≤ k then some (wrap64 (n * 2 ^ k.toNat)) else none := by
  have hm : mx (-3) (mn k 4) = k := by unfold mx mn; omega
  unfold stamp_shifted.f
  rw [hm]
theorem clip (k : Int) : stamp_shifted.f 8 k = stamp_shifted.f 8 (mx (-3) (mn k 4)) ∧ stamp_shifted.f 1000000000 k = stamp_shifted.f 1000000000 (mx (-3) (mn k 4)) := by
  have hm : mx (-3) (mn (mx (-3) (mn k 4)) 4) = mx (-3) (mn k 4) := by unfold mx mn; omega
  unfold stamp_shifted.f
  rw [hm]
  exact ⟨rfl, rfl⟩
/-- All intervals there are. -/
theorem all8 (k : Int) (h0 : -3 ≤ k) (h1 : k ≤ 4) : stamp_Ticks.f k = some (2 ^ (k + 3).toNat) ∧ stamp_Nanos.f k = some (125000000 * 2 ^ (k + 3).toNat) := by
  have hk : k = -3 ∨ k = -2 ∨ k = -1 ∨ k = 0 ∨ k = 1 ∨ k = 2 ∨ k = 3 ∨ k = 4 := by omega
  rcases hk with rfl | rfl | rfl | rfl | rfl | rfl | rfl | rfl <;> decide +kernel
theorem ticks (k : Int) : stamp_Ticks.f k = some (2 ^ (mx (-3) (mn k 4) + 3).toNat) ∧ stamp_Nanos.f k = some (125000000 * 2 ^ (mx (-3) (mn k 4) + 3).toNat) := by
  have hb : -3 ≤ mx (-3) (mn k 4) ∧ mx (-3) (mn k 4) ≤ 4 := by unfold mx mn; omega
  have h := all8 _ hb.1 hb.2
  have hc := clip k
  unfold stamp_Ticks.f stamp_Nanos.f at *
  rw [hc.1, hc.2]
  exact h
theorem add_of (a b : Int) (ha : -9223372036854775808 ≤ a ∧ a ≤ 9223372036854775807) (hb : -9223372036854775808 ≤ b ∧ b ≤ 9223372036854775807) (k : Nat) :
    stamp_Add.f (k + 1) a b = some (if a + b > 9223372036854775807 then 9223372036854775807 else if a + b < -9223372036854775808 then -9223372036854775808 else a + b) := by
  unfold stamp_Add.f
  simp only [stamp_Add.j0]
  by_cases h0 : b > 0
  · have w1 : wrap64 (9223372036854775807 - b) = 9223372036854775807 - b := by unfold wrap64; omega
    rw [if_pos h0, w1]
    by_cases h1 : a > 9223372036854775807 - b
    · rw [if_pos (by simpa using h1), if_pos (by omega)]
    · rw [if_neg (by simpa using h1), if_neg (by omega), if_neg (by omega), if_neg (by omega)]
      have w2 : wrap64 (a + b) = a + b := by unfold wrap64; omega
      rw [w2]
  · rw [if_neg h0, if_neg (by simp)]
    by_cases h2 : b < 0
    · have w1 : wrap64 (-9223372036854775808 - b) = -9223372036854775808 - b := by unfold wrap64; omega
      rw [if_pos h2, w1]
      by_cases h1 : a < -9223372036854775808 - b
      · rw [if_pos h1, if_neg (by omega), if_pos (by omega)]
      · rw [if_neg h1, if_neg (by omega), if_neg (by omega)]
        have w2 : wrap64 (a + b) = a + b := by unfold wrap64; omega
        rw [w2]
    · rw [if_neg h2, if_neg (by omega), if_neg (by omega)]
      have w2 : wrap64 (a + b) = a + b := by unfold wrap64; omega
      rw [w2]
theorem radd_of (a b : Int) (ha : -9223372036854775808 ≤ a ∧ a ≤ 9223372036854775807) (hb : -9223372036854775808 ≤ b ∧ b ≤ 9223372036854775807) (k : Nat) :
    carillonref02_Add.f (k + 1) a b = some (if a + b > 9223372036854775807 then 9223372036854775807 else if a + b < -9223372036854775808 then -9223372036854775808 else a + b) := by
  unfold carillonref02_Add.f
  simp only [carillonref02_Add.j0]
  by_cases h0 : a > 0
  · have w1 : wrap64 (9223372036854775807 - a) = 9223372036854775807 - a := by unfold wrap64; omega
    rw [if_pos h0, w1]
    by_cases h1 : b > 9223372036854775807 - a
    · rw [if_pos (by simpa using h1), if_pos (by omega)]
    · rw [if_neg (by simpa using h1), if_neg (by omega), if_neg (by omega), if_neg (by omega)]
      have w2 : wrap64 (a + b) = a + b := by unfold wrap64; omega
      rw [w2]
  · rw [if_neg h0, if_neg (by simp)]
    by_cases h2 : a < 0
    · have w1 : wrap64 (-9223372036854775808 - a) = -9223372036854775808 - a := by unfold wrap64; omega
      rw [if_pos h2, w1]
      by_cases h1 : b < -9223372036854775808 - a
      · rw [if_pos h1, if_neg (by omega), if_pos (by omega)]
      · rw [if_neg h1, if_neg (by omega), if_neg (by omega)]
        have w2 : wrap64 (a + b) = a + b := by unfold wrap64; omega
        rw [w2]
    · rw [if_neg h2, if_neg (by omega), if_neg (by omega)]
      have w2 : wrap64 (a + b) = a + b := by unfold wrap64; omega
      rw [w2]

theorem rticks (k : Int) : carillonref02_Ticks.f k = stamp_Ticks.f k ∧ carillonref02_Nanos.f k = stamp_Nanos.f k := by
  have hl : mn (mx k (-3)) 4 = mx (-3) (mn k 4) := by unfold mx mn; omega
  have hc := clip k
  unfold carillonref02_Ticks.f carillonref02_Nanos.f carillonref02_log.f stamp_Ticks.f stamp_Nanos.f
  rw [hl, hc.1, hc.2]
  have hb : -3 ≤ mx (-3) (mn k 4) ∧ mx (-3) (mn k 4) ≤ 4 := by unfold mx mn; omega
  generalize mx (-3) (mn k 4) = j at hb ⊢
  have hk : j = -3 ∨ j = -2 ∨ j = -1 ∨ j = 0 ∨ j = 1 ∨ j = 2 ∨ j = 3 ∨ j = 4 := by omega
  rcases hk with rfl | rfl | rfl | rfl | rfl | rfl | rfl | rfl <;> decide +kernel
theorem rfloor (a : Int) (h : -9223372036854775808 ≤ a ∧ a ≤ 9223372036854775807) : carillonref02_Floor.f a = some (a / 65536) := by
  unfold carillonref02_Floor.f
  rw [td a 65536 (by omega), tm a 65536 (by omega)]
  by_cases h0 : 0 ≤ a ∨ a % 65536 = 0
  · rw [if_pos h0, if_pos h0, if_neg (by omega)]
    congr 1
    unfold wrap64
    omega
  · rw [if_neg h0, if_neg h0, if_pos (by omega)]
    congr 1
    have h1 : wrap64 (a / 65536 + 1) = a / 65536 + 1 := by unfold wrap64; omega
    rw [h1]
    unfold wrap64
    omega
theorem StampNumbers : carillonlaw02_StampNumbers.Pure := by
  intro a b ha hb
  have ha := wf64 ha
  have hb := wf64 hb
  refine ⟨1, ?_⟩
  unfold carillonlaw02_StampNumbers.f stamp_Floor.f
  rw [rfloor a ha, add_of a b ha hb 0, radd_of a b ha hb 0, (rticks a).1, (rticks a).2, (ticks a).1, (ticks a).2, awake_true]
  simp only [Option.bind_some, if_true]

end Go.Proofs.Yteahnnhekfkabaa.Pure
