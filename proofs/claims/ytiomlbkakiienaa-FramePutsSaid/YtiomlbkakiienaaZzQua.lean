/- What the given program's functions on qualities answer, in plain words. -/
import Derived.Test.YtiomlbkakiienaaZzPx0
import Derived.Test.YtiomlbkakiienaaZzPx1
import Derived.Test.YtiomlbkakiienaaZzPx3
import Derived.Test.YtiomlbkakiienaaZzPx5
import Derived.Test.YtiomlbkakiienaaZzPx6
import Derived.Test.YtiomlbkakiienaaZzPx7
import Derived.Test.YtiomlbkakiienaaZzPx10
import Derived.Test.YtiomlbkakiienaaZzOct
import Derived.Test.YtiomlbkakiienaaZzRef
namespace Go.Proofs.Ytiomlbkakiienaa.Qua
open Go.RowKit Go.Proofs.Ytiomlbkakiienaa.P Go.Proofs.Ytiomlbkakiienaa.Lib Go.Proofs.Ytiomlbkakiienaa.Oct Go.Proofs.Ytiomlbkakiienaa.Ref Go.Proofs.YtiomlbkakiienaaW.PrintWords Go.Proofs.YtiomlbkakiienaaW.PrintLast Go.Proofs.YtiomlbkakiienaaW.PrintMore
def mayQ (a b c : Int) : Bool := decide (0 ≤ a ∧ a ≤ 255 ∧ 0 ≤ b ∧ b ≤ 255 ∧ 0 ≤ c ∧ c ≤ 65535)
theorem mayQ_of (a b c : Int) : quality_May.f a b c = some (mayQ a b c) := by
  unfold quality_May.f mayQ
  by_cases h1 : a ≥ 0
  · rw [if_pos h1]
    by_cases h2 : a ≤ 255
    · rw [if_pos h2]
      by_cases h3 : b ≥ 0
      · rw [if_pos h3]
        by_cases h4 : b ≤ 255
        · rw [if_pos h4]
          by_cases h5 : c ≥ 0
          · rw [if_pos h5]
            exact congrArg some (decide_eq_decide.2 (by omega))
          · rw [if_neg h5]
            exact congrArg some (decide_eq_false (by omega)).symm
        · rw [if_neg h4]
          exact congrArg some (decide_eq_false (by omega)).symm
      · rw [if_neg h3]
        exact congrArg some (decide_eq_false (by omega)).symm
    · rw [if_neg h2]
      exact congrArg some (decide_eq_false (by omega)).symm
  · rw [if_neg h1]
    exact congrArg some (decide_eq_false (by omega)).symm
theorem quPut_of (l : List Int) (a b c : Int) (hl : l.length ≤ 140737488355300) : quality_Put.f l a b c = some (l ++ enc a 1 ++ enc b 1 ++ enc c 2) := by
  unfold quality_Put.f
  rw [put1 l a (by omega)]
  simp only [Option.bind_some]
  rw [put1 _ b (by rw [List.length_append, enc_length]; omega)]
  simp only [Option.bind_some]
  rw [put2 _ c (by simp only [List.length_append, enc_length]; omega)]
  rfl
theorem rmayQ_of (a b c : Int) : carillonref05_May.f a b c = some (mayQ a b c) := by
  have e : ∀ v x y : Int, carillonref05_In.f v x y = some (decide (x ≤ v ∧ v ≤ y)) := by
    intro v x y
    unfold carillonref05_In.f
    by_cases h : v ≥ x
    · rw [if_pos h]
      exact congrArg some (decide_eq_decide.2 (by omega))
    · rw [if_neg h]
      exact congrArg some (decide_eq_false (by omega)).symm
  unfold carillonref05_May.f mayQ
  rw [e, e, e]
  simp only [Option.bind_some, decide_eq_true_eq]
  by_cases h1 : 0 ≤ a ∧ a ≤ 255
  · rw [if_pos h1]
    by_cases h2 : 0 ≤ b ∧ b ≤ 255
    · rw [if_pos h2]
      exact congrArg some (decide_eq_decide.2 (by omega))
    · rw [if_neg h2]
      exact congrArg some (decide_eq_false (by omega)).symm
  · rw [if_neg h1]
    exact congrArg some (decide_eq_false (by omega)).symm
theorem rquPut_of (a b c : Int) (K : Nat) (hK : 8 < K) : carillonref05_Put.f K a b c = some (enc a 1 ++ enc b 1 ++ enc c 2) := by
  unfold carillonref05_Put.f
  rw [rput1 a K hK, rput1 b K hK, rput2 c K hK]
  simp only [Option.bind_some]
  rw [if_pos (by simp [enc_length]), if_pos (by simp [enc_length])]
end Go.Proofs.Ytiomlbkakiienaa.Qua
