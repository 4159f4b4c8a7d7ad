/- What the given program's functions on qualities answer, in plain words. -/
import Derived.Test.YtiomlbkakiienaaZzPx0
import Derived.Test.YtiomlbkakiienaaZzPx3
import Derived.Test.YtiomlbkakiienaaZzPx4
import Derived.Test.YtiomlbkakiienaaZzPx8
import Derived.Test.YtiomlbkakiienaaZzOct
import Derived.Test.YtiomlbkakiienaaZzRef
namespace Go.Proofs.Ytiomlbkakiienaa.Qua
open Go.RowKit Go.Proofs.Ytiomlbkakiienaa.P Go.Proofs.Ytiomlbkakiienaa.Lib Go.Proofs.Ytiomlbkakiienaa.Oct Go.Proofs.Ytiomlbkakiienaa.Ref Go.Proofs.YtiomlbkakiienaaW.PrintWords Go.Proofs.YtiomlbkakiienaaW.PrintLast Go.Proofs.YtiomlbkakiienaaW.PrintMore
def mayQ (a b c : Int) : Bool := decide (0 ≤ a ∧ a ≤ 255 ∧ 0 ≤ b ∧ b ≤ 255 ∧ 0 ≤ c ∧ c ≤ 65535)
theorem mayQ_of (a b c : Int) : quality_May.f a b c = some (mayQ a b c) := by
  unfold quality_May.f mayQ
  by_cases h1 : a ≥ 0
  · rw [if_pos h1]
    by_cases h2 : a ≤ 255
    · rw [if_pos h2]
      by_cases h3 : b ≥ 0
      · rw [if_pos h3]
        by_cases h4 : b ≤ 255
        · rw [if_pos h4]
          by_cases h5 : c ≥ 0
          · rw [if_pos h5]
            exact congrArg some (decide_eq_decide.2 (by omega))
          · rw [if_neg h5]
            exact congrArg some (decide_eq_false (by omega)).symm
        · rw [if_neg h4]
          exact congrArg some (decide_eq_false (by omega)).symm
      · rw [if_neg h3]
        exact congrArg some (decide_eq_false (by omega)).symm
    · rw [if_neg h2]
      exact congrArg some (decide_eq_false (by omega)).symm
  · rw [if_neg h1]
    exact congrArg some (decide_eq_false (by omega)).symm
theorem quPut_of (l : List Int) (a b c : Int) (hl : l.length ≤ 140737488355300) : quality_Put.f l a b c = some (l ++ enc a 1 ++ enc b 1 ++ enc c 2) := by
  unfold quality_Put.f
  rw [put1 l a (by omega)]
  simp only [Option.bind_some]
  rw [put1 _ b (by rw [List.length_append, enc_length]; omega)]
  simp only [Option.bind_some]
  rw [put2 _ c (by simp only [List.length_append, enc_length]; omega)]
  rfl
def quAt (l : List Int) (a : Int) : Int × Int × Int × Bool := if has l a 4 then (dec (cut l a 1), dec (cut l (a + 1) 1), dec (cut l (a + 2) 2), true) else (0, 0, 0, false)
theorem quGet_of (l : List Int) (hb : By l) (hl : l.length ≤ 4611686018427387904) (a : Int) (ha : -9223372036854775808 ≤ a ∧ a ≤ 9223372036854775807) (K : Nat) (hK : 8 < K) :
    quality_Get.f (K + 1) l a = some (quAt l a) := by
  unfold quality_Get.f quAt
  by_cases h1 : a < 0
  · rw [if_pos h1, quality_Get.j0, if_pos rfl, if_neg (by unfold has; omega)]
  · rw [if_neg h1]
    by_cases h2 : a > (l.length : Int)
    · rw [if_pos h2, quality_Get.j0, if_pos rfl, if_neg (by unfold has; omega)]
    · rw [if_neg h2]
      have hw : wrap64 ((l.length : Int) - a) = (l.length : Int) - a := w64 _ (by omega) (by omega)
      rw [hw, quality_Get.j0]
      clear hw
      by_cases h3 : (l.length : Int) - a < 4
      · rw [if_pos (decide_eq_true h3), if_neg (by unfold has; omega)]
      · have hh : has l a 4 := ⟨by omega, by omega, by omega⟩
        have w1 : wrap64 (a + 1) = a + 1 := w64 _ (by omega) (by omega)
        have w2 : wrap64 (a + 2) = a + 2 := w64 _ (by omega) (by omega)
        rw [if_neg (by simpa using h3), w1, w2, get_yes l hb hl a 1 ⟨by omega, by omega, by omega⟩ (by omega) (by omega) K hK, get_yes l hb hl (a + 1) 1 ⟨by omega, by omega, by omega⟩ (by omega) (by omega) K hK, get_yes l hb hl (a + 2) 2 ⟨by omega, by omega, by omega⟩ (by omega) (by omega) K hK, if_pos hh]
        rfl
end Go.Proofs.Ytiomlbkakiienaa.Qua
