/- What the given program's functions on stamps answer, in plain words. -/
import Derived.Test.YtiomlbkakiienaaZzPx0
import Derived.Test.YtiomlbkakiienaaZzPx1
import Derived.Test.YtiomlbkakiienaaZzPx2
import Derived.Test.YtiomlbkakiienaaZzPx7
import Derived.Test.YtiomlbkakiienaaZzPx9
import Derived.Test.YtiomlbkakiienaaZzOct
import Derived.Test.YtiomlbkakiienaaZzRef
namespace Go.Proofs.Ytiomlbkakiienaa.Stm
open Go.RowKit Go.Proofs.Ytiomlbkakiienaa.P Go.Proofs.Ytiomlbkakiienaa.Lib Go.Proofs.Ytiomlbkakiienaa.Oct Go.Proofs.Ytiomlbkakiienaa.Ref Go.Proofs.YtiomlbkakiienaaW.PrintWords Go.Proofs.YtiomlbkakiienaaW.PrintLast Go.Proofs.YtiomlbkakiienaaW.PrintMore
def may (t : Int) : Bool := decide (0 ≤ t ∧ t ≤ 4000000000000000)
theorem may_of (t : Int) : stamp_May.f t = some (may t) := by
  unfold stamp_May.f may
  by_cases h : t ≥ 0
  · rw [if_pos h]
    exact congrArg some (decide_eq_decide.2 (by omega))
  · rw [if_neg h]
    exact congrArg some (decide_eq_false (by omega)).symm
def asS (t : Int) : Int := if 0 ≤ t ∧ t ≤ 4000000000000000 then t else 0
def encS (t : Int) : List Int := enc (asS t / 1000000000) 6 ++ enc (asS t % 1000000000) 4
theorem encS_length (t : Int) : (encS t).length = 10 := by simp [encS, enc_length]
theorem encS_by (t : Int) : By (encS t) := (enc_by _ 6).app (enc_by _ 4)
theorem stPut_of (l : List Int) (t : Int) (hl : l.length ≤ 140737488355300) : stamp_Put.f l t = some (l ++ encS t) := by
  unfold stamp_Put.f encS
  rw [may_of, Option.bind_some]
  by_cases h : 0 ≤ t ∧ t ≤ 4000000000000000
  · have ha : asS t = t := if_pos h
    have h1 : wrap64 (Int.tdiv t 1000000000) = t / 1000000000 := by
      rw [td t _ (by omega), if_pos (.inl h.1), w64 _ (by omega) (by omega)]
    have h2 : Int.tmod t 1000000000 = t % 1000000000 := by rw [tm t _ (by omega), if_pos (.inl h.1)]
    rw [if_pos (show may t = true from decide_eq_true h), ha, h1, h2, put6 l _ (by omega), Option.bind_some, put4 _ _ (by rw [List.length_append, enc_length]; omega), Option.bind_some, List.append_assoc]
  · have ha : asS t = 0 := if_neg h
    rw [if_neg (by simpa [may] using h), ha, put6 l _ (by omega), Option.bind_some, put4 _ _ (by rw [List.length_append, enc_length]; omega), Option.bind_some, List.append_assoc]
theorem rmay_of (t : Int) : carillonref02_May.f t = some (may t) := by
  unfold carillonref02_May.f may
  by_cases h : t ≥ 0
  · rw [if_pos h]
    exact congrArg some (decide_eq_decide.2 (by omega))
  · rw [if_neg h]
    exact congrArg some (decide_eq_false (by omega)).symm
theorem rstPut_of (t : Int) (K : Nat) (hK : 8 < K) : carillonref02_Put.f K t = some (encS t) := by
  unfold carillonref02_Put.f encS
  rw [rmay_of, Option.bind_some]
  by_cases h : 0 ≤ t ∧ t ≤ 4000000000000000
  · have ha : asS t = t := if_pos h
    have h1 : wrap64 (Int.tdiv t 1000000000) = t / 1000000000 := by
      rw [td t _ (by omega), if_pos (.inl h.1), w64 _ (by omega) (by omega)]
    have h2 : Int.tmod t 1000000000 = t % 1000000000 := by rw [tm t _ (by omega), if_pos (.inl h.1)]
    rw [if_pos (show may t = true from decide_eq_true h), ha, h1, h2, rput6 _ K hK, Option.bind_some, rput4 _ K hK, Option.bind_some, if_pos (by simp [enc_length])]
  · have ha : asS t = 0 := if_neg h
    rw [if_neg (by simpa [may] using h), ha, rput6 _ K hK, Option.bind_some, rput4 _ K hK, Option.bind_some, if_pos (by simp [enc_length])]
end Go.Proofs.Ytiomlbkakiienaa.Stm
