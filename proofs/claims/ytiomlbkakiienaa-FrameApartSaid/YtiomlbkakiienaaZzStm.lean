/- What the given program's functions on stamps answer, in plain words. -/
import Derived.Test.YtiomlbkakiienaaZzPx0
import Derived.Test.YtiomlbkakiienaaZzPx2
import Derived.Test.YtiomlbkakiienaaZzPx3
import Derived.Test.YtiomlbkakiienaaZzPx8
import Derived.Test.YtiomlbkakiienaaZzOct
import Derived.Test.YtiomlbkakiienaaZzRef
namespace Go.Proofs.Ytiomlbkakiienaa.Stm
open Go.RowKit Go.Proofs.Ytiomlbkakiienaa.P Go.Proofs.Ytiomlbkakiienaa.Lib Go.Proofs.Ytiomlbkakiienaa.Oct Go.Proofs.Ytiomlbkakiienaa.Ref Go.Proofs.YtiomlbkakiienaaW.PrintWords Go.Proofs.YtiomlbkakiienaaW.PrintLast Go.Proofs.YtiomlbkakiienaaW.PrintMore
def may (t : Int) : Bool := decide (0 ≤ t ∧ t ≤ 4000000000000000)
theorem may_of (t : Int) : stamp_May.f t = some (may t) := by
  unfold stamp_May.f may
  by_cases h : t ≥ 0
  · rw [if_pos h]
    exact congrArg some (decide_eq_decide.2 (by omega))
  · rw [if_neg h]
    exact congrArg some (decide_eq_false (by omega)).symm
def asS (t : Int) : Int := if 0 ≤ t ∧ t ≤ 4000000000000000 then t else 0
theorem asS_range (t : Int) : 0 ≤ asS t ∧ asS t ≤ 4000000000000000 := by
  unfold asS
  split <;> omega
def encS (t : Int) : List Int := enc (asS t / 1000000000) 6 ++ enc (asS t % 1000000000) 4
theorem encS_length (t : Int) : (encS t).length = 10 := by simp [encS, enc_length]
theorem encS_by (t : Int) : By (encS t) := (enc_by _ 6).app (enc_by _ 4)
theorem stPut_of (l : List Int) (t : Int) (hl : l.length ≤ 140737488355300) : stamp_Put.f l t = some (l ++ encS t) := by
  unfold stamp_Put.f encS
  rw [may_of, Option.bind_some]
  by_cases h : 0 ≤ t ∧ t ≤ 4000000000000000
  · have ha : asS t = t := if_pos h
    have h1 : wrap64 (Int.tdiv t 1000000000) = t / 1000000000 := by
      rw [td t _ (by omega), if_pos (.inl h.1), w64 _ (by omega) (by omega)]
    have h2 : Int.tmod t 1000000000 = t % 1000000000 := by rw [tm t _ (by omega), if_pos (.inl h.1)]
    rw [if_pos (show may t = true from decide_eq_true h), ha, h1, h2, put6 l _ (by omega), Option.bind_some, put4 _ _ (by rw [List.length_append, enc_length]; omega), Option.bind_some, List.append_assoc]
  · have ha : asS t = 0 := if_neg h
    rw [if_neg (by simpa [may] using h), ha, put6 l _ (by omega), Option.bind_some, put4 _ _ (by rw [List.length_append, enc_length]; omega), Option.bind_some, List.append_assoc]
theorem p6 : (256 : Int) ^ 6 = 281474976710656 := by decide +kernel
theorem p4 : (256 : Int) ^ 4 = 4294967296 := by decide +kernel
def stampAt (l : List Int) (a : Int) : Int × Bool :=
  if has l a 10 ∧ dec (cut l (a + 6) 4) < 1000000000 ∧ dec (cut l a 6) * 1000000000 + dec (cut l (a + 6) 4) ≤ 4000000000000000 then (dec (cut l a 6) * 1000000000 + dec (cut l (a + 6) 4), true) else (0, false)
theorem stGet_of (l : List Int) (hb : By l) (hl : l.length ≤ 4611686018427387904) (a : Int) (ha : -9223372036854775808 ≤ a ∧ a ≤ 9223372036854775807) (K : Nat) (hK : 8 < K) :
    stamp_Get.f (K + 1) l a = some (stampAt l a) := by
  unfold stamp_Get.f stampAt
  by_cases h1 : a < 0
  · rw [if_pos h1, stamp_Get.j0, if_pos rfl, if_neg (fun h => by have := h.1.2.1; omega)]
  · rw [if_neg h1]
    by_cases h2 : a > (l.length : Int)
    · rw [if_pos h2, stamp_Get.j0, if_pos rfl, if_neg (fun h => by have := h.1.2.2; omega)]
    · rw [if_neg h2]
      have hw : wrap64 ((l.length : Int) - a) = (l.length : Int) - a := w64 _ (by omega) (by omega)
      rw [hw, stamp_Get.j0]
      clear hw
      by_cases h3 : (l.length : Int) - a < 10
      · rw [if_pos (decide_eq_true h3), if_neg (fun h => by have := h.1.2.2; omega)]
      · have hh : has l a 10 := ⟨by omega, by omega, by omega⟩
        have h6 : has l a 6 := ⟨by omega, by omega, by omega⟩
        have h64 : has l (a + 6) 4 := ⟨by omega, by omega, by omega⟩
        have g1 := get_yes l hb hl a 6 h6 (by omega) (by omega) K hK
        have g2 := get_yes l hb hl (a + 6) 4 h64 (by omega) (by omega) K hK
        have r1 := dec_range (cut_by hb a 6)
        have r2 := dec_range (cut_by hb (a + 6) 4)
        rw [cut_length h6, show (6 : Int).toNat = 6 from rfl, p6] at r1
        rw [cut_length h64, show (4 : Int).toNat = 4 from rfl, p4] at r2
        have hw : wrap64 (a + 6) = a + 6 := w64 _ (by omega) (by omega)
        rw [if_neg (by simpa using h3), hw, g1, g2, Option.bind_some, Option.bind_some]
        clear hw g1 g2
        generalize dec (cut l a 6) = s at *
        generalize dec (cut l (a + 6) 4) = n at *
        simp only
        by_cases q1 : n ≥ 1000000000
        · rw [if_pos q1, if_neg (fun h => by omega)]
        · rw [if_neg q1]
          by_cases q2 : s > 4000000
          · rw [if_pos q2, if_neg (fun h => by omega)]
          · have hw1 : wrap64 (s * 1000000000) = s * 1000000000 := w64 _ (by omega) (by omega)
            have hw2 : wrap64 (s * 1000000000 + n) = s * 1000000000 + n := w64 _ (by omega) (by omega)
            rw [if_neg q2, hw1, hw2, may_of, Option.bind_some]
            clear hw1 hw2
            by_cases q3 : s * 1000000000 + n ≤ 4000000000000000
            · rw [if_pos (show may (s * 1000000000 + n) = true from decide_eq_true ⟨by omega, q3⟩), if_pos ⟨hh, by omega, q3⟩]
            · rw [if_neg (by simp [may]; omega), if_neg (fun h => q3 h.2.2)]
theorem stampAt_enc (p q : List Int) (t : Int) (a : Int) (ha : a = p.length) : stampAt (p ++ encS t ++ q) a = (asS t, true) := by
  have hr := asS_range t
  have hL : (p ++ encS t ++ q).length = p.length + 10 + q.length := by simp only [List.length_append, encS_length]
  have k1 : cut (p ++ encS t ++ q) a 6 = enc (asS t / 1000000000) 6 := by
    have := cut_app p (enc (asS t / 1000000000) 6) (enc (asS t % 1000000000) 4 ++ q) a 6 ha (by simp [enc_length])
    simpa [encS, List.append_assoc] using this
  have k2 : cut (p ++ encS t ++ q) (a + 6) 4 = enc (asS t % 1000000000) 4 := by
    have := cut_app (p ++ enc (asS t / 1000000000) 6) (enc (asS t % 1000000000) 4) q (a + 6) 4 (by simp [enc_length]; omega) (by simp [enc_length])
    simpa [encS, List.append_assoc] using this
  unfold stampAt
  rw [k1, k2, dec_enc, dec_enc, p6, p4]
  have e1 : asS t / 1000000000 % 281474976710656 = asS t / 1000000000 := by omega
  have e2 : asS t % 1000000000 % 4294967296 = asS t % 1000000000 := by omega
  rw [e1, e2, if_pos ⟨⟨by omega, by omega, by omega⟩, by omega, by omega⟩]
  congr 1
  omega
end Go.Proofs.Ytiomlbkakiienaa.Stm
