/- What the given program's functions on stamps answer, in plain words. -/
import Derived.Test.YtiomlbkakiienaaZzPx0
import Derived.Test.YtiomlbkakiienaaZzPx2
import Derived.Test.YtiomlbkakiienaaZzPx4
import Derived.Test.YtiomlbkakiienaaZzPx9
import Derived.Test.YtiomlbkakiienaaZzOct
import Derived.Test.YtiomlbkakiienaaZzRef
namespace Go.Proofs.Ytiomlbkakiienaa.Stm
open Go.RowKit Go.Proofs.Ytiomlbkakiienaa.P Go.Proofs.Ytiomlbkakiienaa.Lib Go.Proofs.Ytiomlbkakiienaa.Oct Go.Proofs.Ytiomlbkakiienaa.Ref Go.Proofs.YtiomlbkakiienaaW.PrintWords Go.Proofs.YtiomlbkakiienaaW.PrintLast Go.Proofs.YtiomlbkakiienaaW.PrintMore
def may (t : Int) : Bool := decide (0 ≤ t ∧ t ≤ 4000000000000000)
theorem may_of (t : Int) : stamp_May.f t = some (may t) := by
  unfold stamp_May.f may
  by_cases h : t ≥ 0
  · rw [if_pos h]
    exact congrArg some (decide_eq_decide.2 (by omega))
  · rw [if_neg h]
    exact congrArg some (decide_eq_false (by omega)).symm
def asS (t : Int) : Int := if 0 ≤ t ∧ t ≤ 4000000000000000 then t else 0
def encS (t : Int) : List Int := enc (asS t / 1000000000) 6 ++ enc (asS t % 1000000000) 4
theorem p6 : (256 : Int) ^ 6 = 281474976710656 := by decide +kernel
theorem p4 : (256 : Int) ^ 4 = 4294967296 := by decide +kernel
def stampAt (l : List Int) (a : Int) : Int × Bool :=
  if has l a 10 ∧ dec (cut l (a + 6) 4) < 1000000000 ∧ dec (cut l a 6) * 1000000000 + dec (cut l (a + 6) 4) ≤ 4000000000000000 then (dec (cut l a 6) * 1000000000 + dec (cut l (a + 6) 4), true) else (0, false)
theorem stGet_of (l : List Int) (hb : By l) (hl : l.length ≤ 4611686018427387904) (a : Int) (ha : -9223372036854775808 ≤ a ∧ a ≤ 9223372036854775807) (K : Nat) (hK : 8 < K) :
    stamp_Get.f (K + 1) l a = some (stampAt l a) := by
  unfold stamp_Get.f stampAt
  by_cases h1 : a < 0
  · rw [if_pos h1, stamp_Get.j0, if_pos rfl, if_neg (fun h => by have := h.1.2.1; omega)]
  · rw [if_neg h1]
    by_cases h2 : a > (l.length : Int)
    · rw [if_pos h2, stamp_Get.j0, if_pos rfl, if_neg (fun h => by have := h.1.2.2; omega)]
    · rw [if_neg h2]
      have hw : wrap64 ((l.length : Int) - a) = (l.length : Int) - a := w64 _ (by omega) (by omega)
      rw [hw, stamp_Get.j0]
      clear hw
      by_cases h3 : (l.length : Int) - a < 10
      · rw [if_pos (decide_eq_true h3), if_neg (fun h => by have := h.1.2.2; omega)]
      · have hh : has l a 10 := ⟨by omega, by omega, by omega⟩
        have h6 : has l a 6 := ⟨by omega, by omega, by omega⟩
        have h64 : has l (a + 6) 4 := ⟨by omega, by omega, by omega⟩
        have g1 := get_yes l hb hl a 6 h6 (by omega) (by omega) K hK
        have g2 := get_yes l hb hl (a + 6) 4 h64 (by omega) (by omega) K hK
        have r1 := dec_range (cut_by hb a 6)
        have r2 := dec_range (cut_by hb (a + 6) 4)
        rw [cut_length h6, show (6 : Int).toNat = 6 from rfl, p6] at r1
        rw [cut_length h64, show (4 : Int).toNat = 4 from rfl, p4] at r2
        have hw : wrap64 (a + 6) = a + 6 := w64 _ (by omega) (by omega)
        rw [if_neg (by simpa using h3), hw, g1, g2, Option.bind_some, Option.bind_some]
        clear hw g1 g2
        generalize dec (cut l a 6) = s at *
        generalize dec (cut l (a + 6) 4) = n at *
        simp only
        by_cases q1 : n ≥ 1000000000
        · rw [if_pos q1, if_neg (fun h => by omega)]
        · rw [if_neg q1]
          by_cases q2 : s > 4000000
          · rw [if_pos q2, if_neg (fun h => by omega)]
          · have hw1 : wrap64 (s * 1000000000) = s * 1000000000 := w64 _ (by omega) (by omega)
            have hw2 : wrap64 (s * 1000000000 + n) = s * 1000000000 + n := w64 _ (by omega) (by omega)
            rw [if_neg q2, hw1, hw2, may_of, Option.bind_some]
            clear hw1 hw2
            by_cases q3 : s * 1000000000 + n ≤ 4000000000000000
            · rw [if_pos (show may (s * 1000000000 + n) = true from decide_eq_true ⟨by omega, q3⟩), if_pos ⟨hh, by omega, q3⟩]
            · rw [if_neg (by simp [may]; omega), if_neg (fun h => q3 h.2.2)]
theorem rmay_of (t : Int) : carillonref02_May.f t = some (may t) := by
  unfold carillonref02_May.f may
  by_cases h : t ≥ 0
  · rw [if_pos h]
    exact congrArg some (decide_eq_decide.2 (by omega))
  · rw [if_neg h]
    exact congrArg some (decide_eq_false (by omega)).symm
theorem rstGet_of (l : List Int) (hb : By l) (hl : l.length ≤ 4611686018427387904) (a : Int) (ha : -9223372036854775808 ≤ a ∧ a ≤ 9223372036854775807) (K : Nat) (hK : 8 < K) :
    carillonref02_Get.f (K + 2) l a = some (stampAt l a) := by
  unfold carillonref02_Get.f stampAt
  have g1 := rget_of l hb hl a 6 (by omega) (K + 1) (by omega)
  by_cases h6 : has l a 6
  · have h' := h6
    unfold has at h'
    have hw : wrap64 ((l.length : Int) - 10) = (l.length : Int) - 10 := w64 _ (by omega) (by omega)
    rw [if_pos ⟨by omega, by omega, h6⟩] at g1
    rw [g1]
    simp only [Option.bind_some]
    rw [if_pos trivial, hw, carillonref02_Get.j0]
    clear hw
    by_cases h3 : a > (l.length : Int) - 10
    · rw [if_pos (decide_eq_true h3), if_neg (fun h => by have := h.1.2.2; omega)]
    · have hh : has l a 10 := ⟨by omega, by omega, by omega⟩
      have h64 : has l (a + 6) 4 := ⟨by omega, by omega, by omega⟩
      have r1 := dec_range (cut_by hb a 6)
      have r2 := dec_range (cut_by hb (a + 6) 4)
      rw [cut_length h6, show (6 : Int).toNat = 6 from rfl, p6] at r1
      rw [cut_length h64, show (4 : Int).toNat = 4 from rfl, p4] at r2
      have hw : wrap64 (a + 6) = a + 6 := w64 _ (by omega) (by omega)
      have g2 := rget_of l hb hl (a + 6) 4 (by omega) K hK
      rw [if_pos ⟨by omega, by omega, h64⟩] at g2
      rw [if_neg (by simpa using h3), hw, g2, Option.bind_some]
      clear hw g2
      generalize dec (cut l a 6) = s at *
      generalize dec (cut l (a + 6) 4) = n at *
      simp only
      by_cases q1 : n ≥ 1000000000
      · rw [if_pos q1, if_neg (fun h => by omega)]
      · rw [if_neg q1]
        by_cases q2 : s > 4000000
        · rw [if_pos q2, if_neg (fun h => by omega)]
        · have hw1 : wrap64 (s * 1000000000) = s * 1000000000 := w64 _ (by omega) (by omega)
          have hw2 : wrap64 (s * 1000000000 + n) = s * 1000000000 + n := w64 _ (by omega) (by omega)
          rw [if_neg q2, hw1, hw2, rmay_of, Option.bind_some]
          clear hw1 hw2
          by_cases q3 : s * 1000000000 + n ≤ 4000000000000000
          · rw [if_pos (show may (s * 1000000000 + n) = true from decide_eq_true ⟨by omega, q3⟩), if_pos ⟨hh, by omega, q3⟩]
          · rw [if_neg (by simp [may]; omega), if_neg (fun h => q3 h.2.2)]
  · rw [if_neg (fun h => h6 h.2.2)] at g1
    rw [g1]
    simp only [Option.bind_some]
    rw [if_neg (by simp), carillonref02_Get.j0, if_pos rfl, if_neg (fun h => h6 (by have := h.1; unfold has at this ⊢; omega))]
end Go.Proofs.Ytiomlbkakiienaa.Stm
