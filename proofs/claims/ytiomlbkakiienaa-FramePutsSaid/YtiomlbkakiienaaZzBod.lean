/- What bodies answer, in plain words. -/
import Derived.Test.YtiomlbkakiienaaZzPx0
import Derived.Test.YtiomlbkakiienaaZzPx1
import Derived.Test.YtiomlbkakiienaaZzPx2
import Derived.Test.YtiomlbkakiienaaZzPx3
import Derived.Test.YtiomlbkakiienaaZzPx5
import Derived.Test.YtiomlbkakiienaaZzPx7
import Derived.Test.YtiomlbkakiienaaZzPx8
import Derived.Test.YtiomlbkakiienaaZzPx10
import Derived.Test.YtiomlbkakiienaaZzHdw
import Derived.Test.YtiomlbkakiienaaZzStm
import Derived.Test.YtiomlbkakiienaaZzQua
set_option linter.unusedVariables false
set_option linter.unusedSimpArgs false
namespace Go.Proofs.Ytiomlbkakiienaa.Bod
open Go.RowKit Go.Proofs.Ytiomlbkakiienaa.P Go.Proofs.Ytiomlbkakiienaa.Lib Go.Proofs.Ytiomlbkakiienaa.Oct Go.Proofs.Ytiomlbkakiienaa.Ref Go.Proofs.Ytiomlbkakiienaa.Hdr Go.Proofs.YtiomlbkakiienaaW.PrintWords Go.Proofs.YtiomlbkakiienaaW.PrintLast Go.Proofs.YtiomlbkakiienaaW.PrintMore
def stm (t : Int) : Bool := decide (t ≠ 12 ∧ t ≠ 13)
def tgt (t : Int) : Bool := decide (t = 9 ∨ t = 3 ∨ t = 10 ∨ t = 12 ∨ t = 13)
def blen (t : Int) : Int := if t = 0 ∨ t = 1 ∨ t = 8 ∨ t = 12 then 10 else if t = 2 ∨ t = 3 ∨ t = 10 ∨ t = 9 then 20 else if t = 11 then 30 else if t = 13 then 14 else 0
theorem blen_range (t : Int) : 0 ≤ blen t ∧ blen t ≤ 30 := by
  unfold blen
  split
  · omega
  · split
    · omega
    · split
      · omega
      · split <;> omega
theorem ite_some {b x : Bool} : (if b = true then some x else some false) = some (b && x) := by cases b <;> rfl
theorem stamped_of (t : Int) : body_stamped.f t = some (stm t) := by
  unfold body_stamped.f stm
  by_cases h : t = 12
  · rw [if_pos h]; congr 1; exact (decide_eq_false (by omega)).symm
  · rw [if_neg h]; congr 1; rw [Bool.eq_iff_iff]; simp only [bne_iff_ne, decide_eq_true_eq]; omega
theorem targeted_of (t : Int) : body_targeted.f t = some (tgt t) := by
  unfold body_targeted.f tgt
  by_cases h1 : t = 9
  · rw [if_pos h1, decide_eq_true (by omega)]
  rw [if_neg h1]
  by_cases h2 : t = 3
  · rw [if_pos h2, decide_eq_true (by omega)]
  rw [if_neg h2]
  by_cases h3 : t = 10
  · rw [if_pos h3, decide_eq_true (by omega)]
  rw [if_neg h3]
  by_cases h4 : t = 12
  · rw [if_pos h4, decide_eq_true (by omega)]
  rw [if_neg h4]
  by_cases h5 : t = 13
  · rw [if_pos h5, decide_eq_true (by omega)]
  rw [if_neg h5, decide_eq_false (by omega)]
theorem rstamped_of (t : Int) : carillonref07_stamped.f t = some (stm t) := by
  unfold carillonref07_stamped.f stm
  by_cases h : t = 12
  · rw [if_pos h]; congr 1; exact (decide_eq_false (by omega)).symm
  · rw [if_neg h]; congr 1; rw [Bool.eq_iff_iff]; simp only [bne_iff_ne, decide_eq_true_eq]; omega
theorem rtargeted_of (t : Int) : carillonref07_targeted.f t = some (tgt t) := by
  unfold carillonref07_targeted.f tgt
  by_cases h1 : t = 9
  · rw [if_pos h1, decide_eq_true (by omega)]
  rw [if_neg h1]
  by_cases h2 : t = 3
  · rw [if_pos h2, decide_eq_true (by omega)]
  rw [if_neg h2]
  by_cases h3 : t = 10
  · rw [if_pos h3, decide_eq_true (by omega)]
  rw [if_neg h3]
  by_cases h4 : t = 12
  · rw [if_pos h4, decide_eq_true (by omega)]
  rw [if_neg h4]
  congr 1
  rw [Bool.eq_iff_iff]
  simp only [beq_iff_eq, decide_eq_true_eq]
  omega
theorem rlen_of (t : Int) (K : Nat) : carillonref07_Len.f (K + 2) t = some (blen t) := by
  have j1 : ∀ x b, (b = true ↔ t = 2 ∨ t = 3 ∨ t = 10 ∨ t = 9) → x = t → ¬ (t = 0 ∨ t = 1 ∨ t = 8 ∨ t = 12) → carillonref07_Len.j1 (K + 1) x b = some (blen t) := by
    rintro x b hb rfl h
    unfold blen
    rw [carillonref07_Len.j1, if_neg h]
    by_cases h2 : x = 2 ∨ x = 3 ∨ x = 10 ∨ x = 9
    · rw [if_pos h2, if_pos (hb.2 h2)]
    · rw [if_neg h2, if_neg (fun e => h2 (hb.1 e))]
      by_cases h3 : x = 11
      · rw [if_pos h3, if_pos h3]
      · rw [if_neg h3, if_neg h3]
        by_cases h4 : x = 13
        · rw [if_pos h4, if_pos h4]
        · rw [if_neg h4, if_neg h4]
  have j0 : ∀ b, (b = true ↔ t = 0 ∨ t = 1 ∨ t = 8 ∨ t = 12) → carillonref07_Len.j0 (K + 2) t b = some (blen t) := by
    intro b hb
    rw [carillonref07_Len.j0]
    by_cases h : t = 0 ∨ t = 1 ∨ t = 8 ∨ t = 12
    · rw [if_pos (hb.2 h)]
      unfold blen
      rw [if_pos h]
    · rw [if_neg (fun e => h (hb.1 e))]
      by_cases h2 : t = 2
      · rw [if_pos h2]; exact j1 _ _ (by simp only [beq_iff_eq]; omega) rfl h
      rw [if_neg h2]
      by_cases h3 : t = 3
      · rw [if_pos h3]; exact j1 _ _ (by simp only [beq_iff_eq]; omega) rfl h
      rw [if_neg h3]
      by_cases h4 : t = 10
      · rw [if_pos h4]; exact j1 _ _ (by simp only [beq_iff_eq]; omega) rfl h
      rw [if_neg h4]
      exact j1 _ _ (by simp only [beq_iff_eq]; omega) rfl h
  unfold carillonref07_Len.f
  by_cases h1 : t = 0
  · rw [if_pos h1]; exact j0 _ (by simp only [beq_iff_eq]; omega)
  rw [if_neg h1]
  by_cases h2 : t = 1
  · rw [if_pos h2]; exact j0 _ (by simp only [beq_iff_eq]; omega)
  rw [if_neg h2]
  by_cases h3 : t = 8
  · rw [if_pos h3]; exact j0 _ (by simp only [beq_iff_eq]; omega)
  rw [if_neg h3]
  exact j0 _ (by simp only [beq_iff_eq]; omega)
theorem bin_of (v a b : Int) : body_in.f v a b = some (within v a b) := by
  unfold body_in.f within
  by_cases h : v ≥ a
  · rw [if_pos h]; congr 1; rw [Bool.eq_iff_iff]; simp only [decide_eq_true_eq]; omega
  · rw [if_neg h]; congr 1; exact (decide_eq_false (by omega)).symm
def s8 (t m8 : Int) : Bool := if stm t = true then within m8 0 4000000000000000 else decide (m8 = 0)
def s9 (t m9 m10 : Int) : Bool := if tgt t = true then within m10 0 65535 else decide (m9 = 0 ∧ m10 = 0)
def sA (t m11 m12 m13 m14 m15 m16 m17 m18 m19 : Int) : Bool := if t = 11 then decide ((-32768 ≤ m11 ∧ m11 ≤ 32767) ∧ (0 ≤ m12 ∧ m12 ≤ 255) ∧ (0 ≤ m16 ∧ m16 ≤ 255) ∧ (0 ≤ m19 ∧ m19 ≤ 255) ∧ (0 ≤ m13 ∧ m13 ≤ 255 ∧ 0 ≤ m14 ∧ m14 ≤ 255 ∧ 0 ≤ m15 ∧ m15 ≤ 65535) ∧ (0 ≤ m18 ∧ m18 ≤ 65535)) else decide (m11 = 0 ∧ m12 = 0 ∧ m13 = 0 ∧ m14 = 0 ∧ m15 = 0 ∧ m16 = 0 ∧ m17 = 0 ∧ m18 = 0 ∧ m19 = 0)
def sM (t m20 m21 m22 : Int) : Bool := if t = 13 then decide ((0 ≤ m20 ∧ m20 ≤ 255) ∧ (0 ≤ m21 ∧ m21 ≤ 255) ∧ (0 ≤ m22 ∧ m22 ≤ 15)) else decide (m20 = 0 ∧ m21 = 0 ∧ m22 = 0)
def bok (m0 m1 m2 m3 m4 m5 m6 m7 m8 m9 m10 m11 m12 m13 m14 m15 m16 m17 m18 m19 m20 m21 m22 : Int) : Bool := hok m0 m1 m2 m5 m6 m7 && (s8 m0 m8 && (s9 m0 m9 m10 && (sA m0 m11 m12 m13 m14 m15 m16 m17 m18 m19 && sM m0 m20 m21 m22)))
theorem own_of (m0 m1 m2 m3 m4 m5 m6 m7 m8 m9 m10 m11 m12 m13 m14 m15 m16 m17 m18 m19 m20 m21 m22 : Int) (k : Nat) : body_own.f k m0 m1 m2 m3 m4 m5 m6 m7 m8 m9 m10 m11 m12 m13 m14 m15 m16 m17 m18 m19 m20 m21 m22 = some (m0, m1, m2, m3, m4, m5, m6, m7, (if stm m0 = true then m8 else 0), (if tgt m0 = true then m9 else 0), (if tgt m0 = true then m10 else 0), (if m0 = 11 then m11 else 0), (if m0 = 11 then m12 else 0), (if m0 = 11 then m13 else 0), (if m0 = 11 then m14 else 0), (if m0 = 11 then m15 else 0), (if m0 = 11 then m16 else 0), (if m0 = 11 then m17 else 0), (if m0 = 11 then m18 else 0), (if m0 = 11 then m19 else 0), (if m0 = 13 then m20 else 0), (if m0 = 13 then m21 else 0), (if m0 = 13 then m22 else 0)) := by
  unfold body_own.f
  rw [stamped_of, Option.bind_some]
  cases h1 : stm m0 <;> cases h2 : tgt m0 <;> by_cases h3 : m0 = 11 <;> by_cases h4 : m0 = 13 <;> first | (exfalso; omega) | (simp only [body_own.j1, body_own.j2, body_own.j3, targeted_of, h2, Option.bind_some, if_pos h3, if_pos h4, if_true, if_false, Bool.false_eq_true, reduceIte]; done) | (simp only [body_own.j1, body_own.j2, body_own.j3, targeted_of, h2, Option.bind_some, if_pos h3, if_neg h4, if_true, if_false, Bool.false_eq_true, reduceIte]; done) | (simp only [body_own.j1, body_own.j2, body_own.j3, targeted_of, h2, Option.bind_some, if_neg h3, if_pos h4, if_true, if_false, Bool.false_eq_true, reduceIte]; done) | (simp only [body_own.j1, body_own.j2, body_own.j3, targeted_of, h2, Option.bind_some, if_neg h3, if_neg h4, if_true, if_false, Bool.false_eq_true, reduceIte]; done)
theorem bcheck_of (m0 m1 m2 m3 m4 m5 m6 m7 m8 m9 m10 m11 m12 m13 m14 m15 m16 m17 m18 m19 m20 m21 m22 : Int) (K : Nat) : body_Check.f (K + 1) m0 m1 m2 m3 m4 m5 m6 m7 m8 m9 m10 m11 m12 m13 m14 m15 m16 m17 m18 m19 m20 m21 m22 = some (bok m0 m1 m2 m3 m4 m5 m6 m7 m8 m9 m10 m11 m12 m13 m14 m15 m16 m17 m18 m19 m20 m21 m22) := by
  unfold body_Check.f
  rw [check_of, Option.bind_some, own_of]
  unfold bok
  cases hk : hok m0 m1 m2 m5 m6 m7 with
  | false => rfl
  | true =>
    rw [if_pos rfl]
    simp only [Option.bind_some, Stm.may_of, idMay_of, bin_of, Qua.mayQ_of, ite_some, beq_self_eq_true, Bool.true_and]
    congr 1
    rw [Bool.eq_iff_iff]
    simp only [Bool.and_eq_true, beq_iff_eq, within, Stm.may, Qua.mayQ, decide_eq_true_eq, s8, s9, sA, sM]
    cases h1 : stm m0 <;> cases h2 : tgt m0 <;> by_cases h3 : m0 = 11 <;> by_cases h4 : m0 = 13
    all_goals (try (exfalso; omega))
    all_goals (try simp only [if_pos h3])
    all_goals (try simp only [if_neg h3])
    all_goals (try simp only [if_pos h4])
    all_goals (try simp only [if_neg h4])
    all_goals (simp only [if_true, if_false, Bool.false_eq_true, reduceIte, decide_eq_true_eq, true_and, and_true])
    all_goals omega
theorem rj3 (x0 x1 x2 x3 x4 x5 x6 x7 x8 x9 x10 x11 x12 x13 x14 x15 x16 x17 x18 x19 x20 x21 x22 : Int) (b : Bool) (y0 y1 y2 y3 y4 y5 y6 y7 y8 y9 y10 y11 y12 y13 y14 y15 y16 y17 y18 y19 y20 y21 y22 : Int) (k : Nat) : carillonref07_Check.j3 k x0 x1 x2 x3 x4 x5 x6 x7 x8 x9 x10 x11 x12 x13 x14 x15 x16 x17 x18 x19 x20 x21 x22 y0 y1 y2 y3 y4 y5 y6 y7 y8 y9 y10 y11 y12 y13 y14 y15 y16 y17 y18 y19 y20 y21 y22 b = some (b && ((y0 == x0) && ((y1 == x1) && ((y2 == x2) && ((y3 == x3) && ((y4 == x4) && ((y5 == x5) && ((y6 == x6) && ((y7 == x7) && ((y8 == x8) && ((y9 == x9) && ((y10 == x10) && ((y11 == x11) && ((y12 == x12) && ((y13 == x13) && ((y14 == x14) && ((y15 == x15) && ((y16 == x16) && ((y17 == x17) && ((y18 == x18) && ((y19 == x19) && ((y20 == x20) && ((y21 == x21) && (y22 == x22)))))))))))))))))))))))) := by
  unfold carillonref07_Check.j3
  cases b <;> rfl
theorem rj2 (x0 x1 x2 x3 x4 x5 x6 x7 x8 x9 x10 x11 x12 x13 x14 x15 x16 x17 x18 x19 x20 x21 x22 : Int) (b : Bool) (y0 y1 y2 y3 y4 y5 y6 y7 y8 y9 y10 y11 y12 y13 y14 y15 y16 y17 y18 y19 y20 y21 y22 : Int) (k : Nat) : carillonref07_Check.j2 k x0 x1 x2 x3 x4 x5 x6 x7 x8 x9 x10 x11 x12 x13 x14 x15 x16 x17 x18 x19 x20 x21 x22 y0 y1 y2 y3 y4 y5 y6 y7 y8 y9 y10 y11 y12 y13 y14 y15 y16 y17 y18 y19 y20 y21 y22 b =
    if x0 = 11 then carillonref07_Check.j3 k x0 x1 x2 x3 x4 x5 x6 x7 x8 x9 x10 x11 x12 x13 x14 x15 x16 x17 x18 x19 x20 x21 x22 y0 y1 y2 y3 y4 y5 y6 y7 y8 y9 y10 x11 x12 x13 x14 x15 x16 x17 x18 x19 y20 y21 y22 (b && (within x11 (-32768) 32767 && (within x12 0 255 && (within x16 0 255 && (within x19 0 255 && (Qua.mayQ x13 x14 x15 && within x18 0 65535))))))
    else if x0 = 13 then carillonref07_Check.j3 k x0 x1 x2 x3 x4 x5 x6 x7 x8 x9 x10 x11 x12 x13 x14 x15 x16 x17 x18 x19 x20 x21 x22 y0 y1 y2 y3 y4 y5 y6 y7 y8 y9 y10 y11 y12 y13 y14 y15 y16 y17 y18 y19 x20 x21 x22 (b && (within x20 0 255 && (within x21 0 255 && within x22 0 15))) else carillonref07_Check.j3 k x0 x1 x2 x3 x4 x5 x6 x7 x8 x9 x10 x11 x12 x13 x14 x15 x16 x17 x18 x19 x20 x21 x22 y0 y1 y2 y3 y4 y5 y6 y7 y8 y9 y10 y11 y12 y13 y14 y15 y16 y17 y18 y19 y20 y21 y22 b := by
  unfold carillonref07_Check.j2 carillonref07_Check.j4 carillonref07_Check.j5
  by_cases h1 : x0 = 11
  · rw [if_pos h1, if_pos h1]
    simp only [rIn_of, Qua.rmayQ_of, Option.bind_some]
    cases b <;> cases within x11 (-32768) 32767 <;> cases within x12 0 255 <;> cases within x16 0 255 <;> cases within x19 0 255 <;> cases Qua.mayQ x13 x14 x15 <;> rfl
  · rw [if_neg h1, if_neg h1]
    by_cases h2 : x0 = 13
    · rw [if_pos h2, if_pos h2]
      simp only [rIn_of, Option.bind_some]
      cases b <;> cases within x20 0 255 <;> cases within x21 0 255 <;> rfl
    · rw [if_neg h2, if_neg h2]
theorem rj1 (x0 x1 x2 x3 x4 x5 x6 x7 x8 x9 x10 x11 x12 x13 x14 x15 x16 x17 x18 x19 x20 x21 x22 : Int) (b : Bool) (y0 y1 y2 y3 y4 y5 y6 y7 y8 y9 y10 y11 y12 y13 y14 y15 y16 y17 y18 y19 y20 y21 y22 : Int) (k : Nat) : carillonref07_Check.j1 k x0 x1 x2 x3 x4 x5 x6 x7 x8 x9 x10 x11 x12 x13 x14 x15 x16 x17 x18 x19 x20 x21 x22 y0 y1 y2 y3 y4 y5 y6 y7 y8 y9 y10 y11 y12 y13 y14 y15 y16 y17 y18 y19 y20 y21 y22 b =
    if tgt x0 = true then carillonref07_Check.j2 k x0 x1 x2 x3 x4 x5 x6 x7 x8 x9 x10 x11 x12 x13 x14 x15 x16 x17 x18 x19 x20 x21 x22 y0 y1 y2 y3 y4 y5 y6 y7 y8 x9 x10 y11 y12 y13 y14 y15 y16 y17 y18 y19 y20 y21 y22 (b && within x10 0 65535) else carillonref07_Check.j2 k x0 x1 x2 x3 x4 x5 x6 x7 x8 x9 x10 x11 x12 x13 x14 x15 x16 x17 x18 x19 x20 x21 x22 y0 y1 y2 y3 y4 y5 y6 y7 y8 y9 y10 y11 y12 y13 y14 y15 y16 y17 y18 y19 y20 y21 y22 b := by
  unfold carillonref07_Check.j1
  rw [rtargeted_of, Option.bind_some]
  by_cases h : tgt x0 = true
  · rw [if_pos h, if_pos h]
    simp only [rIdMay_of, Option.bind_some]
    cases b <;> rfl
  · rw [if_neg h, if_neg h]
theorem rbcheck_of (m0 m1 m2 m3 m4 m5 m6 m7 m8 m9 m10 m11 m12 m13 m14 m15 m16 m17 m18 m19 m20 m21 m22 : Int) (k : Nat) : carillonref07_Check.f k m0 m1 m2 m3 m4 m5 m6 m7 m8 m9 m10 m11 m12 m13 m14 m15 m16 m17 m18 m19 m20 m21 m22 = some (bok m0 m1 m2 m3 m4 m5 m6 m7 m8 m9 m10 m11 m12 m13 m14 m15 m16 m17 m18 m19 m20 m21 m22) := by
  unfold carillonref07_Check.f
  rw [rCheck_of, Option.bind_some]
  unfold bok
  cases hk : hok m0 m1 m2 m5 m6 m7 with
  | false => rfl
  | true =>
    rw [if_pos rfl, rstamped_of, Stm.rmay_of]
    simp only [Option.bind_some, rj1, rj2, rj3, Bool.true_and]
    cases h1 : stm m0 <;> cases h2 : tgt m0 <;> by_cases h3 : m0 = 11 <;> by_cases h4 : m0 = 13
    all_goals (try (exfalso; omega))
    all_goals (try simp only [if_pos h3])
    all_goals (try simp only [if_neg h3])
    all_goals (try simp only [if_pos h4])
    all_goals (try simp only [if_neg h4])
    all_goals (simp only [if_true, if_false, Bool.false_eq_true, reduceIte])
    all_goals congr 1
    all_goals rw [Bool.eq_iff_iff]
    all_goals (simp only [Bool.and_eq_true, beq_iff_eq, within, Stm.may, Qua.mayQ, decide_eq_true_eq, s8, s9, sA, sM, h1, h2, if_true, if_false, Bool.false_eq_true, reduceIte])
    all_goals (try simp only [if_pos h3])
    all_goals (try simp only [if_neg h3])
    all_goals (try simp only [if_pos h4])
    all_goals (try simp only [if_neg h4])
    all_goals (simp only [decide_eq_true_eq, true_and, and_true])
    all_goals omega
def btail (t m11 m12 m13 m14 m15 m16 m17 m18 m19 m20 m21 m22 : Int) : List Int :=
  if t = 2 then enc 0 8 ++ enc 0 2 else if t = 11 then enc m11 2 ++ enc 0 1 ++ enc m12 1 ++ enc m13 1 ++ enc m14 1 ++ enc m15 2 ++ enc m16 1 ++ enc m17 8 ++ enc m18 2 ++ enc m19 1 else if t = 13 then enc m20 1 ++ enc m21 1 ++ enc m22 1 ++ enc 0 1 else []
def bbytes (m0 m8 m9 m10 m11 m12 m13 m14 m15 m16 m17 m18 m19 m20 m21 m22 : Int) : List Int := (if stm m0 = true then Stm.encS m8 else []) ++ (if tgt m0 = true then enc m9 8 ++ enc m10 2 else []) ++ btail m0 m11 m12 m13 m14 m15 m16 m17 m18 m19 m20 m21 m22
theorem btail_length (t m11 m12 m13 m14 m15 m16 m17 m18 m19 m20 m21 m22 : Int) : (btail t m11 m12 m13 m14 m15 m16 m17 m18 m19 m20 m21 m22).length = if t = 2 then 10 else if t = 11 then 20 else if t = 13 then 4 else 0 := by
  unfold btail
  split
  · simp [enc_length]
  · split
    · simp [enc_length]
    · split <;> simp [enc_length]
theorem bbytes_length (m0 m8 m9 m10 m11 m12 m13 m14 m15 m16 m17 m18 m19 m20 m21 m22 : Int) (h : kn m0 = true) : ((bbytes m0 m8 m9 m10 m11 m12 m13 m14 m15 m16 m17 m18 m19 m20 m21 m22).length : Int) = blen m0 := by
  have h0 := of_decide_eq_true h
  unfold bbytes
  rw [List.length_append, List.length_append, btail_length]
  have e1 : (if stm m0 = true then Stm.encS m8 else []).length = if stm m0 = true then 10 else 0 := by split <;> simp [Stm.encS_length]
  have e2 : (if tgt m0 = true then enc m9 8 ++ enc m10 2 else []).length = if tgt m0 = true then 10 else 0 := by split <;> simp [enc_length]
  rw [e1, e2]
  have : m0 = 0 ∨ m0 = 1 ∨ m0 = 2 ∨ m0 = 3 ∨ m0 = 8 ∨ m0 = 9 ∨ m0 = 10 ∨ m0 = 11 ∨ m0 = 12 ∨ m0 = 13 := by omega
  rcases this with rfl | rfl | rfl | rfl | rfl | rfl | rfl | rfl | rfl | rfl <;> rfl
theorem bbytes_le (m0 m8 m9 m10 m11 m12 m13 m14 m15 m16 m17 m18 m19 m20 m21 m22 : Int) : (bbytes m0 m8 m9 m10 m11 m12 m13 m14 m15 m16 m17 m18 m19 m20 m21 m22).length ≤ 60 := by
  unfold bbytes
  rw [List.length_append, List.length_append, btail_length]
  have e1 : (if stm m0 = true then Stm.encS m8 else []).length ≤ 10 := by split <;> simp [Stm.encS_length]
  have e2 : (if tgt m0 = true then enc m9 8 ++ enc m10 2 else []).length ≤ 10 := by split <;> simp [enc_length]
  have e3 : (if m0 = 2 then 10 else if m0 = 11 then 20 else if m0 = 13 then 4 else 0) ≤ 20 := by split; omega; split; omega; split <;> omega
  omega
theorem bbytes_by (m0 m8 m9 m10 m11 m12 m13 m14 m15 m16 m17 m18 m19 m20 m21 m22 : Int) : By (bbytes m0 m8 m9 m10 m11 m12 m13 m14 m15 m16 m17 m18 m19 m20 m21 m22) := by
  unfold bbytes btail
  refine By.app (By.app ?_ ?_) ?_
  · split
    · exact Stm.encS_by _
    · exact By.nil
  · split
    · exact (enc_by _ _).app (enc_by _ _)
    · exact By.nil
  · split
    · exact (enc_by _ _).app (enc_by _ _)
    · split
      · exact (((((((((enc_by _ _).app (enc_by _ _)).app (enc_by _ _)).app (enc_by _ _)).app (enc_by _ _)).app (enc_by _ _)).app (enc_by _ _)).app (enc_by _ _)).app (enc_by _ _)).app (enc_by _ _)
      · split
        · exact (((enc_by _ _).app (enc_by _ _)).app (enc_by _ _)).app (enc_by _ _)
        · exact By.nil
theorem bPut_of (l : List Int) (hl : l.length ≤ 140737488355000) (m0 m1 m2 m3 m4 m5 m6 m7 m8 m9 m10 m11 m12 m13 m14 m15 m16 m17 m18 m19 m20 m21 m22 : Int) (K : Nat) : body_Put.f (K + 1) l m0 m1 m2 m3 m4 m5 m6 m7 m8 m9 m10 m11 m12 m13 m14 m15 m16 m17 m18 m19 m20 m21 m22 = some (if bok m0 m1 m2 m3 m4 m5 m6 m7 m8 m9 m10 m11 m12 m13 m14 m15 m16 m17 m18 m19 m20 m21 m22 = true then (l ++ bbytes m0 m8 m9 m10 m11 m12 m13 m14 m15 m16 m17 m18 m19 m20 m21 m22, true) else (l, false)) := by
  unfold body_Put.f
  rw [bcheck_of, Option.bind_some]
  cases hb : bok m0 m1 m2 m3 m4 m5 m6 m7 m8 m9 m10 m11 m12 m13 m14 m15 m16 m17 m18 m19 m20 m21 m22 with
  | false => rfl
  | true =>
    rw [if_pos rfl, if_pos rfl, stamped_of, Option.bind_some]
    have j2 : ∀ (y : List Int), y.length ≤ 140737488355100 → body_Put.j2 (K + 1) m0 m1 m2 m3 m4 m5 m6 m7 m8 m9 m10 m11 m12 m13 m14 m15 m16 m17 m18 m19 m20 m21 m22 y = some (y ++ btail m0 m11 m12 m13 m14 m15 m16 m17 m18 m19 m20 m21 m22, true) := by
      intro y hy
      unfold body_Put.j2 body_Put.j3 btail
      by_cases h1 : m0 = 2
      · rw [if_pos h1, if_pos h1, Idt.idPut_of y 0 0 (by omega), Option.bind_some, List.append_assoc]
      · rw [if_neg h1, if_neg h1]
        by_cases h2 : m0 = 11
        · rw [if_pos h2, if_pos h2, put2 _ _ (by omega), Option.bind_some, put1 _ _ (by simp only [List.length_append, enc_length]; omega), Option.bind_some, put1 _ _ (by simp only [List.length_append, enc_length]; omega), Option.bind_some, Qua.quPut_of _ _ _ _ (by simp only [List.length_append, enc_length]; omega), Option.bind_some, put1 _ _ (by simp only [List.length_append, enc_length]; omega), Option.bind_some, putId_of _ _ (by simp only [List.length_append, enc_length]; omega), Option.bind_some, put2 _ _ (by simp only [List.length_append, enc_length]; omega), Option.bind_some, put1 _ _ (by simp only [List.length_append, enc_length]; omega), Option.bind_some]
          simp only [List.append_assoc]
        · rw [if_neg h2, if_neg h2]
          by_cases h3 : m0 = 13
          · rw [if_pos h3, if_pos h3, put1 _ _ (by omega), Option.bind_some, put1 _ _ (by simp only [List.length_append, enc_length]; omega), Option.bind_some, put1 _ _ (by simp only [List.length_append, enc_length]; omega), Option.bind_some, put1 _ _ (by simp only [List.length_append, enc_length]; omega), Option.bind_some]
            simp only [List.append_assoc]
          · rw [if_neg h3, if_neg h3, List.append_nil]
    have j1 : ∀ (y : List Int), y.length ≤ 140737488355050 → body_Put.j1 (K + 1) m0 m1 m2 m3 m4 m5 m6 m7 m8 m9 m10 m11 m12 m13 m14 m15 m16 m17 m18 m19 m20 m21 m22 y = some (y ++ (if tgt m0 = true then enc m9 8 ++ enc m10 2 else []) ++ btail m0 m11 m12 m13 m14 m15 m16 m17 m18 m19 m20 m21 m22, true) := by
      intro y hy
      unfold body_Put.j1
      rw [targeted_of, Option.bind_some]
      by_cases h1 : tgt m0 = true
      · rw [if_pos h1, if_pos h1, Idt.idPut_of y _ _ (by omega), Option.bind_some, j2 _ (by simp only [List.length_append, enc_length]; omega)]
        simp only [List.append_assoc]
      · rw [if_neg h1, if_neg h1, j2 _ (by omega), List.append_nil]
    unfold bbytes
    by_cases h1 : stm m0 = true
    · rw [if_pos h1, if_pos h1, Stm.stPut_of l m8 (by omega), Option.bind_some, j1 _ (by simp only [List.length_append, Stm.encS_length]; omega)]
      simp only [List.append_assoc]
    · rw [if_neg h1, if_neg h1, j1 _ (by omega), List.nil_append]
      simp only [List.append_assoc]
theorem u8w (v : Int) : [IntKind.u8.wrap v] = enc v 1 := by rw [w8, one_cut]
theorem z10 : List.replicate (10 : Int).toNat (0 : Int) = enc 0 8 ++ enc 0 2 := by decide +kernel
theorem rbPut_of (m0 m1 m2 m3 m4 m5 m6 m7 m8 m9 m10 m11 m12 m13 m14 m15 m16 m17 m18 m19 m20 m21 m22 : Int) (K : Nat) (hK : 8 < K) : carillonref07_Put.f K m0 m1 m2 m3 m4 m5 m6 m7 m8 m9 m10 m11 m12 m13 m14 m15 m16 m17 m18 m19 m20 m21 m22 = some (bbytes m0 m8 m9 m10 m11 m12 m13 m14 m15 m16 m17 m18 m19 m20 m21 m22) := by
  unfold carillonref07_Put.f
  rw [rstamped_of, Option.bind_some]
  have j2 : ∀ y : List Int, y.length ≤ 140737488355100 → carillonref07_Put.j2 K m0 m1 m2 m3 m4 m5 m6 m7 m8 m9 m10 m11 m12 m13 m14 m15 m16 m17 m18 m19 m20 m21 m22 y = some (y ++ btail m0 m11 m12 m13 m14 m15 m16 m17 m18 m19 m20 m21 m22) := by
    intro y hy
    unfold carillonref07_Put.j2 carillonref07_Put.j3 btail
    by_cases h1 : m0 = 2
    · rw [if_pos h1, if_pos h1, if_pos (by simp; omega), z10]
    · rw [if_neg h1, if_neg h1]
      by_cases h2 : m0 = 11
      · rw [if_pos h2, if_pos h2]
        simp only [rput2 _ K hK, Option.bind_some, Qua.rquPut_of _ _ _ K hK, rputId_of _ K hK]
        rw [if_pos (by simp only [enc_length]; omega), if_pos (by simp only [enc_length, List.length_append, List.length_cons, List.length_nil]; omega), if_pos (by simp only [enc_length, List.length_append, List.length_cons, List.length_nil]; omega), if_pos (by simp only [enc_length, List.length_append, List.length_cons, List.length_nil]; omega), if_pos (by simp only [enc_length, List.length_append, List.length_cons, List.length_nil]; omega), if_pos (by simp only [enc_length, List.length_append, List.length_cons, List.length_nil]; omega), if_pos (by simp only [enc_length, List.length_append, List.length_cons, List.length_nil]; omega)]
        rw [show [0, IntKind.u8.wrap m12] = enc 0 1 ++ enc m12 1 by rw [← u8w m12, one_cut]; rfl, u8w, u8w]
        simp only [List.append_assoc]
      · rw [if_neg h2, if_neg h2]
        by_cases h3 : m0 = 13
        · rw [if_pos h3, if_pos h3, if_pos (by simp only [List.length_cons, List.length_nil]; omega), show [IntKind.u8.wrap m20, IntKind.u8.wrap m21, IntKind.u8.wrap m22, 0] = enc m20 1 ++ enc m21 1 ++ enc m22 1 ++ enc 0 1 by rw [← u8w m20, ← u8w m21, ← u8w m22, one_cut 0]; rfl]
        · rw [if_neg h3, if_neg h3, List.append_nil]
  have j1 : ∀ y : List Int, y.length ≤ 140737488355050 → carillonref07_Put.j1 K m0 m1 m2 m3 m4 m5 m6 m7 m8 m9 m10 m11 m12 m13 m14 m15 m16 m17 m18 m19 m20 m21 m22 y = some (y ++ (if tgt m0 = true then enc m9 8 ++ enc m10 2 else []) ++ btail m0 m11 m12 m13 m14 m15 m16 m17 m18 m19 m20 m21 m22) := by
    intro y hy
    unfold carillonref07_Put.j1
    rw [rtargeted_of, Option.bind_some]
    by_cases h1 : tgt m0 = true
    · rw [if_pos h1, if_pos h1, rIdPut_of _ _ K hK, Option.bind_some, if_pos (by simp only [List.length_append, enc_length]; omega), j2 _ (by simp only [List.length_append, enc_length]; omega)]
    · rw [if_neg h1, if_neg h1, j2 _ (by omega), List.append_nil]
  unfold bbytes
  by_cases h1 : stm m0 = true
  · rw [if_pos h1, if_pos h1, Stm.rstPut_of _ K hK, Option.bind_some, if_pos (by rw [Stm.encS_length]; omega), j1 _ (by rw [Stm.encS_length]; omega)]
  · rw [if_neg h1, if_neg h1, j1 _ (by simp)]
def aft (t a : Int) : Int := if tgt t = true then a + 10 else a
def bz (e : Int) : Int × Int × Int × Int × Int × Int × Int × Int × Int × Int × Int × Int × Int × Int × Int × Int × Int × Int × Int × Int × Int × Int × Int × Int × Int := (0, 0, 0, 0, 0, 0, 0, 0, 0, 0, 0, 0, 0, 0, 0, 0, 0, 0, 0, 0, 0, 0, 0, 0, e)
theorem p1 : (256 : Int) ^ 1 = 256 := by decide +kernel
theorem p2 : (256 : Int) ^ 2 = 65536 := by decide +kernel
theorem d1 (v : Int) (h : 0 ≤ v ∧ v ≤ 255) : dec (enc v 1) = v := by rw [dec_enc, p1]; omega
theorem d2 (v : Int) (h : 0 ≤ v ∧ v ≤ 65535) : dec (enc v 2) = v := by rw [dec_enc, p2]; omega
theorem d8 (v : Int) (h : 0 ≤ v ∧ v ≤ 18446744073709551615) : dec (enc v 8) = v := by rw [dec_enc, pow8]; omega
end Go.Proofs.Ytiomlbkakiienaa.Bod
