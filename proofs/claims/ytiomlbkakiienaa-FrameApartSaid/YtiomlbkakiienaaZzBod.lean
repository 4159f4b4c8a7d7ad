/- What bodies answer, in plain words. -/
import Derived.Test.YtiomlbkakiienaaZzPx0
import Derived.Test.YtiomlbkakiienaaZzPx2
import Derived.Test.YtiomlbkakiienaaZzPx3
import Derived.Test.YtiomlbkakiienaaZzPx4
import Derived.Test.YtiomlbkakiienaaZzPx7
import Derived.Test.YtiomlbkakiienaaZzPx9
import Derived.Test.YtiomlbkakiienaaZzHdw
import Derived.Test.YtiomlbkakiienaaZzStm
import Derived.Test.YtiomlbkakiienaaZzQua
set_option linter.unusedVariables false
set_option linter.unusedSimpArgs false
namespace Go.Proofs.Ytiomlbkakiienaa.Bod
open Go.RowKit Go.Proofs.Ytiomlbkakiienaa.P Go.Proofs.Ytiomlbkakiienaa.Lib Go.Proofs.Ytiomlbkakiienaa.Oct Go.Proofs.Ytiomlbkakiienaa.Ref Go.Proofs.Ytiomlbkakiienaa.Hdr Go.Proofs.YtiomlbkakiienaaW.PrintWords Go.Proofs.YtiomlbkakiienaaW.PrintLast Go.Proofs.YtiomlbkakiienaaW.PrintMore
def stm (t : Int) : Bool := decide (t ≠ 12 ∧ t ≠ 13)
def tgt (t : Int) : Bool := decide (t = 9 ∨ t = 3 ∨ t = 10 ∨ t = 12 ∨ t = 13)
def blen (t : Int) : Int := if t = 0 ∨ t = 1 ∨ t = 8 ∨ t = 12 then 10 else if t = 2 ∨ t = 3 ∨ t = 10 ∨ t = 9 then 20 else if t = 11 then 30 else if t = 13 then 14 else 0
theorem blen_range (t : Int) : 0 ≤ blen t ∧ blen t ≤ 30 := by
  unfold blen
  split
  · omega
  · split
    · omega
    · split
      · omega
      · split <;> omega
theorem ite_some {b x : Bool} : (if b = true then some x else some false) = some (b && x) := by cases b <;> rfl
theorem stamped_of (t : Int) : body_stamped.f t = some (stm t) := by
  unfold body_stamped.f stm
  by_cases h : t = 12
  · rw [if_pos h]; congr 1; exact (decide_eq_false (by omega)).symm
  · rw [if_neg h]; congr 1; rw [Bool.eq_iff_iff]; simp only [bne_iff_ne, decide_eq_true_eq]; omega
theorem targeted_of (t : Int) : body_targeted.f t = some (tgt t) := by
  unfold body_targeted.f tgt
  by_cases h1 : t = 9
  · rw [if_pos h1, decide_eq_true (by omega)]
  rw [if_neg h1]
  by_cases h2 : t = 3
  · rw [if_pos h2, decide_eq_true (by omega)]
  rw [if_neg h2]
  by_cases h3 : t = 10
  · rw [if_pos h3, decide_eq_true (by omega)]
  rw [if_neg h3]
  by_cases h4 : t = 12
  · rw [if_pos h4, decide_eq_true (by omega)]
  rw [if_neg h4]
  by_cases h5 : t = 13
  · rw [if_pos h5, decide_eq_true (by omega)]
  rw [if_neg h5, decide_eq_false (by omega)]
theorem len_of (t : Int) (K : Nat) : body_Len.f (K + 2) t = some (blen t) := by
  have j1 : ∀ x b, (b = true ↔ t = 2 ∨ t = 3 ∨ t = 10 ∨ t = 9) → x = t → ¬ (t = 0 ∨ t = 1 ∨ t = 8 ∨ t = 12) → body_Len.j1 (K + 1) x b = some (blen t) := by
    rintro x b hb rfl h
    unfold blen
    rw [body_Len.j1, if_neg h]
    by_cases h2 : x = 2 ∨ x = 3 ∨ x = 10 ∨ x = 9
    · rw [if_pos h2, if_pos (hb.2 h2)]
    · rw [if_neg h2, if_neg (fun e => h2 (hb.1 e))]
      by_cases h3 : x = 11
      · rw [if_pos h3, if_pos h3]
      · rw [if_neg h3, if_neg h3]
        by_cases h4 : x = 13
        · rw [if_pos h4, if_pos h4]
        · rw [if_neg h4, if_neg h4]
  have j0 : ∀ b, (b = true ↔ t = 0 ∨ t = 1 ∨ t = 8 ∨ t = 12) → body_Len.j0 (K + 2) t b = some (blen t) := by
    intro b hb
    rw [body_Len.j0]
    by_cases h : t = 0 ∨ t = 1 ∨ t = 8 ∨ t = 12
    · rw [if_pos (hb.2 h)]
      unfold blen
      rw [if_pos h]
    · rw [if_neg (fun e => h (hb.1 e))]
      by_cases h2 : t = 2
      · rw [if_pos h2]; exact j1 _ _ (by simp only [beq_iff_eq]; omega) rfl h
      rw [if_neg h2]
      by_cases h3 : t = 3
      · rw [if_pos h3]; exact j1 _ _ (by simp only [beq_iff_eq]; omega) rfl h
      rw [if_neg h3]
      by_cases h4 : t = 10
      · rw [if_pos h4]; exact j1 _ _ (by simp only [beq_iff_eq]; omega) rfl h
      rw [if_neg h4]
      exact j1 _ _ (by simp only [beq_iff_eq]; omega) rfl h
  unfold body_Len.f
  by_cases h1 : t = 0
  · rw [if_pos h1]; exact j0 _ (by simp only [beq_iff_eq]; omega)
  rw [if_neg h1]
  by_cases h2 : t = 1
  · rw [if_pos h2]; exact j0 _ (by simp only [beq_iff_eq]; omega)
  rw [if_neg h2]
  by_cases h3 : t = 8
  · rw [if_pos h3]; exact j0 _ (by simp only [beq_iff_eq]; omega)
  rw [if_neg h3]
  exact j0 _ (by simp only [beq_iff_eq]; omega)
theorem bin_of (v a b : Int) : body_in.f v a b = some (within v a b) := by
  unfold body_in.f within
  by_cases h : v ≥ a
  · rw [if_pos h]; congr 1; rw [Bool.eq_iff_iff]; simp only [decide_eq_true_eq]; omega
  · rw [if_neg h]; congr 1; exact (decide_eq_false (by omega)).symm
def s8 (t m8 : Int) : Bool := if stm t = true then within m8 0 4000000000000000 else decide (m8 = 0)
def s9 (t m9 m10 : Int) : Bool := if tgt t = true then within m10 0 65535 else decide (m9 = 0 ∧ m10 = 0)
def sA (t m11 m12 m13 m14 m15 m16 m17 m18 m19 : Int) : Bool := if t = 11 then decide ((-32768 ≤ m11 ∧ m11 ≤ 32767) ∧ (0 ≤ m12 ∧ m12 ≤ 255) ∧ (0 ≤ m16 ∧ m16 ≤ 255) ∧ (0 ≤ m19 ∧ m19 ≤ 255) ∧ (0 ≤ m13 ∧ m13 ≤ 255 ∧ 0 ≤ m14 ∧ m14 ≤ 255 ∧ 0 ≤ m15 ∧ m15 ≤ 65535) ∧ (0 ≤ m18 ∧ m18 ≤ 65535)) else decide (m11 = 0 ∧ m12 = 0 ∧ m13 = 0 ∧ m14 = 0 ∧ m15 = 0 ∧ m16 = 0 ∧ m17 = 0 ∧ m18 = 0 ∧ m19 = 0)
def sM (t m20 m21 m22 : Int) : Bool := if t = 13 then decide ((0 ≤ m20 ∧ m20 ≤ 255) ∧ (0 ≤ m21 ∧ m21 ≤ 255) ∧ (0 ≤ m22 ∧ m22 ≤ 15)) else decide (m20 = 0 ∧ m21 = 0 ∧ m22 = 0)
def bok (m0 m1 m2 m3 m4 m5 m6 m7 m8 m9 m10 m11 m12 m13 m14 m15 m16 m17 m18 m19 m20 m21 m22 : Int) : Bool := hok m0 m1 m2 m5 m6 m7 && (s8 m0 m8 && (s9 m0 m9 m10 && (sA m0 m11 m12 m13 m14 m15 m16 m17 m18 m19 && sM m0 m20 m21 m22)))
theorem own_of (m0 m1 m2 m3 m4 m5 m6 m7 m8 m9 m10 m11 m12 m13 m14 m15 m16 m17 m18 m19 m20 m21 m22 : Int) (k : Nat) : body_own.f k m0 m1 m2 m3 m4 m5 m6 m7 m8 m9 m10 m11 m12 m13 m14 m15 m16 m17 m18 m19 m20 m21 m22 = some (m0, m1, m2, m3, m4, m5, m6, m7, (if stm m0 = true then m8 else 0), (if tgt m0 = true then m9 else 0), (if tgt m0 = true then m10 else 0), (if m0 = 11 then m11 else 0), (if m0 = 11 then m12 else 0), (if m0 = 11 then m13 else 0), (if m0 = 11 then m14 else 0), (if m0 = 11 then m15 else 0), (if m0 = 11 then m16 else 0), (if m0 = 11 then m17 else 0), (if m0 = 11 then m18 else 0), (if m0 = 11 then m19 else 0), (if m0 = 13 then m20 else 0), (if m0 = 13 then m21 else 0), (if m0 = 13 then m22 else 0)) := by
  unfold body_own.f
  rw [stamped_of, Option.bind_some]
  cases h1 : stm m0 <;> cases h2 : tgt m0 <;> by_cases h3 : m0 = 11 <;> by_cases h4 : m0 = 13 <;> first | (exfalso; omega) | (simp only [body_own.j1, body_own.j2, body_own.j3, targeted_of, h2, Option.bind_some, if_pos h3, if_pos h4, if_true, if_false, Bool.false_eq_true, reduceIte]; done) | (simp only [body_own.j1, body_own.j2, body_own.j3, targeted_of, h2, Option.bind_some, if_pos h3, if_neg h4, if_true, if_false, Bool.false_eq_true, reduceIte]; done) | (simp only [body_own.j1, body_own.j2, body_own.j3, targeted_of, h2, Option.bind_some, if_neg h3, if_pos h4, if_true, if_false, Bool.false_eq_true, reduceIte]; done) | (simp only [body_own.j1, body_own.j2, body_own.j3, targeted_of, h2, Option.bind_some, if_neg h3, if_neg h4, if_true, if_false, Bool.false_eq_true, reduceIte]; done)
theorem bcheck_of (m0 m1 m2 m3 m4 m5 m6 m7 m8 m9 m10 m11 m12 m13 m14 m15 m16 m17 m18 m19 m20 m21 m22 : Int) (K : Nat) : body_Check.f (K + 1) m0 m1 m2 m3 m4 m5 m6 m7 m8 m9 m10 m11 m12 m13 m14 m15 m16 m17 m18 m19 m20 m21 m22 = some (bok m0 m1 m2 m3 m4 m5 m6 m7 m8 m9 m10 m11 m12 m13 m14 m15 m16 m17 m18 m19 m20 m21 m22) := by
  unfold body_Check.f
  rw [check_of, Option.bind_some, own_of]
  unfold bok
  cases hk : hok m0 m1 m2 m5 m6 m7 with
  | false => rfl
  | true =>
    rw [if_pos rfl]
    simp only [Option.bind_some, Stm.may_of, idMay_of, bin_of, Qua.mayQ_of, ite_some, beq_self_eq_true, Bool.true_and]
    congr 1
    rw [Bool.eq_iff_iff]
    simp only [Bool.and_eq_true, beq_iff_eq, within, Stm.may, Qua.mayQ, decide_eq_true_eq, s8, s9, sA, sM]
    cases h1 : stm m0 <;> cases h2 : tgt m0 <;> by_cases h3 : m0 = 11 <;> by_cases h4 : m0 = 13
    all_goals (try (exfalso; omega))
    all_goals (try simp only [if_pos h3])
    all_goals (try simp only [if_neg h3])
    all_goals (try simp only [if_pos h4])
    all_goals (try simp only [if_neg h4])
    all_goals (simp only [if_true, if_false, Bool.false_eq_true, reduceIte, decide_eq_true_eq, true_and, and_true])
    all_goals omega
def btail (t m11 m12 m13 m14 m15 m16 m17 m18 m19 m20 m21 m22 : Int) : List Int :=
  if t = 2 then enc 0 8 ++ enc 0 2 else if t = 11 then enc m11 2 ++ enc 0 1 ++ enc m12 1 ++ enc m13 1 ++ enc m14 1 ++ enc m15 2 ++ enc m16 1 ++ enc m17 8 ++ enc m18 2 ++ enc m19 1 else if t = 13 then enc m20 1 ++ enc m21 1 ++ enc m22 1 ++ enc 0 1 else []
def bbytes (m0 m8 m9 m10 m11 m12 m13 m14 m15 m16 m17 m18 m19 m20 m21 m22 : Int) : List Int := (if stm m0 = true then Stm.encS m8 else []) ++ (if tgt m0 = true then enc m9 8 ++ enc m10 2 else []) ++ btail m0 m11 m12 m13 m14 m15 m16 m17 m18 m19 m20 m21 m22
theorem btail_length (t m11 m12 m13 m14 m15 m16 m17 m18 m19 m20 m21 m22 : Int) : (btail t m11 m12 m13 m14 m15 m16 m17 m18 m19 m20 m21 m22).length = if t = 2 then 10 else if t = 11 then 20 else if t = 13 then 4 else 0 := by
  unfold btail
  split
  · simp [enc_length]
  · split
    · simp [enc_length]
    · split <;> simp [enc_length]
theorem bbytes_length (m0 m8 m9 m10 m11 m12 m13 m14 m15 m16 m17 m18 m19 m20 m21 m22 : Int) (h : kn m0 = true) : ((bbytes m0 m8 m9 m10 m11 m12 m13 m14 m15 m16 m17 m18 m19 m20 m21 m22).length : Int) = blen m0 := by
  have h0 := of_decide_eq_true h
  unfold bbytes
  rw [List.length_append, List.length_append, btail_length]
  have e1 : (if stm m0 = true then Stm.encS m8 else []).length = if stm m0 = true then 10 else 0 := by split <;> simp [Stm.encS_length]
  have e2 : (if tgt m0 = true then enc m9 8 ++ enc m10 2 else []).length = if tgt m0 = true then 10 else 0 := by split <;> simp [enc_length]
  rw [e1, e2]
  have : m0 = 0 ∨ m0 = 1 ∨ m0 = 2 ∨ m0 = 3 ∨ m0 = 8 ∨ m0 = 9 ∨ m0 = 10 ∨ m0 = 11 ∨ m0 = 12 ∨ m0 = 13 := by omega
  rcases this with rfl | rfl | rfl | rfl | rfl | rfl | rfl | rfl | rfl | rfl <;> rfl
theorem bbytes_le (m0 m8 m9 m10 m11 m12 m13 m14 m15 m16 m17 m18 m19 m20 m21 m22 : Int) : (bbytes m0 m8 m9 m10 m11 m12 m13 m14 m15 m16 m17 m18 m19 m20 m21 m22).length ≤ 60 := by
  unfold bbytes
  rw [List.length_append, List.length_append, btail_length]
  have e1 : (if stm m0 = true then Stm.encS m8 else []).length ≤ 10 := by split <;> simp [Stm.encS_length]
  have e2 : (if tgt m0 = true then enc m9 8 ++ enc m10 2 else []).length ≤ 10 := by split <;> simp [enc_length]
  have e3 : (if m0 = 2 then 10 else if m0 = 11 then 20 else if m0 = 13 then 4 else 0) ≤ 20 := by split; omega; split; omega; split <;> omega
  omega
theorem bbytes_by (m0 m8 m9 m10 m11 m12 m13 m14 m15 m16 m17 m18 m19 m20 m21 m22 : Int) : By (bbytes m0 m8 m9 m10 m11 m12 m13 m14 m15 m16 m17 m18 m19 m20 m21 m22) := by
  unfold bbytes btail
  refine By.app (By.app ?_ ?_) ?_
  · split
    · exact Stm.encS_by _
    · exact By.nil
  · split
    · exact (enc_by _ _).app (enc_by _ _)
    · exact By.nil
  · split
    · exact (enc_by _ _).app (enc_by _ _)
    · split
      · exact (((((((((enc_by _ _).app (enc_by _ _)).app (enc_by _ _)).app (enc_by _ _)).app (enc_by _ _)).app (enc_by _ _)).app (enc_by _ _)).app (enc_by _ _)).app (enc_by _ _)).app (enc_by _ _)
      · split
        · exact (((enc_by _ _).app (enc_by _ _)).app (enc_by _ _)).app (enc_by _ _)
        · exact By.nil
theorem bPut_of (l : List Int) (hl : l.length ≤ 140737488355000) (m0 m1 m2 m3 m4 m5 m6 m7 m8 m9 m10 m11 m12 m13 m14 m15 m16 m17 m18 m19 m20 m21 m22 : Int) (K : Nat) : body_Put.f (K + 1) l m0 m1 m2 m3 m4 m5 m6 m7 m8 m9 m10 m11 m12 m13 m14 m15 m16 m17 m18 m19 m20 m21 m22 = some (if bok m0 m1 m2 m3 m4 m5 m6 m7 m8 m9 m10 m11 m12 m13 m14 m15 m16 m17 m18 m19 m20 m21 m22 = true then (l ++ bbytes m0 m8 m9 m10 m11 m12 m13 m14 m15 m16 m17 m18 m19 m20 m21 m22, true) else (l, false)) := by
  unfold body_Put.f
  rw [bcheck_of, Option.bind_some]
  cases hb : bok m0 m1 m2 m3 m4 m5 m6 m7 m8 m9 m10 m11 m12 m13 m14 m15 m16 m17 m18 m19 m20 m21 m22 with
  | false => rfl
  | true =>
    rw [if_pos rfl, if_pos rfl, stamped_of, Option.bind_some]
    have j2 : ∀ (y : List Int), y.length ≤ 140737488355100 → body_Put.j2 (K + 1) m0 m1 m2 m3 m4 m5 m6 m7 m8 m9 m10 m11 m12 m13 m14 m15 m16 m17 m18 m19 m20 m21 m22 y = some (y ++ btail m0 m11 m12 m13 m14 m15 m16 m17 m18 m19 m20 m21 m22, true) := by
      intro y hy
      unfold body_Put.j2 body_Put.j3 btail
      by_cases h1 : m0 = 2
      · rw [if_pos h1, if_pos h1, Idt.idPut_of y 0 0 (by omega), Option.bind_some, List.append_assoc]
      · rw [if_neg h1, if_neg h1]
        by_cases h2 : m0 = 11
        · rw [if_pos h2, if_pos h2, put2 _ _ (by omega), Option.bind_some, put1 _ _ (by simp only [List.length_append, enc_length]; omega), Option.bind_some, put1 _ _ (by simp only [List.length_append, enc_length]; omega), Option.bind_some, Qua.quPut_of _ _ _ _ (by simp only [List.length_append, enc_length]; omega), Option.bind_some, put1 _ _ (by simp only [List.length_append, enc_length]; omega), Option.bind_some, putId_of _ _ (by simp only [List.length_append, enc_length]; omega), Option.bind_some, put2 _ _ (by simp only [List.length_append, enc_length]; omega), Option.bind_some, put1 _ _ (by simp only [List.length_append, enc_length]; omega), Option.bind_some]
          simp only [List.append_assoc]
        · rw [if_neg h2, if_neg h2]
          by_cases h3 : m0 = 13
          · rw [if_pos h3, if_pos h3, put1 _ _ (by omega), Option.bind_some, put1 _ _ (by simp only [List.length_append, enc_length]; omega), Option.bind_some, put1 _ _ (by simp only [List.length_append, enc_length]; omega), Option.bind_some, put1 _ _ (by simp only [List.length_append, enc_length]; omega), Option.bind_some]
            simp only [List.append_assoc]
          · rw [if_neg h3, if_neg h3, List.append_nil]
    have j1 : ∀ (y : List Int), y.length ≤ 140737488355050 → body_Put.j1 (K + 1) m0 m1 m2 m3 m4 m5 m6 m7 m8 m9 m10 m11 m12 m13 m14 m15 m16 m17 m18 m19 m20 m21 m22 y = some (y ++ (if tgt m0 = true then enc m9 8 ++ enc m10 2 else []) ++ btail m0 m11 m12 m13 m14 m15 m16 m17 m18 m19 m20 m21 m22, true) := by
      intro y hy
      unfold body_Put.j1
      rw [targeted_of, Option.bind_some]
      by_cases h1 : tgt m0 = true
      · rw [if_pos h1, if_pos h1, Idt.idPut_of y _ _ (by omega), Option.bind_some, j2 _ (by simp only [List.length_append, enc_length]; omega)]
        simp only [List.append_assoc]
      · rw [if_neg h1, if_neg h1, j2 _ (by omega), List.append_nil]
    unfold bbytes
    by_cases h1 : stm m0 = true
    · rw [if_pos h1, if_pos h1, Stm.stPut_of l m8 (by omega), Option.bind_some, j1 _ (by simp only [List.length_append, Stm.encS_length]; omega)]
      simp only [List.append_assoc]
    · rw [if_neg h1, if_neg h1, j1 _ (by omega), List.nil_append]
      simp only [List.append_assoc]
/-! ### Reading -/
theorem rd_dec {l : List Int} {a : Int} (h : has l a 1) : dec (cut l a 1) = rd l a := by
  have hL := cut_length h
  match hc : cut l a 1, hL with
  | [x], _ =>
    rw [rd_one h hc]
    simp [dec]
def pick11 (t : Int) (x y : Int) : Int := if t = 11 then x else y
def pick13 (t : Int) (x y : Int) : Int := if t = 13 then x else y
def pickT (t : Int) (x y : Int) : Int := if tgt t = true then x else y
def aft (t a : Int) : Int := if tgt t = true then a + 10 else a
def brest (l : List Int) (a e m0 m1 m2 m3 m4 m5 m6 m7 m8 m9 m10 m11 m12 m13 m14 m15 m16 m17 m18 m19 m20 m21 m22 : Int) : Int × Int × Int × Int × Int × Int × Int × Int × Int × Int × Int × Int × Int × Int × Int × Int × Int × Int × Int × Int × Int × Int × Int × Int × Int :=
  (m0, m1, m2, m3, m4, m5, m6, m7, m8, pickT m0 (dec (cut l a 8)) m9, pickT m0 (dec (cut l (a + 8) 2)) m10, pick11 m0 (sgn 2 (dec (cut l (aft m0 a) 2))) m11, pick11 m0 (dec (cut l (aft m0 a + 3) 1)) m12, pick11 m0 (dec (cut l (aft m0 a + 4) 1)) m13, pick11 m0 (dec (cut l (aft m0 a + 5) 1)) m14, pick11 m0 (dec (cut l (aft m0 a + 6) 2)) m15, pick11 m0 (dec (cut l (aft m0 a + 8) 1)) m16, pick11 m0 (dec (cut l (aft m0 a + 9) 8)) m17, pick11 m0 (dec (cut l (aft m0 a + 17) 2)) m18, pick11 m0 (dec (cut l (aft m0 a + 19) 1)) m19, pick13 m0 (dec (cut l (aft m0 a) 1)) m20, pick13 m0 (dec (cut l (aft m0 a + 1) 1)) m21, pick13 m0 (dec (cut l (aft m0 a + 2) 1) % 16) m22, e, 0)
def bz (e : Int) : Int × Int × Int × Int × Int × Int × Int × Int × Int × Int × Int × Int × Int × Int × Int × Int × Int × Int × Int × Int × Int × Int × Int × Int × Int := (0, 0, 0, 0, 0, 0, 0, 0, 0, 0, 0, 0, 0, 0, 0, 0, 0, 0, 0, 0, 0, 0, 0, 0, e)
def bget (l : List Int) (a m0 m1 m2 m3 m4 m5 m6 m7 m8 m9 m10 m11 m12 m13 m14 m15 m16 m17 m18 m19 m20 m21 m22 : Int) : Int × Int × Int × Int × Int × Int × Int × Int × Int × Int × Int × Int × Int × Int × Int × Int × Int × Int × Int × Int × Int × Int × Int × Int × Int :=
  if has l a (blen m0) then (if kn m0 = true ∧ stm m0 = true then (if (Stm.stampAt l a).2 = true then brest l (a + 10) (a + blen m0) m0 m1 m2 m3 m4 m5 m6 m7 (Stm.stampAt l a).1 m9 m10 m11 m12 m13 m14 m15 m16 m17 m18 m19 m20 m21 m22 else bz 10) else brest l a (a + blen m0) m0 m1 m2 m3 m4 m5 m6 m7 m8 m9 m10 m11 m12 m13 m14 m15 m16 m17 m18 m19 m20 m21 m22) else bz 2
theorem kinds (t : Int) : (t = 11 ∧ kn t = true ∧ stm t = true ∧ tgt t = false ∧ blen t = 30) ∨ (t = 13 ∧ kn t = true ∧ stm t = false ∧ tgt t = true ∧ blen t = 14) ∨ (t ≠ 11 ∧ t ≠ 13 ∧ kn t = true ∧ stm t = true ∧ tgt t = true ∧ blen t = 20) ∨ (t ≠ 11 ∧ t ≠ 13 ∧ kn t = true ∧ stm t = true ∧ tgt t = false ∧ 10 ≤ blen t) ∨ (t ≠ 11 ∧ t ≠ 13 ∧ kn t = true ∧ stm t = false ∧ tgt t = true ∧ blen t = 10) ∨ (t ≠ 11 ∧ t ≠ 13 ∧ kn t = false ∧ stm t = true ∧ tgt t = false ∧ blen t = 0) := by
  by_cases h : 0 ≤ t ∧ t ≤ 13
  · have : t = 0 ∨ t = 1 ∨ t = 2 ∨ t = 3 ∨ t = 4 ∨ t = 5 ∨ t = 6 ∨ t = 7 ∨ t = 8 ∨ t = 9 ∨ t = 10 ∨ t = 11 ∨ t = 12 ∨ t = 13 := by omega
    rcases this with rfl | rfl | rfl | rfl | rfl | rfl | rfl | rfl | rfl | rfl | rfl | rfl | rfl | rfl <;> decide
  · refine .inr (.inr (.inr (.inr (.inr ⟨by omega, by omega, decide_eq_false (by omega), decide_eq_true (by omega), decide_eq_false (by omega), ?_⟩))))
    unfold blen
    rw [if_neg (by omega), if_neg (by omega), if_neg (by omega), if_neg (by omega)]
section
variable (l : List Int) (hb : By l) (hl : l.length ≤ 4611686018427387904) (m0 m1 m2 m3 m4 m5 m6 m7 m8 m9 m10 m11 m12 m13 m14 m15 m16 m17 m18 m19 m20 m21 m22 : Int) (z0 z1 z2 z3 z4 z5 z6 z7 z8 z9 z10 z11 z12 z13 z14 z15 z16 z17 z18 z19 z20 z21 z22 : Int) (fr n : Int) (K : Nat) (hK : 9 < K)
include hb hl hK
theorem gj3 (a : Int) (h11 : m0 = 11 → has l a 20) (h13 : m0 = 13 → has l a 4) : body_Get.j3 (K + 1) l a m0 m1 m2 m3 m4 m5 m6 m7 m8 m9 m10 m11 m12 m13 m14 m15 m16 m17 m18 m19 m20 m21 m22 z0 z1 z2 z3 z4 z5 z6 z7 z8 z9 z10 z11 z12 z13 z14 z15 z16 z17 z18 z19 z20 z21 z22 fr n =
    some (m0, m1, m2, m3, m4, m5, m6, m7, m8, m9, m10, pick11 m0 (sgn 2 (dec (cut l a 2))) m11, pick11 m0 (dec (cut l (a + 3) 1)) m12, pick11 m0 (dec (cut l (a + 4) 1)) m13, pick11 m0 (dec (cut l (a + 5) 1)) m14, pick11 m0 (dec (cut l (a + 6) 2)) m15, pick11 m0 (dec (cut l (a + 8) 1)) m16, pick11 m0 (dec (cut l (a + 9) 8)) m17, pick11 m0 (dec (cut l (a + 17) 2)) m18, pick11 m0 (dec (cut l (a + 19) 1)) m19, pick13 m0 (dec (cut l a 1)) m20, pick13 m0 (dec (cut l (a + 1) 1)) m21, pick13 m0 (dec (cut l (a + 2) 1) % 16) m22, wrap64 (fr + n), 0) := by
  unfold body_Get.j3 body_Get.j4
  unfold pick11 pick13
  by_cases h1 : m0 = 11
  · have h := h11 h1
    have h0 := h
    unfold has at h0
    have w3 : wrap64 (a + 3) = a + 3 := w64 _ (by omega) (by omega)
    have w4 : wrap64 (a + 4) = a + 4 := w64 _ (by omega) (by omega)
    have w8_ : wrap64 (a + 8) = a + 8 := w64 _ (by omega) (by omega)
    have w9 : wrap64 (a + 9) = a + 9 := w64 _ (by omega) (by omega)
    have w17 : wrap64 (a + 17) = a + 17 := w64 _ (by omega) (by omega)
    have w19 : wrap64 (a + 19) = a + 19 := w64 _ (by omega) (by omega)
    have hh : ∀ i m : Int, 0 ≤ i → 0 ≤ m → i + m ≤ 20 → has l (a + i) m := fun i m q1 q2 q3 => ⟨q2, by omega, by omega⟩
    have hq : has l a 2 := by have := hh 0 2 (by omega) (by omega) (by omega); rwa [Int.add_zero] at this
    rw [if_pos h1, w3, w4, w8_, w9, w17, w19, signed_yes l hb hl a 2 hq (by omega) (by omega) (K + 1) (by omega), get_yes l hb hl (a + 3) 1 (hh 3 1 (by omega) (by omega) (by omega)) (by omega) (by omega) (K + 1) (by omega), Qua.quGet_of l hb hl (a + 4) (by omega) K (by omega), get_yes l hb hl (a + 8) 1 (hh 8 1 (by omega) (by omega) (by omega)) (by omega) (by omega) (K + 1) (by omega), getId_of l hb hl (a + 9) (by omega) (K + 1) (by omega), get_yes l hb hl (a + 17) 2 (hh 17 2 (by omega) (by omega) (by omega)) (by omega) (by omega) (K + 1) (by omega), get_yes l hb hl (a + 19) 1 (hh 19 1 (by omega) (by omega) (by omega)) (by omega) (by omega) (K + 1) (by omega)]
    unfold Qua.quAt
    rw [if_pos (hh 4 4 (by omega) (by omega) (by omega)), if_pos (hh 9 8 (by omega) (by omega) (by omega))]
    simp only [Option.bind_some, if_pos h1, show ¬ m0 = 13 by omega, if_false]
    rw [show a + 4 + 1 = a + 5 by omega, show a + 4 + 2 = a + 6 by omega]
    rfl
  · rw [if_neg h1]
    by_cases h2 : m0 = 13
    · have h := h13 h2
      have h0 := h
      unfold has at h0
      have w1 : wrap64 (a + 1) = a + 1 := w64 _ (by omega) (by omega)
      have w2 : wrap64 (a + 2) = a + 2 := w64 _ (by omega) (by omega)
      have hh : ∀ i : Int, 0 ≤ i → i ≤ 3 → has l (a + i) 1 := fun i q1 q2 => ⟨by omega, by omega, by omega⟩
      have hq : has l a 1 := ⟨by omega, by omega, by omega⟩
      have r0 := rd_by hb a (by omega) (by omega)
      have r1 := rd_by hb (a + 1) (by omega) (by omega)
      have r2 := rd_by hb (a + 2) (by omega) (by omega)
      rw [if_pos h2, if_pos (by omega), if_pos (by omega), w1, if_pos (by omega), if_pos (by omega), w2, if_pos (by omega), if_pos (by omega), and15_of _ r2, w64 (rd l a) (by omega) (by omega), w64 (rd l (a + 1)) (by omega) (by omega), w64 (rd l (a + 2) % 16) (by omega) (by omega)]
      rw [rd_dec hq, rd_dec (hh 1 (by omega) (by omega)), rd_dec (hh 2 (by omega) (by omega))]
      simp only [if_neg h1, if_pos h2]
    · rw [if_neg h2]
      simp only [if_neg h1, if_neg h2]
theorem gj1 (a : Int) (ha : 0 ≤ a) (hT : tgt m0 = true → has l a 10) (h11 : m0 = 11 → has l (aft m0 a) 20) (h13 : m0 = 13 → has l (aft m0 a) 4) (h64 : a ≤ 9223372036854775000) (hf : wrap64 (fr + n) = fr + n) : body_Get.j1 (K + 1) l a m0 m1 m2 m3 m4 m5 m6 m7 m8 m9 m10 m11 m12 m13 m14 m15 m16 m17 m18 m19 m20 m21 m22 z0 z1 z2 z3 z4 z5 z6 z7 z8 z9 z10 z11 z12 z13 z14 z15 z16 z17 z18 z19 z20 z21 z22 fr n = some (brest l a (fr + n) m0 m1 m2 m3 m4 m5 m6 m7 m8 m9 m10 m11 m12 m13 m14 m15 m16 m17 m18 m19 m20 m21 m22) := by
  unfold body_Get.j1 brest pickT
  rw [targeted_of, Option.bind_some]
  cases h1 : tgt m0 with
  | true =>
    have e : aft m0 a = a + 10 := by unfold aft; rw [if_pos h1]
    rw [e] at h11 h13 ⊢
    rw [if_pos rfl, Idt.idGet_of l hb hl a (by omega) K (by omega), if_pos (hT h1), Option.bind_some, w64 _ (by omega) (by omega), gj3 l hb hl _ _ _ _ _ _ _ _ _ _ _ _ _ _ _ _ _ _ _ _ _ _ _ _ _ _ _ _ _ _ _ _ _ _ _ _ _ _ _ _ _ _ _ _ _ _ _ _ K hK (a + 10) h11 h13, hf]
    rfl
  | false =>
    have e : aft m0 a = a := by unfold aft; rw [if_neg (by rw [h1]; simp)]
    rw [e] at h11 h13 ⊢
    rw [if_neg Bool.false_ne_true, gj3 l hb hl _ _ _ _ _ _ _ _ _ _ _ _ _ _ _ _ _ _ _ _ _ _ _ _ _ _ _ _ _ _ _ _ _ _ _ _ _ _ _ _ _ _ _ _ _ _ _ _ K hK a h11 h13, hf]
    rfl
theorem gj2 (a : Int) (ha : 0 ≤ a) (hT : tgt m0 = true → has l (a + 10) 10) (h11 : m0 = 11 → has l (aft m0 (a + 10)) 20) (h13 : m0 = 13 → has l (aft m0 (a + 10)) 4) (h64 : a ≤ 9223372036854775000) (hf : wrap64 (fr + n) = fr + n) : body_Get.j2 (K + 1) l a m0 m1 m2 m3 m4 m5 m6 m7 m8 m9 m10 m11 m12 m13 m14 m15 m16 m17 m18 m19 m20 m21 m22 z0 z1 z2 z3 z4 z5 z6 z7 z8 z9 z10 z11 z12 z13 z14 z15 z16 z17 z18 z19 z20 z21 z22 fr n =
    some (if (Stm.stampAt l a).2 = true then brest l (a + 10) (fr + n) m0 m1 m2 m3 m4 m5 m6 m7 (Stm.stampAt l a).1 m9 m10 m11 m12 m13 m14 m15 m16 m17 m18 m19 m20 m21 m22 else bz 10) := by
  unfold body_Get.j2
  rw [Stm.stGet_of l hb hl a (by omega) K (by omega), Option.bind_some]
  cases hs : (Stm.stampAt l a).2 with
  | false => rfl
  | true =>
    rw [if_pos rfl, if_pos rfl, targeted_of, Option.bind_some, w64 (a + 10) (by omega) (by omega)]
    unfold brest pickT
    cases h1 : tgt m0 with
    | true =>
      have e : aft m0 (a + 10) = a + 10 + 10 := by unfold aft; rw [if_pos h1]
      rw [e] at h11 h13 ⊢
      rw [if_pos rfl, Idt.idGet_of l hb hl (a + 10) (by omega) K (by omega), if_pos (hT h1), Option.bind_some, w64 _ (by omega) (by omega), gj3 l hb hl _ _ _ _ _ _ _ _ _ _ _ _ _ _ _ _ _ _ _ _ _ _ _ _ _ _ _ _ _ _ _ _ _ _ _ _ _ _ _ _ _ _ _ _ _ _ _ _ K hK (a + 10 + 10) h11 h13, hf]
      rfl
    | false =>
      have e : aft m0 (a + 10) = a + 10 := by unfold aft; rw [if_neg (by rw [h1]; simp)]
      rw [e] at h11 h13 ⊢
      rw [if_neg Bool.false_ne_true, gj3 l hb hl _ _ _ _ _ _ _ _ _ _ _ _ _ _ _ _ _ _ _ _ _ _ _ _ _ _ _ _ _ _ _ _ _ _ _ _ _ _ _ _ _ _ _ _ _ _ _ _ K hK (a + 10) h11 h13, hf]
      rfl
end
theorem bGet_of (l : List Int) (hb : By l) (hl : l.length ≤ 4611686018427387904) (m0 m1 m2 m3 m4 m5 m6 m7 m8 m9 m10 m11 m12 m13 m14 m15 m16 m17 m18 m19 m20 m21 m22 a : Int) (ha : -9223372036854775808 ≤ a ∧ a ≤ 9223372036854775807) (K : Nat) (hK : 9 < K) : body_Get.f (K + 2) m0 m1 m2 m3 m4 m5 m6 m7 m8 m9 m10 m11 m12 m13 m14 m15 m16 m17 m18 m19 m20 m21 m22 l a = some (bget l a m0 m1 m2 m3 m4 m5 m6 m7 m8 m9 m10 m11 m12 m13 m14 m15 m16 m17 m18 m19 m20 m21 m22) := by
  have hbl := blen_range m0
  unfold body_Get.f bget
  rw [len_of, Option.bind_some]
  by_cases h1 : a < 0
  · rw [if_pos h1, if_neg (fun h => by have := h.2.1; omega)]
    rfl
  rw [if_neg h1]
  by_cases h2 : a > (l.length : Int)
  · rw [if_pos h2, if_neg (fun h => by have := h.2.2; omega)]
    rfl
  rw [if_neg h2, w64 ((l.length : Int) - a) (by omega) (by omega)]
  by_cases h3 : (l.length : Int) - a < blen m0
  · rw [if_pos h3, if_neg (fun h => by have := h.2.2; omega)]
    rfl
  have hf : wrap64 (a + blen m0) = a + blen m0 := w64 _ (by omega) (by omega)
  rw [if_neg h3, if_pos (show has l a (blen m0) from ⟨by omega, by omega, by omega⟩)]
  have sub : ∀ i m : Int, 0 ≤ i → 0 ≤ m → i + m ≤ blen m0 → has l (a + i) m := fun i m q1 q2 q3 => ⟨q2, by omega, by omega⟩
  have sub0 : ∀ m : Int, 0 ≤ m → m ≤ blen m0 → has l a m := fun m q1 q2 => ⟨q1, by omega, by omega⟩
  rcases kinds m0 with ⟨k0, k1, k2, k3, k4⟩ | ⟨k0, k1, k2, k3, k4⟩ | ⟨k0, k9, k1, k2, k3, k4⟩ | ⟨k0, k9, k1, k2, k3, k4⟩ | ⟨k0, k9, k1, k2, k3, k4⟩ | ⟨k0, k9, k1, k2, k3, k4⟩
  · have e : aft m0 (a + 10) = a + 10 := by unfold aft; rw [k3]; rfl
    rw [if_neg (by omega), stamped_of, Option.bind_some, k2, if_pos rfl, if_pos ⟨k1, rfl⟩, gj2 l hb hl m0 m1 m2 m3 m4 m5 m6 m7 m8 m9 m10 m11 m12 m13 m14 m15 m16 m17 m18 m19 m20 m21 m22 0 0 0 0 0 0 0 0 0 0 0 0 0 0 0 0 0 0 0 0 0 0 0 a (blen m0) (K + 1) (by omega) a (by omega) (fun h => by rw [k3] at h; cases h) (fun _ => by rw [e]; exact sub 10 20 (by omega) (by omega) (by omega)) (fun h => by omega) (by omega) hf]
  · have e : aft m0 a = a + 10 := by unfold aft; rw [k3]; rfl
    rw [if_neg (by omega), stamped_of, Option.bind_some, k2, if_neg (by simp), if_neg (by simp), gj1 l hb hl m0 m1 m2 m3 m4 m5 m6 m7 m8 m9 m10 m11 m12 m13 m14 m15 m16 m17 m18 m19 m20 m21 m22 0 0 0 0 0 0 0 0 0 0 0 0 0 0 0 0 0 0 0 0 0 0 0 a (blen m0) (K + 1) (by omega) a (by omega) (fun _ => sub0 10 (by omega) (by omega)) (fun h => by omega) (fun _ => by rw [e]; exact sub 10 4 (by omega) (by omega) (by omega)) (by omega) hf]
  · rw [if_neg (by omega), stamped_of, Option.bind_some, k2, if_pos rfl, if_pos ⟨k1, rfl⟩, gj2 l hb hl m0 m1 m2 m3 m4 m5 m6 m7 m8 m9 m10 m11 m12 m13 m14 m15 m16 m17 m18 m19 m20 m21 m22 0 0 0 0 0 0 0 0 0 0 0 0 0 0 0 0 0 0 0 0 0 0 0 a (blen m0) (K + 1) (by omega) a (by omega) (fun _ => sub 10 10 (by omega) (by omega) (by omega)) (fun h => absurd h k0) (fun h => absurd h k9) (by omega) hf]
  · rw [if_neg (by omega), stamped_of, Option.bind_some, k2, if_pos rfl, if_pos ⟨k1, rfl⟩, gj2 l hb hl m0 m1 m2 m3 m4 m5 m6 m7 m8 m9 m10 m11 m12 m13 m14 m15 m16 m17 m18 m19 m20 m21 m22 0 0 0 0 0 0 0 0 0 0 0 0 0 0 0 0 0 0 0 0 0 0 0 a (blen m0) (K + 1) (by omega) a (by omega) (fun h => by rw [k3] at h; cases h) (fun h => absurd h k0) (fun h => absurd h k9) (by omega) hf]
  · rw [if_neg (by omega), stamped_of, Option.bind_some, k2, if_neg (by simp), if_neg (by simp), gj1 l hb hl m0 m1 m2 m3 m4 m5 m6 m7 m8 m9 m10 m11 m12 m13 m14 m15 m16 m17 m18 m19 m20 m21 m22 0 0 0 0 0 0 0 0 0 0 0 0 0 0 0 0 0 0 0 0 0 0 0 a (blen m0) (K + 1) (by omega) a (by omega) (fun _ => sub0 10 (by omega) (by omega)) (fun h => absurd h k0) (fun h => absurd h k9) (by omega) hf]
  · rw [if_pos k4, if_neg (by rw [k1]; simp), gj1 l hb hl m0 m1 m2 m3 m4 m5 m6 m7 m8 m9 m10 m11 m12 m13 m14 m15 m16 m17 m18 m19 m20 m21 m22 0 0 0 0 0 0 0 0 0 0 0 0 0 0 0 0 0 0 0 0 0 0 0 a (blen m0) (K + 1) (by omega) a (by omega) (fun h => by rw [k3] at h; cases h) (fun h => absurd h k0) (fun h => absurd h k9) (by omega) hf]
/-! ### What is put is got -/
theorem cut_in (p s q : List Int) (a i n : Int) (ha : a = p.length + i) (h0 : 0 ≤ i) (hn : 0 ≤ n) (h : i + n ≤ (s.length : Int)) : cut (p ++ s ++ q) a n = cut s i n := by
  subst ha
  rw [cut_eq _ _ _ (by omega) hn, cut_eq _ _ _ h0 hn, List.append_assoc, List.drop_append, List.drop_eq_nil_of_le (by omega), List.nil_append, show ((p.length : Int) + i).toNat - p.length = i.toNat by omega, List.drop_append_of_le_length (by omega), List.take_append_of_le_length (by rw [List.length_drop]; omega)]
theorem p1 : (256 : Int) ^ 1 = 256 := by decide +kernel
theorem p2 : (256 : Int) ^ 2 = 65536 := by decide +kernel
theorem d1 (v : Int) (h : 0 ≤ v ∧ v ≤ 255) : dec (enc v 1) = v := by rw [dec_enc, p1]; omega
theorem d2 (v : Int) (h : 0 ≤ v ∧ v ≤ 65535) : dec (enc v 2) = v := by rw [dec_enc, p2]; omega
theorem d8 (v : Int) (h : 0 ≤ v ∧ v ≤ 18446744073709551615) : dec (enc v 8) = v := by rw [dec_enc, pow8]; omega
theorem sg2 (v : Int) (h : -32768 ≤ v ∧ v ≤ 32767) : sgn 2 (dec (enc v 2)) = v := by
  rw [dec_enc]
  unfold sgn
  rw [p2]
  split <;> omega
theorem stamp_at (p s q : List Int) (t a : Int) (ha : a = p.length) (ht : 0 ≤ t ∧ t ≤ 4000000000000000) : Stm.stampAt (p ++ (Stm.encS t ++ s) ++ q) a = (t, true) := by
  have := Stm.stampAt_enc p (s ++ q) t a ha
  rw [show p ++ (Stm.encS t ++ s) ++ q = p ++ Stm.encS t ++ (s ++ q) by simp only [List.append_assoc], this]
  unfold Stm.asS
  rw [if_pos ht]
theorem bget_back (p q : List Int) (m0 m1 m2 m3 m4 m5 m6 m7 m8 m9 m10 m11 m12 m13 m14 m15 m16 m17 m18 m19 m20 m21 m22 h1 h2 h3 h4 h5 h6 h7 : Int) (h : bok m0 m1 m2 m3 m4 m5 m6 m7 m8 m9 m10 m11 m12 m13 m14 m15 m16 m17 m18 m19 m20 m21 m22 = true) (h9 : 0 ≤ m9 ∧ m9 ≤ 18446744073709551615) (h17 : 0 ≤ m17 ∧ m17 ≤ 18446744073709551615) :
    bget (p ++ bbytes m0 m8 m9 m10 m11 m12 m13 m14 m15 m16 m17 m18 m19 m20 m21 m22 ++ q) p.length m0 h1 h2 h3 h4 h5 h6 h7 0 0 0 0 0 0 0 0 0 0 0 0 0 0 0 = (m0, h1, h2, h3, h4, h5, h6, h7, m8, m9, m10, m11, m12, m13, m14, m15, m16, m17, m18, m19, m20, m21, m22, p.length + blen m0, 0) := by
  unfold bok at h
  simp only [Bool.and_eq_true] at h
  obtain ⟨hk, g8, g9, gA, gM⟩ := h
  have hkn : kn m0 = true := by unfold hok at hk; exact (Bool.and_eq_true_iff.1 hk).1
  have hlen := bbytes_length m0 m8 m9 m10 m11 m12 m13 m14 m15 m16 m17 m18 m19 m20 m21 m22 hkn
  have hbl := blen_range m0
  unfold bget
  rw [if_pos ⟨by omega, by omega, by simp only [List.length_append]; omega⟩]
  unfold s8 at g8
  unfold s9 at g9
  unfold sA at gA
  unfold sM at gM
  unfold brest pickT pick11 pick13 aft
  unfold bbytes btail at hlen ⊢
  rcases kinds m0 with ⟨k0, k1, k2, k3, k4⟩ | ⟨k0, k1, k2, k3, k4⟩ | ⟨k0, k9, k1, k2, k3, k4⟩ | ⟨k0, k9, k1, k2, k3, k4⟩ | ⟨k0, k9, k1, k2, k3, k4⟩ | ⟨k0, k9, k1, k2, k3, k4⟩
  · have k5 : ¬ m0 = 2 := by omega
    have k6 : ¬ m0 = 13 := by omega
    rw [k2, if_pos rfl] at g8
    rw [k3, if_neg (by simp)] at g9
    rw [if_pos k0] at gA
    rw [if_neg k6] at gM
    have e8 := of_decide_eq_true g8
    have e9 := of_decide_eq_true g9
    have eA := of_decide_eq_true gA
    have eM := of_decide_eq_true gM
    simp only [k2, k3, if_neg k5, if_pos k0, if_neg k6, if_true, if_false, Bool.false_eq_true, reduceIte, k1, and_self, List.append_nil]
    obtain ⟨s, hs⟩ : ∃ s, s = enc m11 2 ++ enc 0 1 ++ enc m12 1 ++ enc m13 1 ++ enc m14 1 ++ enc m15 2 ++ enc m16 1 ++ enc m17 8 ++ enc m18 2 ++ enc m19 1 := ⟨_, rfl⟩
    have hL : s.length = 20 := by rw [hs]; simp only [List.length_append, enc_length]
    rw [← hs, stamp_at p s q m8 p.length rfl e8, if_pos rfl]
    have c : ∀ i n : Int, 0 ≤ i → 0 ≤ n → i + n ≤ 20 → cut (p ++ (Stm.encS m8 ++ s) ++ q) (p.length + 10 + i) n = cut s i n := fun i n q1 q2 q3 => by
      have := cut_in (p ++ Stm.encS m8) s q (p.length + 10 + i) i n (by rw [List.length_append, Stm.encS_length]; omega) q1 q2 (by omega)
      rwa [List.append_assoc p] at this
    have c0 : cut (p ++ (Stm.encS m8 ++ s) ++ q) (p.length + 10) 2 = cut s 0 2 := by have := c 0 2 (by omega) (by omega) (by omega); rwa [Int.add_zero] at this
    rw [c0, c 3 1 (by omega) (by omega) (by omega), c 4 1 (by omega) (by omega) (by omega), c 5 1 (by omega) (by omega) (by omega), c 6 2 (by omega) (by omega) (by omega), c 8 1 (by omega) (by omega) (by omega), c 9 8 (by omega) (by omega) (by omega), c 17 2 (by omega) (by omega) (by omega), c 19 1 (by omega) (by omega) (by omega)]
    have v0 : cut s 0 2 = enc m11 2 := by
      have := cut_app [] (enc m11 2) (enc 0 1 ++ enc m12 1 ++ enc m13 1 ++ enc m14 1 ++ enc m15 2 ++ enc m16 1 ++ enc m17 8 ++ enc m18 2 ++ enc m19 1) 0 2 rfl (by simp [enc_length])
      rw [hs]; simpa only [List.append_assoc, List.nil_append] using this
    have v3 : cut s 3 1 = enc m12 1 := by
      have := cut_app (enc m11 2 ++ enc 0 1) (enc m12 1) (enc m13 1 ++ enc m14 1 ++ enc m15 2 ++ enc m16 1 ++ enc m17 8 ++ enc m18 2 ++ enc m19 1) 3 1 (by simp [enc_length]) (by simp [enc_length])
      rw [hs]; simpa only [List.append_assoc] using this
    have v4 : cut s 4 1 = enc m13 1 := by
      have := cut_app (enc m11 2 ++ enc 0 1 ++ enc m12 1) (enc m13 1) (enc m14 1 ++ enc m15 2 ++ enc m16 1 ++ enc m17 8 ++ enc m18 2 ++ enc m19 1) 4 1 (by simp [enc_length]) (by simp [enc_length])
      rw [hs]; simpa only [List.append_assoc] using this
    have v5 : cut s 5 1 = enc m14 1 := by
      have := cut_app (enc m11 2 ++ enc 0 1 ++ enc m12 1 ++ enc m13 1) (enc m14 1) (enc m15 2 ++ enc m16 1 ++ enc m17 8 ++ enc m18 2 ++ enc m19 1) 5 1 (by simp [enc_length]) (by simp [enc_length])
      rw [hs]; simpa only [List.append_assoc] using this
    have v6 : cut s 6 2 = enc m15 2 := by
      have := cut_app (enc m11 2 ++ enc 0 1 ++ enc m12 1 ++ enc m13 1 ++ enc m14 1) (enc m15 2) (enc m16 1 ++ enc m17 8 ++ enc m18 2 ++ enc m19 1) 6 2 (by simp [enc_length]) (by simp [enc_length])
      rw [hs]; simpa only [List.append_assoc] using this
    have v8 : cut s 8 1 = enc m16 1 := by
      have := cut_app (enc m11 2 ++ enc 0 1 ++ enc m12 1 ++ enc m13 1 ++ enc m14 1 ++ enc m15 2) (enc m16 1) (enc m17 8 ++ enc m18 2 ++ enc m19 1) 8 1 (by simp [enc_length]) (by simp [enc_length])
      rw [hs]; simpa only [List.append_assoc] using this
    have v9 : cut s 9 8 = enc m17 8 := by
      have := cut_app (enc m11 2 ++ enc 0 1 ++ enc m12 1 ++ enc m13 1 ++ enc m14 1 ++ enc m15 2 ++ enc m16 1) (enc m17 8) (enc m18 2 ++ enc m19 1) 9 8 (by simp [enc_length]) (by simp [enc_length])
      rw [hs]; simpa only [List.append_assoc] using this
    have v17 : cut s 17 2 = enc m18 2 := by
      have := cut_app (enc m11 2 ++ enc 0 1 ++ enc m12 1 ++ enc m13 1 ++ enc m14 1 ++ enc m15 2 ++ enc m16 1 ++ enc m17 8) (enc m18 2) (enc m19 1) 17 2 (by simp [enc_length]) (by simp [enc_length])
      rw [hs]; simpa only [List.append_assoc] using this
    have v19 : cut s 19 1 = enc m19 1 := by
      have := cut_app (enc m11 2 ++ enc 0 1 ++ enc m12 1 ++ enc m13 1 ++ enc m14 1 ++ enc m15 2 ++ enc m16 1 ++ enc m17 8 ++ enc m18 2) (enc m19 1) [] 19 1 (by simp [enc_length]) (by simp [enc_length])
      rw [hs]; simpa only [List.append_assoc, List.append_nil] using this
    rw [v0, v3, v4, v5, v6, v8, v9, v17, v19, sg2 _ eA.1, d1 _ eA.2.1, d1 _ ⟨eA.2.2.2.2.1.1, eA.2.2.2.2.1.2.1⟩, d1 _ ⟨eA.2.2.2.2.1.2.2.1, eA.2.2.2.2.1.2.2.2.1⟩, d2 _ eA.2.2.2.2.1.2.2.2.2, d1 _ eA.2.2.1, d8 _ h17, d2 _ eA.2.2.2.2.2, d1 _ eA.2.2.2.1, e9.1, e9.2, eM.1, eM.2.1, eM.2.2]
  · have k5 : ¬ m0 = 2 := by omega
    have k6 : ¬ m0 = 11 := by omega
    rw [k2, if_neg (by simp)] at g8
    rw [k3, if_pos rfl] at g9
    rw [if_neg k6] at gA
    rw [if_pos k0] at gM
    have e8 := of_decide_eq_true g8
    have e9 := of_decide_eq_true g9
    have eA := of_decide_eq_true gA
    have eM := of_decide_eq_true gM
    simp only [k2, k3, if_neg k5, if_pos k0, if_neg k6, if_true, if_false, Bool.false_eq_true, reduceIte, and_false, List.nil_append]
    obtain ⟨s, hs⟩ : ∃ s, s = enc m9 8 ++ enc m10 2 ++ (enc m20 1 ++ enc m21 1 ++ enc m22 1 ++ enc 0 1) := ⟨_, rfl⟩
    have hL : s.length = 14 := by rw [hs]; simp only [List.length_append, enc_length]
    rw [← hs]
    have c : ∀ i n : Int, 0 ≤ i → 0 ≤ n → i + n ≤ 14 → cut (p ++ s ++ q) (p.length + i) n = cut s i n := fun i n q1 q2 q3 => cut_in p s q (p.length + i) i n rfl q1 q2 (by omega)
    have c0 : cut (p ++ s ++ q) p.length 8 = cut s 0 8 := by have := c 0 8 (by omega) (by omega) (by omega); rwa [Int.add_zero] at this
    rw [c0, c 8 2 (by omega) (by omega) (by omega), c 10 1 (by omega) (by omega) (by omega), show (p.length : Int) + 10 + 1 = p.length + 11 by omega, c 11 1 (by omega) (by omega) (by omega), show (p.length : Int) + 10 + 2 = p.length + 12 by omega, c 12 1 (by omega) (by omega) (by omega)]
    have v0 : cut s 0 8 = enc m9 8 := by
      have := cut_app [] (enc m9 8) (enc m10 2 ++ (enc m20 1 ++ enc m21 1 ++ enc m22 1 ++ enc 0 1)) 0 8 rfl (by simp [enc_length])
      rw [hs]; simpa only [List.append_assoc, List.nil_append] using this
    have v8 : cut s 8 2 = enc m10 2 := by
      have := cut_app (enc m9 8) (enc m10 2) (enc m20 1 ++ enc m21 1 ++ enc m22 1 ++ enc 0 1) 8 2 (by simp [enc_length]) (by simp [enc_length])
      rw [hs]; simpa only [List.append_assoc] using this
    have v10 : cut s 10 1 = enc m20 1 := by
      have := cut_app (enc m9 8 ++ enc m10 2) (enc m20 1) (enc m21 1 ++ enc m22 1 ++ enc 0 1) 10 1 (by simp [enc_length]) (by simp [enc_length])
      rw [hs]; simpa only [List.append_assoc] using this
    have v11 : cut s 11 1 = enc m21 1 := by
      have := cut_app (enc m9 8 ++ enc m10 2 ++ enc m20 1) (enc m21 1) (enc m22 1 ++ enc 0 1) 11 1 (by simp [enc_length]) (by simp [enc_length])
      rw [hs]; simpa only [List.append_assoc] using this
    have v12 : cut s 12 1 = enc m22 1 := by
      have := cut_app (enc m9 8 ++ enc m10 2 ++ enc m20 1 ++ enc m21 1) (enc m22 1) (enc 0 1) 12 1 (by simp [enc_length]) (by simp [enc_length])
      rw [hs]; simpa only [List.append_assoc] using this
    rw [v0, v8, v10, v11, v12, d8 _ h9, d2 _ e9, d1 _ eM.1, d1 _ eM.2.1, d1 _ ⟨eM.2.2.1, by omega⟩, e8, eA.1, eA.2.1, eA.2.2.1, eA.2.2.2.1, eA.2.2.2.2.1, eA.2.2.2.2.2.1, eA.2.2.2.2.2.2.1, eA.2.2.2.2.2.2.2.1, eA.2.2.2.2.2.2.2.2, show m22 % 16 = m22 by omega]
  · have g8' := g8
    rw [k2, if_pos rfl] at g8
    rw [k3, if_pos rfl] at g9
    rw [if_neg k0] at gA
    rw [if_neg k9] at gM
    have e8 := of_decide_eq_true g8
    have e9 := of_decide_eq_true g9
    have eA := of_decide_eq_true gA
    have eM := of_decide_eq_true gM
    simp only [k2, k3, if_neg k0, if_neg k9, if_true, if_false, Bool.false_eq_true, reduceIte, k1, and_self]
    obtain ⟨s, hs⟩ : ∃ s, s = enc m9 8 ++ enc m10 2 ++ (if m0 = 2 then enc 0 8 ++ enc 0 2 else []) := ⟨_, rfl⟩
    have hL : 10 ≤ s.length := by rw [hs]; simp only [List.length_append, enc_length]; omega
    rw [show p ++ (Stm.encS m8 ++ (enc m9 8 ++ enc m10 2) ++ (if m0 = 2 then enc 0 8 ++ enc 0 2 else [])) ++ q = p ++ (Stm.encS m8 ++ s) ++ q by rw [hs]; simp only [List.append_assoc]]
    rw [stamp_at p s q m8 p.length rfl e8, if_pos rfl]
    have c : ∀ i n : Int, 0 ≤ i → 0 ≤ n → i + n ≤ 10 → cut (p ++ (Stm.encS m8 ++ s) ++ q) (p.length + 10 + i) n = cut s i n := fun i n q1 q2 q3 => by
      have := cut_in (p ++ Stm.encS m8) s q (p.length + 10 + i) i n (by rw [List.length_append, Stm.encS_length]; omega) q1 q2 (by omega)
      rwa [List.append_assoc p] at this
    have c0 : cut (p ++ (Stm.encS m8 ++ s) ++ q) (p.length + 10) 8 = cut s 0 8 := by have := c 0 8 (by omega) (by omega) (by omega); rwa [Int.add_zero] at this
    rw [c0, c 8 2 (by omega) (by omega) (by omega)]
    have v0 : cut s 0 8 = enc m9 8 := by
      have := cut_app [] (enc m9 8) (enc m10 2 ++ (if m0 = 2 then enc 0 8 ++ enc 0 2 else [])) 0 8 rfl (by simp [enc_length])
      rw [hs]; simpa only [List.append_assoc, List.nil_append] using this
    have v8 : cut s 8 2 = enc m10 2 := by
      have := cut_app (enc m9 8) (enc m10 2) (if m0 = 2 then enc 0 8 ++ enc 0 2 else []) 8 2 (by simp [enc_length]) (by simp [enc_length])
      rw [hs]; exact this
    rw [v0, v8, d8 _ h9, d2 _ e9, eA.1, eA.2.1, eA.2.2.1, eA.2.2.2.1, eA.2.2.2.2.1, eA.2.2.2.2.2.1, eA.2.2.2.2.2.2.1, eA.2.2.2.2.2.2.2.1, eA.2.2.2.2.2.2.2.2, eM.1, eM.2.1, eM.2.2]
  · rw [k2, if_pos rfl] at g8
    rw [k3, if_neg (by simp)] at g9
    rw [if_neg k0] at gA
    rw [if_neg k9] at gM
    have e8 := of_decide_eq_true g8
    have e9 := of_decide_eq_true g9
    have eA := of_decide_eq_true gA
    have eM := of_decide_eq_true gM
    simp only [k2, k3, if_neg k0, if_neg k9, if_true, if_false, Bool.false_eq_true, reduceIte, k1, and_self, List.append_nil]
    rw [stamp_at p _ q m8 p.length rfl e8, if_pos rfl]
    rw [e9.1, e9.2, eA.1, eA.2.1, eA.2.2.1, eA.2.2.2.1, eA.2.2.2.2.1, eA.2.2.2.2.2.1, eA.2.2.2.2.2.2.1, eA.2.2.2.2.2.2.2.1, eA.2.2.2.2.2.2.2.2, eM.1, eM.2.1, eM.2.2]
  · have k5 : ¬ m0 = 2 := fun e => by rw [e] at k2; cases k2
    rw [k2, if_neg (by simp)] at g8
    rw [k3, if_pos rfl] at g9
    rw [if_neg k0] at gA
    rw [if_neg k9] at gM
    have e8 := of_decide_eq_true g8
    have e9 := of_decide_eq_true g9
    have eA := of_decide_eq_true gA
    have eM := of_decide_eq_true gM
    simp only [k2, k3, if_neg k5, if_neg k0, if_neg k9, if_true, if_false, Bool.false_eq_true, reduceIte, and_false, List.nil_append, List.append_nil]
    obtain ⟨s, hs⟩ : ∃ s, s = enc m9 8 ++ enc m10 2 := ⟨_, rfl⟩
    have hL : s.length = 10 := by rw [hs]; simp only [List.length_append, enc_length]
    rw [← hs]
    have c : ∀ i n : Int, 0 ≤ i → 0 ≤ n → i + n ≤ 10 → cut (p ++ s ++ q) (p.length + i) n = cut s i n := fun i n q1 q2 q3 => cut_in p s q (p.length + i) i n rfl q1 q2 (by omega)
    have c0 : cut (p ++ s ++ q) p.length 8 = cut s 0 8 := by have := c 0 8 (by omega) (by omega) (by omega); rwa [Int.add_zero] at this
    rw [c0, c 8 2 (by omega) (by omega) (by omega)]
    have v0 : cut s 0 8 = enc m9 8 := by
      have := cut_app [] (enc m9 8) (enc m10 2) 0 8 rfl (by simp [enc_length])
      rw [hs]; simpa only [List.nil_append] using this
    have v8 : cut s 8 2 = enc m10 2 := by
      have := cut_app (enc m9 8) (enc m10 2) [] 8 2 (by simp [enc_length]) (by simp [enc_length])
      rw [hs]; simpa only [List.append_nil] using this
    rw [v0, v8, d8 _ h9, d2 _ e9, e8, eA.1, eA.2.1, eA.2.2.1, eA.2.2.2.1, eA.2.2.2.2.1, eA.2.2.2.2.2.1, eA.2.2.2.2.2.2.1, eA.2.2.2.2.2.2.2.1, eA.2.2.2.2.2.2.2.2, eM.1, eM.2.1, eM.2.2]
  · rw [hkn] at k1
    cases k1
end Go.Proofs.Ytiomlbkakiienaa.Bod
