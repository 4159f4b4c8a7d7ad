/- A field that its type has not makes a message none: for every message and each of four fields. -/
import Derived.Test.YtpoocfapmgmfkaaZzPx7
import Derived.Test.YtpoocfapmgmfkaaZzBod
set_option linter.unusedVariables false
namespace Go.Proofs.Ytpoocfapmgmfkaa.Pure
open Go.RowKit Go.Proofs.Ytpoocfapmgmfkaa.P Go.Proofs.Ytpoocfapmgmfkaa.Lib Go.Proofs.Ytpoocfapmgmfkaa.Oct Go.Proofs.Ytpoocfapmgmfkaa.Hdr Go.Proofs.Ytpoocfapmgmfkaa.Bod Go.Proofs.YtpoocfapmgmfkaaW.PrintWords Go.Proofs.YtpoocfapmgmfkaaW.PrintLast Go.Proofs.YtpoocfapmgmfkaaW.PrintMore
theorem awake_of (K : Nat) : carillonlaw07_awake.f (K + 2) = some true := by
  unfold carillonlaw07_awake.f
  rw [show K + 2 = (K + 1) + 1 from rfl, bPut_of [] (by simp) 11 0 0 0 0 0 0 0 0 0 0 0 0 0 0 0 0 0 0 0 0 0 0 (K + 1), show bok 11 0 0 0 0 0 0 0 0 0 0 0 0 0 0 0 0 0 0 0 0 0 0 = true by decide, if_pos rfl, Option.bind_some, if_pos rfl]
  have hl := bbytes_length 11 0 0 0 0 0 0 0 0 0 0 0 0 0 0 0 (by decide)
  rw [List.nil_append, hl, if_pos (by decide), len_of, Option.bind_some, if_pos (by decide), len_of, Option.bind_some]
  rfl
theorem BodyFields : carillonlaw07_BodyFields.Pure := by
  intro m0 m1 m2 m3 m4 m5 m6 m7 m8 m9 m10 m11 m12 m13 m14 m15 m16 m17 m18 m19 m20 m21 m22 a h0 h1 h2 h3 h4 h5 h6 h7 h8 h9 h10 h11 h12 h13 h14 h15 h16 h17 h18 h19 h20 h21 h22 ha
  refine ⟨2, ?_⟩
  unfold carillonlaw07_BodyFields.f
  rw [rCheck_of, rbcheck_of, awake_of 0]
  simp only [Option.bind_some]
  have r1 := Int.emod_nonneg a (show (4 : Int) ≠ 0 by omega)
  have r2 := Int.emod_lt_of_pos a (show (0 : Int) < 4 by omega)
  cases hk : bok m0 m1 m2 m3 m4 m5 m6 m7 m8 m9 m10 m11 m12 m13 m14 m15 m16 m17 m18 m19 m20 m21 m22 with
  | false =>
    split
    · rw [if_neg Bool.false_ne_true]
    · rfl
  | true =>
    have hk0 := hk
    unfold bok at hk0
    simp only [Bool.and_eq_true] at hk0
    obtain ⟨g0, g8, g9, gA, gM⟩ := hk0
    have g0' := g0
    unfold hok at g0
    rw [if_pos g0', if_pos rfl, place_of a 4 (by omega) (by omega), Option.bind_some]
    generalize a % 4 = c at *
    have j1 : ∀ (b : Bool) (x0 x1 x2 x3 x4 x5 x6 x7 x8 x9 x10 x11 x12 x13 x14 x15 x16 x17 x18 x19 x20 x21 x22 : Int), bok x0 x1 x2 x3 x4 x5 x6 x7 x8 x9 x10 x11 x12 x13 x14 x15 x16 x17 x18 x19 x20 x21 x22 = b → carillonlaw07_BodyFields.j1 2 x0 x1 x2 x3 x4 x5 x6 x7 x8 x9 x10 x11 x12 x13 x14 x15 x16 x17 x18 x19 x20 x21 x22 b = some true := by
      intro b x0 x1 x2 x3 x4 x5 x6 x7 x8 x9 x10 x11 x12 x13 x14 x15 x16 x17 x18 x19 x20 x21 x22 h
      unfold carillonlaw07_BodyFields.j1
      rw [bcheck_of, h, Option.bind_some, if_pos (by simp), awake_of 0]
      rfl
    have q1 : stm m0 = true ↔ (m0 ≠ 12 ∧ m0 ≠ 13) := decide_eq_true_iff
    have q2 : tgt m0 = true ↔ (m0 = 9 ∨ m0 = 3 ∨ m0 = 10 ∨ m0 = 12 ∨ m0 = 13) := decide_eq_true_iff
    by_cases c0 : c = 0
    · rw [if_pos c0]
      have key : bok m0 m1 m2 m3 m4 m5 m6 m7 5 m9 m10 m11 m12 m13 m14 m15 m16 m17 m18 m19 m20 m21 m22 = stm m0 := by
        unfold bok s8
        rw [g0', g9, gA, gM]
        cases hs : stm m0 <;> decide
      by_cases t12 : m0 = 12
      · rw [if_pos t12]
        exact j1 _ _ _ _ _ _ _ _ _ _ _ _ _ _ _ _ _ _ _ _ _ _ _ _ (key.trans (Bool.eq_false_iff.2 (fun h => by have := q1.1 h; omega)))
      · rw [if_neg t12]
        refine j1 _ _ _ _ _ _ _ _ _ _ _ _ _ _ _ _ _ _ _ _ _ _ _ _ (key.trans ?_)
        rw [Bool.eq_iff_iff, q1]
        simp only [Bool.not_eq_true', decide_eq_false_iff_not]
        omega
    rw [if_neg c0]
    by_cases c1 : c = 1
    · rw [if_pos c1]
      have key : bok m0 m1 m2 m3 m4 m5 m6 m7 m8 m9 9 m11 m12 m13 m14 m15 m16 m17 m18 m19 m20 m21 m22 = tgt m0 := by
        unfold bok s9
        rw [g0', g8, gA, gM]
        cases hs : tgt m0 with
        | true =>
          rw [if_pos rfl]
          decide
        | false =>
          simp
      by_cases t1 : m0 = 9
      · rw [if_pos t1]
        exact j1 _ _ _ _ _ _ _ _ _ _ _ _ _ _ _ _ _ _ _ _ _ _ _ _ (key.trans (q2.2 (by omega)))
      rw [if_neg t1]
      by_cases t2 : m0 = 3
      · rw [if_pos t2]
        exact j1 _ _ _ _ _ _ _ _ _ _ _ _ _ _ _ _ _ _ _ _ _ _ _ _ (key.trans (q2.2 (by omega)))
      rw [if_neg t2]
      by_cases t3 : m0 = 10
      · rw [if_pos t3]
        exact j1 _ _ _ _ _ _ _ _ _ _ _ _ _ _ _ _ _ _ _ _ _ _ _ _ (key.trans (q2.2 (by omega)))
      rw [if_neg t3]
      by_cases t4 : m0 = 12
      · rw [if_pos t4]
        exact j1 _ _ _ _ _ _ _ _ _ _ _ _ _ _ _ _ _ _ _ _ _ _ _ _ (key.trans (q2.2 (by omega)))
      rw [if_neg t4]
      refine j1 _ _ _ _ _ _ _ _ _ _ _ _ _ _ _ _ _ _ _ _ _ _ _ _ (key.trans ?_)
      rw [Bool.eq_iff_iff, q2, decide_eq_true_eq]
      omega
    rw [if_neg c1]
    by_cases c2 : c = 2
    · rw [if_pos c2]
      refine j1 _ _ _ _ _ _ _ _ _ _ _ _ _ _ _ _ _ _ _ _ _ _ _ _ ?_
      unfold bok
      rw [g0', g8, g9, gM]
      unfold sA at gA ⊢
      by_cases t : m0 = 11
      · rw [if_pos t] at gA ⊢
        have e := of_decide_eq_true gA
        rw [decide_eq_true (show _ ∧ _ from ⟨e.1, e.2.1, e.2.2.1, e.2.2.2.1, e.2.2.2.2.1, by omega⟩), decide_eq_true t]
        rfl
      · rw [if_neg t, decide_eq_false t]
        rw [decide_eq_false (fun h => by have := h.2.2.2.2.2.2.2.1; omega)]
        rfl
    rw [if_neg c2]
    refine j1 _ _ _ _ _ _ _ _ _ _ _ _ _ _ _ _ _ _ _ _ _ _ _ _ ?_
    unfold bok
    rw [g0', g8, g9, gA]
    unfold sM at gM ⊢
    by_cases t : m0 = 13
    · rw [if_pos t] at gM ⊢
      have e := of_decide_eq_true gM
      rw [decide_eq_true (show _ ∧ _ from ⟨e.1, by omega, e.2.2⟩), decide_eq_true t]
      rfl
    · rw [if_neg t, decide_eq_false t]
      rw [decide_eq_false (fun h => by have := h.2.1; omega)]
      rfl
end Go.Proofs.Ytpoocfapmgmfkaa.Pure
