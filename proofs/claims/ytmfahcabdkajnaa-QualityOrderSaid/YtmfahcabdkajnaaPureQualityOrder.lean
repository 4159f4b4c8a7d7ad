/- Qualities are in an order; of those that may be the bytes are in it: for every three. -/
import Derived.Test.YtmfahcabdkajnaaPx8
import Derived.Test.YtmfahcabdkajnaaQua
namespace Go.Proofs.Ytmfahcabdkajnaa.Pure
open Go.RowKit Go.Proofs.Ytmfahcabdkajnaa.P Go.Proofs.Ytmfahcabdkajnaa.Lib Go.Proofs.Ytmfahcabdkajnaa.Oct Go.Proofs.Ytmfahcabdkajnaa.Qua Go.Proofs.YtmfahcabdkajnaaW.PrintWords Go.Proofs.YtmfahcabdkajnaaW.PrintLast Go.Proofs.YtmfahcabdkajnaaW.PrintMore

theorem awake_true {k : Nat} (h : 50 ≤ k) : carillonlaw05_awake.f k = some true := at_rounds (g := fun k => carillonlaw05_awake.f k) (fun k => carillonlaw05_awake.mono k) h (by decide +kernel)

theorem QualityOrder : carillonlaw05_QualityOrder.Pure := by
  intro a b c x y z u v w ha hb hc hx hy hz _ _ _
  obtain ⟨K, hK⟩ : ∃ K : Nat, 60 ≤ K := ⟨60, Nat.le_refl _⟩
  refine ⟨K + 4, ?_⟩
  have aw1 := awake_true (k := K + 2) (by omega)
  have c1 := cmp3_cases a b c x y z
  have c2 := cmp3_cases x y z u v w
  have c3 := cmp3_cases a b c u v w
  have c4 := cmp3_cases x y z a b c
  unfold carillonlaw05_QualityOrder.f
  rw [quCompare_of, quCompare_of, quCompare_of, quCompare_of]
  simp only [Option.bind_some]
  generalize cmp3 a b c x y z = r at *
  generalize cmp3 x y z u v w = s at *
  generalize cmp3 a b c u v w = t at *
  generalize cmp3 x y z a b c = q at *
  have fin : ∀ o : Bool, o = false → carillonlaw05_QualityOrder.j0 (K + 4) r o a b c x y z = some true := by
    rintro o rfl
    rw [carillonlaw05_QualityOrder.j0, if_neg (by simp), mayQ_of, mayQ_of, Option.bind_some, Option.bind_some]
    by_cases h1 : mayQ a b c = true
    · rw [if_pos h1]
      by_cases h2 : mayQ x y z = true
      · rw [h2, Bool.not_true, carillonlaw05_QualityOrder.j1, if_neg (by simp), quPut_of [] a b c (by simp), quPut_of [] x y z (by simp), Option.bind_some, Option.bind_some, aw1]
        simp only [List.nil_append]
        have m1 := of_decide_eq_true h1
        have m2 := of_decide_eq_true h2
        have p1 : (256 : Int) ^ 1 = 256 := by decide +kernel
        have p2 : (256 : Int) ^ 2 = 65536 := by decide +kernel
        have hA : By (enc a 1 ++ enc b 1 ++ enc c 2) := ((enc_by a 1).app (enc_by b 1)).app (enc_by c 2)
        have hX : By (enc x 1 ++ enc y 1 ++ enc z 2) := ((enc_by x 1).app (enc_by y 1)).app (enc_by z 2)
        have dv : ∀ i j k : Int, 0 ≤ i ∧ i ≤ 255 ∧ 0 ≤ j ∧ j ≤ 255 ∧ 0 ≤ k ∧ k ≤ 65535 → dec (enc i 1 ++ enc j 1 ++ enc k 2) = i * 16777216 + j * 65536 + k := by
          intro i j k hh
          rw [dec_append, dec_append, enc_length, enc_length, dec_enc, dec_enc, dec_enc, p2, p1]
          omega
        have hl : (enc a 1 ++ enc b 1 ++ enc c 2).length = (enc x 1 ++ enc y 1 ++ enc z 2).length := by simp [enc_length]
        have dA := dv a b c m1
        have dX := dv x y z m2
        have e1 : (Op.bytesLess ((strOfNums (enc a 1 ++ enc b 1 ++ enc c 2)).toList) ((strOfNums (enc x 1 ++ enc y 1 ++ enc z 2)).toList) == decide (r < 0)) = true := by
          rw [str_less hA hX hl, dA, dX, beq_iff_eq, decide_eq_decide]
          omega
        rw [if_pos e1]
        rfl
      · rw [Bool.eq_false_iff.2 h2, Bool.not_false, carillonlaw05_QualityOrder.j1, if_pos rfl, aw1]
        rfl
    · rw [if_neg h1, carillonlaw05_QualityOrder.j1, if_pos rfl, aw1]
      rfl
  have n1 : wrap64 (-q) = -q := w64 _ (by omega) (by omega)
  rw [n1]
  clear n1
  have n2 : ((r == 0) != (a == x && (b == y && (c == z)))) = false := by
    have : (r == 0) = (a == x && (b == y && (c == z))) := by
      rw [Bool.eq_iff_iff]
      simp only [Bool.and_eq_true, beq_iff_eq]
      omega
    rw [this]
    simp
  rw [if_pos (by omega), n2, if_neg (by simp)]
  by_cases h1 : r ≤ 0
  · rw [if_pos h1]
    by_cases h2 : s ≤ 0
    · rw [if_pos h2]
      exact fin _ (decide_eq_false (by omega))
    · rw [if_neg h2]
      exact fin _ rfl
  · rw [if_neg h1]
    exact fin _ rfl

end Go.Proofs.Ytmfahcabdkajnaa.Pure
