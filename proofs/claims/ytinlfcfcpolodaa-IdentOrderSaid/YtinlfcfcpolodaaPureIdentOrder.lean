/- Ports are in an order: either way round, one behind the other; the bytes of those that may be are in it: for every three ports. -/
import Derived.Test.YtinlfcfcpolodaaPx13
import Derived.Test.YtinlfcfcpolodaaIdt
namespace Go.Proofs.Ytinlfcfcpolodaa.Pure
open Go.RowKit Go.Proofs.Ytinlfcfcpolodaa.P Go.Proofs.Ytinlfcfcpolodaa.Lib Go.Proofs.Ytinlfcfcpolodaa.Oct Go.Proofs.Ytinlfcfcpolodaa.Idt Go.Proofs.YtinlfcfcpolodaaW.PrintWords Go.Proofs.YtinlfcfcpolodaaW.PrintLast Go.Proofs.YtinlfcfcpolodaaW.PrintMore

theorem awake_true {k : Nat} (h : 50 ≤ k) : carillonlaw04_awake.f k = some true := at_rounds (g := fun k => carillonlaw04_awake.f k) (fun k => carillonlaw04_awake.mono k) h (by decide +kernel)

theorem IdentOrder : carillonlaw04_IdentOrder.Pure := by
  intro a b c d e f ha hb hc hd _ _
  have ha := wfu64 ha
  have hc := wfu64 hc
  have hb := wf64 hb
  have hd := wf64 hd
  obtain ⟨K, hK⟩ : ∃ K : Nat, 60 ≤ K := ⟨60, Nat.le_refl _⟩
  refine ⟨K + 4, ?_⟩
  have aw1 := awake_true (k := K + 2) (by omega)
  have c1 := cmp2_cases a b c d
  have c2 := cmp2_cases c d e f
  have c3 := cmp2_cases a b e f
  have c4 := cmp2_cases c d a b
  unfold carillonlaw04_IdentOrder.f
  rw [idCompare_of, idCompare_of, idCompare_of, idCompare_of]
  simp only [Option.bind_some]
  generalize cmp2 a b c d = x at *
  generalize cmp2 c d e f = y at *
  generalize cmp2 a b e f = z at *
  generalize cmp2 c d a b = u at *
  have fin : ∀ t : Bool, t = false → carillonlaw04_IdentOrder.j0 (K + 4) x t a b c d = some true := by
    rintro t rfl
    rw [carillonlaw04_IdentOrder.j0, if_neg (by simp)]
    have may : ∀ p q : Int, ident_May.f p q = some (decide (0 ≤ q ∧ q ≤ 65535)) := by
      intro p q
      unfold ident_May.f
      by_cases h : q ≥ 0
      · rw [if_pos h]
        congr 1
        simp [h]
      · rw [if_neg h]
        congr 1
        symm
        apply decide_eq_false
        omega
    rw [may, may, Option.bind_some, Option.bind_some]
    by_cases h1 : 0 ≤ b ∧ b ≤ 65535
    · rw [if_pos (decide_eq_true h1)]
      by_cases h2 : 0 ≤ d ∧ d ≤ 65535
      · rw [decide_eq_true h2, Bool.not_true, carillonlaw04_IdentOrder.j1, if_neg (by simp), idPut_of [] a b (by simp), idPut_of [] c d (by simp), Option.bind_some, Option.bind_some, aw1]
        simp only [List.nil_append]
        have hA : By (enc a 8 ++ enc b 2) := (enc_by a 8).app (enc_by b 2)
        have hC : By (enc c 8 ++ enc d 2) := (enc_by c 8).app (enc_by d 2)
        have p2 : (256 : Int) ^ 2 = 65536 := by decide +kernel
        have dv : ∀ s t : Int, 0 ≤ s → s ≤ 18446744073709551615 → 0 ≤ t → t ≤ 65535 → dec (enc s 8 ++ enc t 2) = s * 65536 + t := by
          intro s t h1 h2 h3 h4
          rw [dec_append, enc_length, dec_enc, dec_enc, p2, pow8]
          omega
        have hl : (enc a 8 ++ enc b 2).length = (enc c 8 ++ enc d 2).length := by simp [enc_length]
        have dA := dv a b ha.1 ha.2 h1.1 h1.2
        have dC := dv c d hc.1 hc.2 h2.1 h2.2
        have e1 : (Op.bytesLess ((strOfNums (enc a 8 ++ enc b 2)).toList) ((strOfNums (enc c 8 ++ enc d 2)).toList) == decide (x < 0)) = true := by
          rw [str_less hA hC hl, dA, dC, beq_iff_eq, decide_eq_decide]
          omega
        have e2 : (((strOfNums (enc a 8 ++ enc b 2)).toList == (strOfNums (enc c 8 ++ enc d 2)).toList) == (x == 0)) = true := by
          rw [str_eq hA hC, beq_iff_eq, Bool.eq_iff_iff, decide_eq_true_eq, beq_iff_eq]
          constructor
          · intro h
            have := congrArg dec h
            rw [dA, dC] at this
            omega
          · intro h
            exact dec_inj hA hC hl (by rw [dA, dC]; omega)
        rw [if_pos e1, if_pos e2]
        rfl
      · rw [decide_eq_false h2, Bool.not_false, carillonlaw04_IdentOrder.j1, if_pos rfl, aw1]
        rfl
    · rw [if_neg (by simpa using h1), carillonlaw04_IdentOrder.j1, if_pos rfl, aw1]
      rfl
  have n1 : wrap64 (-u) = -u := w64 _ (by omega) (by omega)
  rw [n1]
  clear n1
  have n2 : ((x == 0) != (a == c && (b == d))) = false := by
    have : (x == 0) = (a == c && (b == d)) := by
      rw [Bool.eq_iff_iff]
      simp only [Bool.and_eq_true, beq_iff_eq]
      omega
    rw [this]
    simp
  rw [if_pos (by omega), n2, if_neg (by simp)]
  by_cases h1 : x ≤ 0
  · rw [if_pos h1]
    by_cases h2 : y ≤ 0
    · rw [if_pos h2, if_neg (by omega)]
      by_cases h3 : x < 0
      · rw [if_pos h3]
        exact fin _ (decide_eq_false (by omega))
      · rw [if_neg h3]
        exact fin _ rfl
    · rw [if_neg h2]
      split <;> exact fin _ rfl
  · rw [if_neg h1, if_neg (by omega)]
    exact fin _ rfl

end Go.Proofs.Ytinlfcfcpolodaa.Pure
