/- The class decides ahead of the accuracy, that ahead of the variance: for every two qualities. -/
import Derived.Test.YtmfahcabdkajnaaPx6
import Derived.Test.YtmfahcabdkajnaaQua
namespace Go.Proofs.Ytmfahcabdkajnaa.Pure
open Go.RowKit Go.Proofs.Ytmfahcabdkajnaa.P Go.Proofs.Ytmfahcabdkajnaa.Lib Go.Proofs.Ytmfahcabdkajnaa.Oct Go.Proofs.Ytmfahcabdkajnaa.Qua Go.Proofs.YtmfahcabdkajnaaW.PrintWords Go.Proofs.YtmfahcabdkajnaaW.PrintLast Go.Proofs.YtmfahcabdkajnaaW.PrintMore

theorem awake_true {k : Nat} (h : 50 ≤ k) : carillonlaw05_awake.f k = some true := at_rounds (g := fun k => carillonlaw05_awake.f k) (fun k => carillonlaw05_awake.mono k) h (by decide +kernel)

theorem QualityParts : carillonlaw05_QualityParts.Pure := by
  intro a b c x y z _ _ _ _ _ _
  obtain ⟨K, hK⟩ : ∃ K : Nat, 60 ≤ K := ⟨60, Nat.le_refl _⟩
  refine ⟨K + 4, ?_⟩
  have h := cmp3_cases a b c x y z
  unfold carillonlaw05_QualityParts.f
  rw [quCompare_of, awake_true (k := K + 4) (by omega)]
  simp only [Option.bind_some]
  generalize cmp3 a b c x y z = r at *
  by_cases h1 : a = x
  · rw [if_pos h1]
    by_cases h2 : b = y
    · rw [if_pos h2]
      rw [if_pos (by rw [beq_iff_eq, decide_eq_decide]; omega), if_pos (by rw [beq_iff_eq, Bool.eq_iff_iff, beq_iff_eq, beq_iff_eq]; omega)]
    · rw [if_neg h2, if_pos (by rw [beq_iff_eq, decide_eq_decide]; omega), if_neg (by omega)]
  · rw [if_neg h1, if_pos (by rw [beq_iff_eq, decide_eq_decide]; omega), if_neg (by omega)]

end Go.Proofs.Ytmfahcabdkajnaa.Pure
