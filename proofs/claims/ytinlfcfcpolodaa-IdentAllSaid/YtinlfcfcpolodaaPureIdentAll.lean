/- All clocks, any port, mean everybody; one means itself alone: for every two ports. -/
import Derived.Test.YtinlfcfcpolodaaPx4
import Derived.Test.YtinlfcfcpolodaaIdt
namespace Go.Proofs.Ytinlfcfcpolodaa.Pure
open Go.RowKit Go.Proofs.Ytinlfcfcpolodaa.P Go.Proofs.Ytinlfcfcpolodaa.Lib Go.Proofs.Ytinlfcfcpolodaa.Oct Go.Proofs.Ytinlfcfcpolodaa.Idt Go.Proofs.YtinlfcfcpolodaaW.PrintWords Go.Proofs.YtinlfcfcpolodaaW.PrintLast Go.Proofs.YtinlfcfcpolodaaW.PrintMore

theorem awake_true {k : Nat} (h : 50 ≤ k) : carillonlaw04_awake.f k = some true := at_rounds (g := fun k => carillonlaw04_awake.f k) (fun k => carillonlaw04_awake.mono k) h (by decide +kernel)

theorem IdentAll : carillonlaw04_IdentAll.Pure := by
  intro a b c d _ _ _ _
  obtain ⟨K, hK⟩ : ∃ K : Nat, 60 ≤ K := ⟨60, Nat.le_refl _⟩
  refine ⟨K + 2, ?_⟩
  unfold carillonlaw04_IdentAll.f
  have m1 : meant 18446744073709551615 65535 a b = true := by simp [meant]
  have m2 : meant a 65535 a b = true := by simp [meant]
  have m3 : meant a b a b = true := by simp [meant]
  have aw1 := awake_true (k := K + 1) (by omega)
  have aw0 := awake_true (k := K) (by omega)
  have fin : ∀ x : Bool, x = false → carillonlaw04_IdentAll.j0 (K + 2) x a b c d = some true := by
    rintro x rfl
    rw [carillonlaw04_IdentAll.j0, if_neg (by simp)]
    by_cases h1 : a = 18446744073709551615
    · rw [if_pos h1, carillonlaw04_IdentAll.j1, if_pos rfl, aw0]
      rfl
    · rw [if_neg h1, carillonlaw04_IdentAll.j1]
      by_cases h2 : b = 65535
      · rw [if_pos (by simpa using h2), aw0]
        rfl
      · rw [if_neg (by simpa using h2), meant_of, Option.bind_some]
        have hm : meant a b c d = (a == c && (b == d)) := by
          unfold meant
          rw [Bool.eq_iff_iff]
          simp only [decide_eq_true_eq, Bool.and_eq_true, beq_iff_eq]
          omega
        rw [hm, if_pos (beq_self_eq_true _), aw0]
        rfl
  rw [meant_of, meant_of, meant_of, meant_of, m1, m2, m3]
  rw [Option.bind_some, if_pos rfl, Option.bind_some, if_pos rfl, Option.bind_some, if_pos rfl, Option.bind_some]
  by_cases h : a = c
  · rw [if_pos h]
    exact fin _ (by simp [meant, h])
  · rw [if_neg h]
    exact fin _ (by
      have : meant a 65535 c d = (a == 18446744073709551615) := by
        unfold meant
        simp [h, Bool.beq_eq_decide_eq]
      rw [this]
      simp)

end Go.Proofs.Ytinlfcfcpolodaa.Pure
