/- Any two ports compare, and mean one another, as the document has it. -/
import Derived.Test.YtinlfcfcpolodaaPx12
import Derived.Test.YtinlfcfcpolodaaIdt
namespace Go.Proofs.Ytinlfcfcpolodaa.Pure
open Go.RowKit Go.Proofs.Ytinlfcfcpolodaa.P Go.Proofs.Ytinlfcfcpolodaa.Lib Go.Proofs.Ytinlfcfcpolodaa.Oct Go.Proofs.Ytinlfcfcpolodaa.Idt Go.Proofs.YtinlfcfcpolodaaW.PrintWords Go.Proofs.YtinlfcfcpolodaaW.PrintLast Go.Proofs.YtinlfcfcpolodaaW.PrintMore

theorem awake_true {k : Nat} (h : 50 ≤ k) : carillonlaw04_awake.f k = some true := at_rounds (g := fun k => carillonlaw04_awake.f k) (fun k => carillonlaw04_awake.mono k) h (by decide +kernel)

theorem IdentPairs : carillonlaw04_IdentPairs.Pure := by
  intro a b c d _ _ _ _
  obtain ⟨K, hK⟩ : ∃ K : Nat, 60 ≤ K := ⟨60, Nat.le_refl _⟩
  refine ⟨K + 4, ?_⟩
  unfold carillonlaw04_IdentPairs.f
  rw [idCompare_of, rCompare_of, meant_of, rMeant_of, awake_true (k := K + 4) (by omega)]
  simp only [Option.bind_some, if_true]
  rw [if_pos (beq_self_eq_true _)]

end Go.Proofs.Ytinlfcfcpolodaa.Pure
