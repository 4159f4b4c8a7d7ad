/- Any bytes read from anywhere: the TLVs and the answer are the document's: for every row of bytes and every place. -/
import Derived.Test.YtgmiokocipmbaaaZzPx9
import Derived.Test.YtgmiokocipmbaaaZzTlv
namespace Go.Proofs.Ytgmiokocipmbaaa.Pure
open Go.RowKit Go.Proofs.Ytgmiokocipmbaaa.P Go.Proofs.Ytgmiokocipmbaaa.Lib Go.Proofs.Ytgmiokocipmbaaa.Oct Go.Proofs.Ytgmiokocipmbaaa.Ref Go.Proofs.Ytgmiokocipmbaaa.Tlv Go.Proofs.YtgmiokocipmbaaaW.PrintWords Go.Proofs.YtgmiokocipmbaaaW.PrintLast Go.Proofs.YtgmiokocipmbaaaW.PrintMore
theorem TlvGets : carillonlaw08_TlvGets.Pure := by
  intro b a hbm hb hbw haw
  have hby := by_wf hbw
  obtain ⟨K, hK⟩ : ∃ K : Nat, 60 ≤ K := ⟨60, Nat.le_refl _⟩
  have hK2 : (if 0 ≤ a ∧ a ≤ (b.length : Int) then gets b K a [] else ([], 1)).1.length ≤ 8 := by
    have hle := gets_len b K a [] (by simp)
    split
    · exact hle
    · simp
  refine ⟨K, ?_⟩
  unfold carillonlaw08_TlvGets.f
  have e : carillonlaw00_Bytes.f b = some b := by
    unfold carillonlaw00_Bytes.f
    rw [if_pos (by simp; omega), List.nil_append]
  rw [e, Option.bind_some, tget_of b hby (by omega) a K (by omega), Option.bind_some, rtget_of b hby (by omega) a K (by omega), Option.bind_some]
  generalize (if 0 ≤ a ∧ a ≤ (b.length : Int) then gets b K a [] else ([], 1)) = r at *
  rw [same_self r.1 (by omega) K (by omega), Option.bind_some, if_pos rfl, if_pos rfl, awake_of K (by omega)]
  rfl
end Go.Proofs.Ytgmiokocipmbaaa.Pure
