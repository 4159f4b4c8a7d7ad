/- Any bytes are read as a header as the document says: for every row of bytes. -/
import Derived.Test.YtcflafkafbpibaaPx13
import Derived.Test.YtcflafkafbpibaaHdr
namespace Go.Proofs.Ytcflafkafbpibaa.Pure
open Go.RowKit Go.Proofs.Ytcflafkafbpibaa.P Go.Proofs.Ytcflafkafbpibaa.Lib Go.Proofs.Ytcflafkafbpibaa.Oct Go.Proofs.Ytcflafkafbpibaa.Idt Go.Proofs.Ytcflafkafbpibaa.Ref Go.Proofs.Ytcflafkafbpibaa.Hdr Go.Proofs.YtcflafkafbpibaaW.PrintWords Go.Proofs.YtcflafkafbpibaaW.PrintLast Go.Proofs.YtcflafkafbpibaaW.PrintMore

theorem awake_true {k : Nat} (h : 50 ≤ k) : carillonlaw06_awake.f k = some true := at_rounds (g := fun k => carillonlaw06_awake.f k) (fun k => carillonlaw06_awake.mono k) h (by decide +kernel)
theorem HeaderGets : carillonlaw06_HeaderGets.Pure := by
  intro l hm hl hw
  have hb := by_wf hw
  obtain ⟨K, hK⟩ : ∃ K : Nat, 60 ≤ K := ⟨60, Nat.le_refl _⟩
  refine ⟨K + 1, ?_⟩
  have haw := awake_true (k := K + 1) (by omega)
  have hc : carillonlaw00_Bytes.f l = some l := by
    unfold carillonlaw00_Bytes.f
    simp
    omega
  unfold carillonlaw06_HeaderGets.f
  rw [hc, Option.bind_some, hGet_of l hb (by omega) K (by omega), Option.bind_some, rhGet_of l hb (by omega) K (by omega), Option.bind_some, haw]
  rw [if_pos (by simp only [beq_self_eq_true, Bool.and_self]), if_pos rfl, if_pos rfl]
  rfl
end Go.Proofs.Ytcflafkafbpibaa.Pure
