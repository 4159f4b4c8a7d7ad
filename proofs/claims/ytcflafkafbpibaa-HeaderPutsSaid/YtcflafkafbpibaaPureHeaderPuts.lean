/- Any message's header, of any length, is put as the document says; whether it may be, and whether there is such a type: for every message and every length. -/
import Derived.Test.YtcflafkafbpibaaPx7
import Derived.Test.YtcflafkafbpibaaHdr
namespace Go.Proofs.Ytcflafkafbpibaa.Pure
open Go.RowKit Go.Proofs.Ytcflafkafbpibaa.P Go.Proofs.Ytcflafkafbpibaa.Lib Go.Proofs.Ytcflafkafbpibaa.Oct Go.Proofs.Ytcflafkafbpibaa.Idt Go.Proofs.Ytcflafkafbpibaa.Ref Go.Proofs.Ytcflafkafbpibaa.Hdr Go.Proofs.YtcflafkafbpibaaW.PrintWords Go.Proofs.YtcflafkafbpibaaW.PrintLast Go.Proofs.YtcflafkafbpibaaW.PrintMore

theorem awake_true {k : Nat} (h : 50 ≤ k) : carillonlaw06_awake.f k = some true := at_rounds (g := fun k => carillonlaw06_awake.f k) (fun k => carillonlaw06_awake.mono k) h (by decide +kernel)
theorem HeaderPuts : carillonlaw06_HeaderPuts.Pure := by
  intro m0 m1 m2 m3 m4 m5 m6 m7 m8 m9 m10 m11 m12 m13 m14 m15 m16 m17 m18 m19 m20 m21 m22 n _ _ _ _ _ _ _ _ _ _ _ _ _ _ _ _ _ _ _ _ _ _ _ _
  obtain ⟨K, hK⟩ : ∃ K : Nat, 60 ≤ K := ⟨60, Nat.le_refl _⟩
  refine ⟨K + 2, ?_⟩
  have haw := awake_true (k := K + 2) (by omega)
  unfold carillonlaw06_HeaderPuts.f
  rw [hPut_of, rhPut_of _ _ _ _ _ _ _ _ _ _ _ _ _ _ _ _ _ _ _ _ _ _ _ _ (K + 2) (by omega), show K + 2 = (K + 1) + 1 by omega, check_of, rCheck_of, known_of, rKnown_of, show (K + 1) + 1 = K + 2 by omega, haw]
  simp only [Option.bind_some]
  by_cases h : (hok m0 m1 m2 m5 m6 m7 && within n 34 400) = true
  · rw [if_pos h, if_pos h]
    simp only [hdr_length]
    rw [if_pos (by decide), if_pos (by simp), if_pos (by simp), if_pos (by simp)]
  · rw [if_neg h, if_neg h]
    rw [if_pos (by decide), if_pos (by simp), if_pos (by simp), if_pos (by simp)]
end Go.Proofs.Ytcflafkafbpibaa.Pure
