/- What is put, with so many bytes behind it, is got: for every message and every length. -/
import Derived.Test.YtcflafkafbpibaaPx7
import Derived.Test.YtcflafkafbpibaaHdw
namespace Go.Proofs.Ytcflafkafbpibaa.Pure
open Go.RowKit Go.Proofs.Ytcflafkafbpibaa.P Go.Proofs.Ytcflafkafbpibaa.Lib Go.Proofs.Ytcflafkafbpibaa.Oct Go.Proofs.Ytcflafkafbpibaa.Idt Go.Proofs.Ytcflafkafbpibaa.Ref Go.Proofs.Ytcflafkafbpibaa.Hdr Go.Proofs.YtcflafkafbpibaaW.PrintWords Go.Proofs.YtcflafkafbpibaaW.PrintLast Go.Proofs.YtcflafkafbpibaaW.PrintMore

theorem awake_true {k : Nat} (h : 50 ≤ k) : carillonlaw06_awake.f k = some true := at_rounds (g := fun k => carillonlaw06_awake.f k) (fun k => carillonlaw06_awake.mono k) h (by decide +kernel)
theorem zeros_by (n : Nat) : By (List.replicate n 0) := by
  intro x hx
  obtain ⟨_, rfl⟩ := List.mem_replicate.1 hx
  omega
theorem HeaderBack : carillonlaw06_HeaderBack.Pure := by
  intro m0 m1 m2 m3 m4 m5 m6 m7 m8 m9 m10 m11 m12 m13 m14 m15 m16 m17 m18 m19 m20 m21 m22 a _ _ _ h3 h4 _ _ _ _ _ _ _ _ _ _ _ _ _ _ _ _ _ _ _
  have h3 := wf64 h3
  have h4 := wfu64 h4
  obtain ⟨K, hK⟩ : ∃ K : Nat, 60 ≤ K := ⟨60, Nat.le_refl _⟩
  refine ⟨K + 2, ?_⟩
  have haw := awake_true (k := K + 2) (by omega)
  have r1 := Int.emod_nonneg a (show (367 : Int) ≠ 0 by omega)
  have r2 := Int.emod_lt_of_pos a (show (0 : Int) < 367 by omega)
  unfold carillonlaw06_HeaderBack.f
  rw [place_of a _ (by omega) (by omega), Option.bind_some]
  generalize a % 367 = x at *
  have w1 : wrap64 (34 + x) = 34 + x := w64 _ (by omega) (by omega)
  have w2 : wrap64 (34 + x - 34) = x := by rw [w64 _ (by omega) (by omega)]; omega
  rw [w1, hPut_of, Option.bind_some, w2, haw]
  have hn : within (34 + x) 34 400 = true := decide_eq_true (by omega)
  by_cases h : hok m0 m1 m2 m5 m6 m7 = true
  · rw [h, hn, if_pos (show (true && true) = true from rfl), if_pos rfl, if_pos r1]
    rw [if_pos (by simp only [hdr_length]; omega)]
    have hg := hget_hdr m0 m1 m2 m3 m4 m5 m6 m7 (34 + x) (List.replicate x.toNat 0) h hn h3 h4
    rw [List.length_replicate, if_neg (by omega), if_neg (by omega)] at hg
    rw [show K + 2 = (K + 1) + 1 by omega, hGet_of _ ((hdr_by _ _ _ _ _ _ _ _ _).app (zeros_by _)) (by rw [List.length_append, hdr_length, List.length_replicate]; omega) (K + 1) (by omega), hg, Option.bind_some]
    rw [if_pos rfl, if_pos rfl, if_pos (by simp only [beq_self_eq_true, Bool.and_self])]
    rfl
  · rw [Bool.eq_false_iff.2 h, Bool.false_and, if_neg Bool.false_ne_true, if_neg Bool.false_ne_true]
    rfl
end Go.Proofs.Ytcflafkafbpibaa.Pure
