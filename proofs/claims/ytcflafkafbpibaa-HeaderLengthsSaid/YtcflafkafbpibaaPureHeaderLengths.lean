/- A byte more is too long, one less too short: for every message and every length. -/
import Derived.Test.YtcflafkafbpibaaPx8
import Derived.Test.YtcflafkafbpibaaHdw
namespace Go.Proofs.Ytcflafkafbpibaa.Pure
open Go.RowKit Go.Proofs.Ytcflafkafbpibaa.P Go.Proofs.Ytcflafkafbpibaa.Lib Go.Proofs.Ytcflafkafbpibaa.Oct Go.Proofs.Ytcflafkafbpibaa.Idt Go.Proofs.Ytcflafkafbpibaa.Ref Go.Proofs.Ytcflafkafbpibaa.Hdr Go.Proofs.YtcflafkafbpibaaW.PrintWords Go.Proofs.YtcflafkafbpibaaW.PrintLast Go.Proofs.YtcflafkafbpibaaW.PrintMore

theorem awake_true {k : Nat} (h : 50 ≤ k) : carillonlaw06_awake.f k = some true := at_rounds (g := fun k => carillonlaw06_awake.f k) (fun k => carillonlaw06_awake.mono k) h (by decide +kernel)
theorem zeros_by (n : Nat) : By (List.replicate n 0) := by
  intro x hx
  obtain ⟨_, rfl⟩ := List.mem_replicate.1 hx
  omega
set_option maxHeartbeats 4000000 in
theorem HeaderLengths : carillonlaw06_HeaderLengths.Pure := by
  intro m0 m1 m2 m3 m4 m5 m6 m7 m8 m9 m10 m11 m12 m13 m14 m15 m16 m17 m18 m19 m20 m21 m22 a _ _ _ h3 h4 _ _ _ _ _ _ _ _ _ _ _ _ _ _ _ _ _ _ _
  have h3 := wf64 h3
  have h4 := wfu64 h4
  obtain ⟨K, hK⟩ : ∃ K : Nat, 60 ≤ K := ⟨60, Nat.le_refl _⟩
  refine ⟨K + 2, ?_⟩
  have haw := awake_true (k := K + 2) (by omega)
  have r1 := Int.emod_nonneg a (show (365 : Int) ≠ 0 by omega)
  have r2 := Int.emod_lt_of_pos a (show (0 : Int) < 365 by omega)
  unfold carillonlaw06_HeaderLengths.f
  rw [place_of a _ (by omega) (by omega), Option.bind_some]
  generalize a % 365 = x at *
  have w1 : wrap64 (35 + x) = 35 + x := w64 _ (by omega) (by omega)
  have w2 : wrap64 (35 + x - 34) = x + 1 := by rw [w64 _ (by omega) (by omega)]; omega
  have w3 : wrap64 (35 + x - 1) = 34 + x := by rw [w64 _ (by omega) (by omega)]; omega
  rw [w1, hPut_of, Option.bind_some, w2, w3, haw]
  have hn : within (35 + x) 34 400 = true := decide_eq_true (by omega)
  by_cases h : hok m0 m1 m2 m5 m6 m7 = true
  · rw [h, hn, if_pos (show (true && true) = true from rfl), if_pos rfl, if_pos (by omega)]
    have hl : (hdr m0 m1 m2 m3 m4 m5 m6 m7 (35 + x) ++ List.replicate (x + 1).toNat 0).length = 34 + (x + 1).toNat := by rw [List.length_append, hdr_length, List.length_replicate]
    have hby := (hdr_by m0 m1 m2 m3 m4 m5 m6 m7 (35 + x)).app (zeros_by (x + 1).toNat)
    have hc : carillonlaw00_Bytes.f (hdr m0 m1 m2 m3 m4 m5 m6 m7 (35 + x) ++ List.replicate (x + 1).toNat 0) = some (hdr m0 m1 m2 m3 m4 m5 m6 m7 (35 + x) ++ List.replicate (x + 1).toNat 0) := by
      unfold carillonlaw00_Bytes.f
      rw [if_pos (by rw [hl]; simp; omega)]
      rfl
    have g1 := hget_hdr m0 m1 m2 m3 m4 m5 m6 m7 (35 + x) (List.replicate (x + 1).toNat 0 ++ [0]) h hn h3 h4
    rw [List.length_append, List.length_replicate, if_neg (by simp; omega), if_pos (by simp; omega)] at g1
    rw [← List.append_assoc] at g1
    have g2 := hget_hdr m0 m1 m2 m3 m4 m5 m6 m7 (35 + x) (List.replicate x.toNat 0) h hn h3 h4
    rw [List.length_replicate, if_pos (by omega)] at g2
    have t2 : (hdr m0 m1 m2 m3 m4 m5 m6 m7 (35 + x) ++ List.replicate (x + 1).toNat 0).take (34 + x : Int).toNat = hdr m0 m1 m2 m3 m4 m5 m6 m7 (35 + x) ++ List.replicate x.toNat 0 := by
      rw [List.take_append, hdr_length, List.take_of_length_le (by rw [hdr_length]; omega), List.take_replicate]
      congr 2
      omega
    have hb0 : By [(0 : Int)] := zeros_by 1
    rw [if_pos (by rw [hdr_length]; omega), hc, Option.bind_some, if_pos (by rw [hl]; simp; omega)]
    rw [show K + 2 = (K + 1) + 1 by omega, hGet_of _ (hby.app hb0) (by rw [List.length_append, hl]; simp; omega) (K + 1) (by omega), g1, Option.bind_some, if_pos (by omega)]
    dsimp only
    rw [if_pos (by rw [hl]; omega), t2, hGet_of _ ((hdr_by _ _ _ _ _ _ _ _ _).app (zeros_by _)) (by rw [List.length_append, hdr_length, List.length_replicate]; omega) (K + 1) (by omega), g2, Option.bind_some, if_pos (by rw [hl]; omega)]
    rw [hGet_of _ (hby.take _) (by rw [List.length_take]; omega) (K + 1) (by omega)]
    have g3 : hget ((hdr m0 m1 m2 m3 m4 m5 m6 m7 (35 + x) ++ List.replicate (x + 1).toNat 0).take (33 : Int).toNat) = hz 2 := by
      unfold hget
      rw [if_pos (by rw [List.length_take, hl]; omega)]
    rw [g3, Option.bind_some]
    rfl
  · rw [Bool.eq_false_iff.2 h, Bool.false_and, if_neg Bool.false_ne_true, if_neg Bool.false_ne_true]
    rfl
end Go.Proofs.Ytcflafkafbpibaa.Pure
