/- With one byte less than its type has there is nothing: for every message and whatever stands behind it. -/
import Derived.Test.YtpoocfapmgmfkaaZzPx6
import Derived.Test.YtpoocfapmgmfkaaZzBod
set_option linter.unusedVariables false
namespace Go.Proofs.Ytpoocfapmgmfkaa.Pure
open Go.RowKit Go.Proofs.Ytpoocfapmgmfkaa.P Go.Proofs.Ytpoocfapmgmfkaa.Lib Go.Proofs.Ytpoocfapmgmfkaa.Oct Go.Proofs.Ytpoocfapmgmfkaa.Ref Go.Proofs.Ytpoocfapmgmfkaa.Hdr Go.Proofs.Ytpoocfapmgmfkaa.Bod Go.Proofs.YtpoocfapmgmfkaaW.PrintWords Go.Proofs.YtpoocfapmgmfkaaW.PrintLast Go.Proofs.YtpoocfapmgmfkaaW.PrintMore
theorem awake_of (K : Nat) : carillonlaw07_awake.f (K + 2) = some true := by
  unfold carillonlaw07_awake.f
  rw [show K + 2 = (K + 1) + 1 from rfl, bPut_of [] (by simp) 11 0 0 0 0 0 0 0 0 0 0 0 0 0 0 0 0 0 0 0 0 0 0 (K + 1), show bok 11 0 0 0 0 0 0 0 0 0 0 0 0 0 0 0 0 0 0 0 0 0 0 = true by decide, if_pos rfl, Option.bind_some, if_pos rfl]
  have hl := bbytes_length 11 0 0 0 0 0 0 0 0 0 0 0 0 0 0 0 (by decide)
  rw [List.nil_append, hl, if_pos (by decide), len_of, Option.bind_some, if_pos (by decide), len_of, Option.bind_some]
  rfl
theorem BodyShort : carillonlaw07_BodyShort.Pure := by
  intro m0 m1 m2 m3 m4 m5 m6 m7 m8 m9 m10 m11 m12 m13 m14 m15 m16 m17 m18 m19 m20 m21 m22 q h0 h1 h2 h3 h4 h5 h6 h7 h8 h9 h10 h11 h12 h13 h14 h15 h16 h17 h18 h19 h20 h21 h22 hm hl hw
  have hq := by_wf hw
  have h9 := wfu64 h9
  have h17 := wfu64 h17
  obtain ⟨K, hK⟩ : ∃ K : Nat, 60 ≤ K := ⟨60, Nat.le_refl _⟩
  refine ⟨K + 2, ?_⟩
  unfold carillonlaw07_BodyShort.f
  have haw := awake_of K
  rw [show K + 2 = (K + 1) + 1 from rfl, bPut_of [] (by simp), show K + 1 + 1 = K + 2 from rfl, Option.bind_some, haw]
  cases hk : bok m0 m1 m2 m3 m4 m5 m6 m7 m8 m9 m10 m11 m12 m13 m14 m15 m16 m17 m18 m19 m20 m21 m22 with
  | false =>
    rw [if_neg Bool.false_ne_true, if_neg Bool.false_ne_true]
    rfl
  | true =>
    have hbl := bbytes_le m0 m8 m9 m10 m11 m12 m13 m14 m15 m16 m17 m18 m19 m20 m21 m22
    have hby := bbytes_by m0 m8 m9 m10 m11 m12 m13 m14 m15 m16 m17 m18 m19 m20 m21 m22
    have hkn : kn m0 = true := by
      unfold bok hok at hk
      simp only [Bool.and_eq_true] at hk
      exact hk.1.1
    have hL := bbytes_length m0 m8 m9 m10 m11 m12 m13 m14 m15 m16 m17 m18 m19 m20 m21 m22 hkn
    have hn := blen_range m0
    have hpos : 10 ≤ blen m0 := by
      rcases kinds m0 with k | k | k | k | k | k
      · omega
      · omega
      · omega
      · omega
      · omega
      · rw [hkn] at k
        exact absurd k.2.2.1 (by simp)
    have hback := bget_back [] q m0 m1 m2 m3 m4 m5 m6 m7 m8 m9 m10 m11 m12 m13 m14 m15 m16 m17 m18 m19 m20 m21 m22 0 0 0 0 0 0 0 hk h9 h17
    rw [List.nil_append] at hback
    have hc : carillonlaw00_Bytes.f (bbytes m0 m8 m9 m10 m11 m12 m13 m14 m15 m16 m17 m18 m19 m20 m21 m22) = some (bbytes m0 m8 m9 m10 m11 m12 m13 m14 m15 m16 m17 m18 m19 m20 m21 m22) := by
      unfold carillonlaw00_Bytes.f
      simp
      omega
    rw [if_pos rfl, List.nil_append]
    dsimp only
    rw [if_pos rfl, w64 _ (by omega) (by omega), if_pos (by omega), if_pos (by omega), hc]
    simp only [Option.bind_some]
    have e1 : bget ((bbytes m0 m8 m9 m10 m11 m12 m13 m14 m15 m16 m17 m18 m19 m20 m21 m22).take (((bbytes m0 m8 m9 m10 m11 m12 m13 m14 m15 m16 m17 m18 m19 m20 m21 m22).length : Int) - 1).toNat) 0 m0 0 0 0 0 0 0 0 0 0 0 0 0 0 0 0 0 0 0 0 0 0 0 = bz 2 := by
      unfold bget
      rw [if_neg (fun h => by have := h.2.2; rw [List.length_take] at this; omega)]
    have e2 : bget (bbytes m0 m8 m9 m10 m11 m12 m13 m14 m15 m16 m17 m18 m19 m20 m21 m22) 1 m0 0 0 0 0 0 0 0 0 0 0 0 0 0 0 0 0 0 0 0 0 0 0 = bz 2 := by
      unfold bget
      rw [if_neg (fun h => by have := h.2.2; omega)]
    rw [bGet_of _ (hby.take _) (by rw [List.length_take]; omega) _ _ _ _ _ _ _ _ _ _ _ _ _ _ _ _ _ _ _ _ _ _ _ 0 (by omega) K (by omega), e1, Option.bind_some, if_pos (by omega), bGet_of (bbytes m0 m8 m9 m10 m11 m12 m13 m14 m15 m16 m17 m18 m19 m20 m21 m22 ++ q) (hby.app hq) (by rw [List.length_append]; omega) _ _ _ _ _ _ _ _ _ _ _ _ _ _ _ _ _ _ _ _ _ _ _ 0 (by omega) K (by omega), bGet_of _ hby (by omega) _ _ _ _ _ _ _ _ _ _ _ _ _ _ _ _ _ _ _ _ _ _ _ 1 (by omega) K (by omega), e2]
    rw [show ((([] : List Int).length : Nat) : Int) = 0 from rfl] at hback
    rw [hback]
    simp only [Option.bind_some]
    rw [if_pos (show (bz 2).2.2.2.2.2.2.2.2.2.2.2.2.2.2.2.2.2.2.2.2.2.2.2.2 = 2 from rfl), if_pos trivial, if_pos (by omega), if_pos trivial, if_pos (by simp), if_pos trivial, if_pos (show (bz 2).2.2.2.2.2.2.2.2.2.2.2.2.2.2.2.2.2.2.2.2.2.2.2.2 = 2 from rfl)]
end Go.Proofs.Ytpoocfapmgmfkaa.Pure
