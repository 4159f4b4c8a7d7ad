/- What is put is got: for every row of bytes and every message that may be. -/
import Derived.Test.YtpoocfapmgmfkaaZzPx10
import Derived.Test.YtpoocfapmgmfkaaZzBod
set_option linter.unusedVariables false
namespace Go.Proofs.Ytpoocfapmgmfkaa.Pure
open Go.RowKit Go.Proofs.Ytpoocfapmgmfkaa.P Go.Proofs.Ytpoocfapmgmfkaa.Lib Go.Proofs.Ytpoocfapmgmfkaa.Oct Go.Proofs.Ytpoocfapmgmfkaa.Ref Go.Proofs.Ytpoocfapmgmfkaa.Hdr Go.Proofs.Ytpoocfapmgmfkaa.Bod Go.Proofs.YtpoocfapmgmfkaaW.PrintWords Go.Proofs.YtpoocfapmgmfkaaW.PrintLast Go.Proofs.YtpoocfapmgmfkaaW.PrintMore
theorem awake_of (K : Nat) : carillonlaw07_awake.f (K + 2) = some true := by
  unfold carillonlaw07_awake.f
  rw [show K + 2 = (K + 1) + 1 from rfl, bPut_of [] (by simp) 11 0 0 0 0 0 0 0 0 0 0 0 0 0 0 0 0 0 0 0 0 0 0 (K + 1), show bok 11 0 0 0 0 0 0 0 0 0 0 0 0 0 0 0 0 0 0 0 0 0 0 = true by decide, if_pos rfl, Option.bind_some, if_pos rfl]
  have hl := bbytes_length 11 0 0 0 0 0 0 0 0 0 0 0 0 0 0 0 (by decide)
  rw [List.nil_append, hl, if_pos (by decide), len_of, Option.bind_some, if_pos (by decide), len_of, Option.bind_some]
  rfl
theorem BodyBack : carillonlaw07_BodyBack.Pure := by
  intro l m0 m1 m2 m3 m4 m5 m6 m7 m8 m9 m10 m11 m12 m13 m14 m15 m16 m17 m18 m19 m20 m21 m22 hm hl hw h0 h1 h2 h3 h4 h5 h6 h7 h8 h9 h10 h11 h12 h13 h14 h15 h16 h17 h18 h19 h20 h21 h22
  have hb := by_wf hw
  have h9 := wfu64 h9
  have h17 := wfu64 h17
  obtain ⟨K, hK⟩ : ∃ K : Nat, 60 ≤ K := ⟨60, Nat.le_refl _⟩
  refine ⟨K + 2, ?_⟩
  unfold carillonlaw07_BodyBack.f
  have haw := awake_of K
  rw [rbcheck_of, Option.bind_some, haw]
  cases hk : bok m0 m1 m2 m3 m4 m5 m6 m7 m8 m9 m10 m11 m12 m13 m14 m15 m16 m17 m18 m19 m20 m21 m22 with
  | false =>
    rw [if_neg Bool.false_ne_true]
    rfl
  | true =>
    have hc : carillonlaw00_Bytes.f l = some l := by
      unfold carillonlaw00_Bytes.f
      simp
      omega
    have hbl := bbytes_le m0 m8 m9 m10 m11 m12 m13 m14 m15 m16 m17 m18 m19 m20 m21 m22
    have hby := bbytes_by m0 m8 m9 m10 m11 m12 m13 m14 m15 m16 m17 m18 m19 m20 m21 m22
    have hkn : kn m0 = true := by
      unfold bok hok at hk
      simp only [Bool.and_eq_true] at hk
      exact hk.1.1
    have hL := bbytes_length m0 m8 m9 m10 m11 m12 m13 m14 m15 m16 m17 m18 m19 m20 m21 m22 hkn
    have hn := blen_range m0
    have hback := bget_back l [] m0 m1 m2 m3 m4 m5 m6 m7 m8 m9 m10 m11 m12 m13 m14 m15 m16 m17 m18 m19 m20 m21 m22 m1 m2 m3 m4 m5 m6 m7 hk h9 h17
    rw [List.append_nil] at hback
    rw [if_pos rfl, hc, Option.bind_some, show K + 2 = (K + 1) + 1 from rfl, bPut_of l (by omega), Option.bind_some, hk, if_pos rfl, show K + 1 + 1 = K + 2 from rfl, bGet_of (l ++ bbytes m0 m8 m9 m10 m11 m12 m13 m14 m15 m16 m17 m18 m19 m20 m21 m22) (hb.app hby) (by rw [List.length_append]; omega) _ _ _ _ _ _ _ _ _ _ _ _ _ _ _ _ _ _ _ _ _ _ _ l.length (by omega) K (by omega), hback, Option.bind_some, len_of]
    simp only [Option.bind_some]
    rw [if_pos trivial, if_pos trivial, if_pos (by rw [List.length_append]; omega), w64 _ (by omega) (by omega), if_pos rfl, if_pos (by simp only [beq_self_eq_true, Bool.and_self])]
end Go.Proofs.Ytpoocfapmgmfkaa.Pure
