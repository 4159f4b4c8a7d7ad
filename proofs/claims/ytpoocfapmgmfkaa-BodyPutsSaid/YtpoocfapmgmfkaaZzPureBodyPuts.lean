/- Any message behind any bytes: put as the document has it, and the room behind the bytes stays: for every row of bytes and every message. -/
import Derived.Test.YtpoocfapmgmfkaaZzPx8
import Derived.Test.YtpoocfapmgmfkaaZzBod
set_option linter.unusedVariables false
namespace Go.Proofs.Ytpoocfapmgmfkaa.Pure
open Go.RowKit Go.Proofs.Ytpoocfapmgmfkaa.P Go.Proofs.Ytpoocfapmgmfkaa.Lib Go.Proofs.Ytpoocfapmgmfkaa.Oct Go.Proofs.Ytpoocfapmgmfkaa.Ref Go.Proofs.Ytpoocfapmgmfkaa.Hdr Go.Proofs.Ytpoocfapmgmfkaa.Bod Go.Proofs.YtpoocfapmgmfkaaW.PrintWords Go.Proofs.YtpoocfapmgmfkaaW.PrintLast Go.Proofs.YtpoocfapmgmfkaaW.PrintMore
theorem awake_of (K : Nat) : carillonlaw07_awake.f (K + 2) = some true := by
  unfold carillonlaw07_awake.f
  rw [show K + 2 = (K + 1) + 1 from rfl, bPut_of [] (by simp) 11 0 0 0 0 0 0 0 0 0 0 0 0 0 0 0 0 0 0 0 0 0 0 (K + 1), show bok 11 0 0 0 0 0 0 0 0 0 0 0 0 0 0 0 0 0 0 0 0 0 0 = true by decide, if_pos rfl, Option.bind_some, if_pos rfl]
  have hl := bbytes_length 11 0 0 0 0 0 0 0 0 0 0 0 0 0 0 0 (by decide)
  rw [List.nil_append, hl, if_pos (by decide), len_of, Option.bind_some, if_pos (by decide), len_of, Option.bind_some]
  rfl
theorem BodyPuts : carillonlaw07_BodyPuts.Pure := by
  intro l m0 m1 m2 m3 m4 m5 m6 m7 m8 m9 m10 m11 m12 m13 m14 m15 m16 m17 m18 m19 m20 m21 m22 hm hl hw h0 h1 h2 h3 h4 h5 h6 h7 h8 h9 h10 h11 h12 h13 h14 h15 h16 h17 h18 h19 h20 h21 h22
  have hb := by_wf hw
  obtain ⟨K, hK⟩ : ∃ K : Nat, 60 ≤ K := ⟨60, Nat.le_refl _⟩
  refine ⟨K + 2, ?_⟩
  unfold carillonlaw07_BodyPuts.f
  have hwr : wrap64 ((l.length : Int) + 1) = (l.length : Int) + 1 := w64 _ (by omega) (by omega)
  have hlen : (l ++ [99] : List Int).length = l.length + 1 := by simp
  have haw := awake_of K
  rw [if_pos (by omega), if_pos (by simp; omega), if_pos (by omega), if_pos (by rw [hlen]; omega), more_take, show K + 2 = (K + 1) + 1 from rfl, bPut_of l (by omega), rbcheck_of, rbPut_of _ _ _ _ _ _ _ _ _ _ _ _ _ _ _ _ _ _ _ _ _ _ _ (K + 1 + 1) (by omega), bcheck_of, show K + 1 + 1 = K + 2 from rfl, len_of, rlen_of, haw]
  simp only [Option.bind_some]
  have hbl := bbytes_le m0 m8 m9 m10 m11 m12 m13 m14 m15 m16 m17 m18 m19 m20 m21 m22
  have fin : (if 0 ≤ wrap64 ((l.length : Int) + 1) then (if wrap64 ((l.length : Int) + 1) ≤ ((l ++ [99] : List Int).length : Int) then (if (l.length : Int) < (((l ++ [99] : List Int).take (wrap64 ((l.length : Int) + 1) : Int).toNat).length : Int) then (if (l.length : Int) < ((l ++ [99] : List Int).length : Int) then (if (rd (l ++ [99] : List Int) (l.length : Int)) = 99 then some true else some false) else none) else none) else none) else none) = some true := by
    rw [more_take1 l 99 hwr, hwr, if_pos (by omega), if_pos (by rw [hlen]; omega), if_pos (by rw [hlen]; omega), if_pos (by rw [hlen]; omega), more_rd, if_pos rfl]
  cases hk : bok m0 m1 m2 m3 m4 m5 m6 m7 m8 m9 m10 m11 m12 m13 m14 m15 m16 m17 m18 m19 m20 m21 m22 with
  | true =>
    rw [if_pos rfl, if_pos rfl, str_size, str_size, if_pos (by omega), str_app]
    rw [if_pos (show (true == true) = true from rfl), if_pos (show (true == true) = true from rfl), if_pos (by simp), if_pos trivial]
    exact fin
  | false =>
    rw [if_neg Bool.false_ne_true, if_neg Bool.false_ne_true, if_pos (show (false == false) = true from rfl), if_pos (show (false == false) = true from rfl), if_pos (by simp), if_pos trivial]
    exact fin
end Go.Proofs.Ytpoocfapmgmfkaa.Pure
