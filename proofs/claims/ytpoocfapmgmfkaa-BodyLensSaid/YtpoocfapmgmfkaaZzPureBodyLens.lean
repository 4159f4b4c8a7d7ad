/- How many bytes each type has behind its header: for each type. -/
import Derived.Test.YtpoocfapmgmfkaaZzPx8
import Derived.Test.YtpoocfapmgmfkaaZzBod
set_option linter.unusedVariables false
namespace Go.Proofs.Ytpoocfapmgmfkaa.Pure
open Go.RowKit Go.Proofs.Ytpoocfapmgmfkaa.P Go.Proofs.Ytpoocfapmgmfkaa.Lib Go.Proofs.Ytpoocfapmgmfkaa.Oct Go.Proofs.Ytpoocfapmgmfkaa.Hdr Go.Proofs.Ytpoocfapmgmfkaa.Bod Go.Proofs.YtpoocfapmgmfkaaW.PrintWords Go.Proofs.YtpoocfapmgmfkaaW.PrintLast Go.Proofs.YtpoocfapmgmfkaaW.PrintMore
theorem awake_of (K : Nat) : carillonlaw07_awake.f (K + 2) = some true := by
  unfold carillonlaw07_awake.f
  rw [show K + 2 = (K + 1) + 1 from rfl, bPut_of [] (by simp) 11 0 0 0 0 0 0 0 0 0 0 0 0 0 0 0 0 0 0 0 0 0 0 (K + 1), show bok 11 0 0 0 0 0 0 0 0 0 0 0 0 0 0 0 0 0 0 0 0 0 0 = true by decide, if_pos rfl, Option.bind_some, if_pos rfl]
  have hl := bbytes_length 11 0 0 0 0 0 0 0 0 0 0 0 0 0 0 0 (by decide)
  rw [List.nil_append, hl, if_pos (by decide), len_of, Option.bind_some, if_pos (by decide), len_of, Option.bind_some]
  rfl
theorem lens_from (K : Nat) (d : Nat) : ∀ (m : Nat) (t : Int), -3 ≤ t → t + d = 16 → d < m → carillonlaw07_BodyLens.l1 (K + 2) m 10 10 20 20 0 0 0 0 10 20 20 30 10 14 0 0 t = some true := by
  induction d with
  | zero =>
    intro m t h1 h2 hm
    obtain ⟨m, rfl⟩ : ∃ x, m = x + 1 := ⟨m - 1, by omega⟩
    rw [carillonlaw07_BodyLens.l1, if_neg (by omega), awake_of]
    rfl
  | succ d ih =>
    intro m t h1 h2 hm
    obtain ⟨m, rfl⟩ : ∃ x, m = x + 1 := ⟨m - 1, by omega⟩
    have hn := ih m (t + 1) (by omega) (by omega) (by omega)
    rw [carillonlaw07_BodyLens.l1, if_pos (by omega), w64 (t + 1) (by omega) (by omega), show K + 2 = (K + 1) + 1 from rfl, bPut_of [] (by simp), show K + 1 + 1 = K + 2 from rfl, len_of, hn]
    simp only [Option.bind_some]
    have fin : ∀ n : Int, n = blen t → (if bok t 0 0 0 0 0 0 0 0 0 0 0 0 0 0 0 0 0 0 0 0 0 0 = true then (([] : List Int) ++ bbytes t 0 0 0 0 0 0 0 0 0 0 0 0 0 0 0, true) else ([], false)).2 = decide (n > 0) → (((if bok t 0 0 0 0 0 0 0 0 0 0 0 0 0 0 0 0 0 0 0 0 0 0 = true then (([] : List Int) ++ bbytes t 0 0 0 0 0 0 0 0 0 0 0 0 0 0 0, true) else ([], false)).1.length : Nat) : Int) = n →
        (if blen t = n then (if ((if bok t 0 0 0 0 0 0 0 0 0 0 0 0 0 0 0 0 0 0 0 0 0 0 = true then (([] : List Int) ++ bbytes t 0 0 0 0 0 0 0 0 0 0 0 0 0 0 0, true) else ([], false)).2 == decide (n > 0)) = true then (if (((if bok t 0 0 0 0 0 0 0 0 0 0 0 0 0 0 0 0 0 0 0 0 0 0 = true then (([] : List Int) ++ bbytes t 0 0 0 0 0 0 0 0 0 0 0 0 0 0 0, true) else ([], false)).1.length : Nat) : Int) = n then some true else some false) else some false) else some false) = some true := by
      intro n g1 g2 g3
      rw [if_pos g1.symm, if_pos (by rw [g2]; simp), if_pos g3]
    have hh : t = -3 ∨ t = -2 ∨ t = -1 ∨ t = 0 ∨ t = 1 ∨ t = 2 ∨ t = 3 ∨ t = 4 ∨ t = 5 ∨ t = 6 ∨ t = 7 ∨ t = 8 ∨ t = 9 ∨ t = 10 ∨ t = 11 ∨ t = 12 ∨ t = 13 ∨ t = 14 ∨ t = 15 := by omega
    by_cases h0 : t ≥ 0
    · rw [if_pos h0, if_pos (by omega)]
      refine fin _ ?_ ?_ ?_ <;> rcases hh with rfl | rfl | rfl | rfl | rfl | rfl | rfl | rfl | rfl | rfl | rfl | rfl | rfl | rfl | rfl | rfl | rfl | rfl | rfl <;> first | omega | decide +kernel
    · rw [if_neg h0]
      refine fin 0 ?_ ?_ ?_ <;> rcases hh with rfl | rfl | rfl | rfl | rfl | rfl | rfl | rfl | rfl | rfl | rfl | rfl | rfl | rfl | rfl | rfl | rfl | rfl | rfl <;> first | omega | decide +kernel
theorem BodyLens : carillonlaw07_BodyLens.Pure := by
  obtain ⟨K, hK⟩ : ∃ K : Nat, 60 ≤ K := ⟨60, Nat.le_refl _⟩
  refine ⟨K + 2, ?_⟩
  unfold carillonlaw07_BodyLens.f
  exact lens_from K 19 (K + 2) (-3) (by omega) (by omega) (by omega)
end Go.Proofs.Ytpoocfapmgmfkaa.Pure
