/- A stamp that is put is read, and its bytes are in the order of time: for every two stamps. -/
import Derived.Test.YteahnnhekfkabaaPx7
import Derived.Test.YteahnnhekfkabaaStm
namespace Go.Proofs.Yteahnnhekfkabaa.Pure
open Go.RowKit Go.Proofs.Yteahnnhekfkabaa.P Go.Proofs.Yteahnnhekfkabaa.Lib Go.Proofs.Yteahnnhekfkabaa.Oct Go.Proofs.Yteahnnhekfkabaa.Ref Go.Proofs.Yteahnnhekfkabaa.Stm Go.Proofs.YteahnnhekfkabaaW.PrintWords Go.Proofs.YteahnnhekfkabaaW.PrintLast Go.Proofs.YteahnnhekfkabaaW.PrintMore

theorem dec_encS (t : Int) : dec (encS t) = asS t / 1000000000 * 4294967296 + asS t % 1000000000 := by
  have hr := asS_range t
  unfold encS
  rw [dec_append, enc_length, dec_enc, dec_enc, p4, p6]
  omega
theorem StampBack : carillonlaw02_StampBack.Pure := by
  intro t u h1 h2
  obtain ⟨K, hK⟩ : ∃ K : Nat, 60 ≤ K := ⟨60, Nat.le_refl _⟩
  refine ⟨K + 1, ?_⟩
  have haw : carillonlaw02_awake.f = some true := by decide +kernel
  unfold carillonlaw02_StampBack.f
  rw [place_of t _ (by omega) (by omega), place_of u _ (by omega) (by omega)]
  simp only [Option.bind_some]
  have r1 := Int.emod_nonneg t (show (4000000000000001 : Int) ≠ 0 by omega)
  have r2 := Int.emod_lt_of_pos t (show (0 : Int) < 4000000000000001 by omega)
  have r3 := Int.emod_nonneg u (show (4000000000000001 : Int) ≠ 0 by omega)
  have r4 := Int.emod_lt_of_pos u (show (0 : Int) < 4000000000000001 by omega)
  generalize t % 4000000000000001 = x at *
  generalize u % 4000000000000001 = y at *
  have ax : asS x = x := if_pos ⟨r1, by omega⟩
  have ay : asS y = y := if_pos ⟨r3, by omega⟩
  rw [stPut_of [] x (by simp), stPut_of [1, 2] y (by simp)]
  simp only [Option.bind_some, List.nil_append]
  have e1 := stampAt_enc [] [] x 0 (by simp)
  have e2 := stampAt_enc [1, 2] [] y 2 (by simp)
  rw [List.nil_append, List.append_nil, ax] at e1
  rw [List.append_nil, ay] at e2
  have hb2 : By ([1, 2] ++ encS y) := by
    refine By.app ?_ (encS_by y)
    intro z hz
    simp only [List.mem_cons, List.not_mem_nil, or_false] at hz
    rcases hz with rfl | rfl <;> omega
  have hl2 : ([1, 2] ++ encS y).length = 12 := by simp [encS_length]
  rw [stGet_of _ (encS_by x) (by rw [encS_length]; omega) 0 (by omega) K (by omega), e1, stGet_of _ hb2 (by rw [hl2]; omega) 2 (by omega) K (by omega), e2]
  simp only [Option.bind_some]
  have hd : ((([1, 2] ++ encS y).take ((([1, 2] ++ encS y).length : Int) : Int).toNat).drop (2 : Int).toNat) = encS y := by
    rw [List.take_of_length_le (by omega)]
    rfl
  rw [if_pos trivial, if_pos trivial, if_pos trivial, if_pos trivial, encS_length, if_pos (by omega), hl2, if_pos (by omega)]
  rw [hl2] at hd
  rw [hd, str_less (encS_by x) (encS_by y) (by rw [encS_length, encS_length]), dec_encS, dec_encS, ax, ay, haw]
  rw [if_pos]
  · rfl
  · rw [beq_iff_eq, decide_eq_decide]
    omega
end Go.Proofs.Yteahnnhekfkabaa.Pure
