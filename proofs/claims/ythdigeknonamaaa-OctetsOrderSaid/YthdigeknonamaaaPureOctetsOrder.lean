/- Of two numbers the bytes are in the numbers' order, for every two numbers and every count of bytes. -/
import Derived.Test.YthdigeknonamaaaPx2
import Derived.Test.YthdigeknonamaaaOct
namespace Go.Proofs.Ythdigeknonamaaa.Pure
open Go.RowKit Go.Proofs.Ythdigeknonamaaa.P Go.Proofs.Ythdigeknonamaaa.Lib Go.Proofs.Ythdigeknonamaaa.Oct Go.Proofs.YthdigeknonamaaaW.PrintWords Go.Proofs.YthdigeknonamaaaW.PrintLast Go.Proofs.YthdigeknonamaaaW.PrintMore

theorem awake_true {k : Nat} (h : 50 ≤ k) : carillonlaw01_awake.f k = some true := at_rounds (g := fun k => carillonlaw01_awake.f k) (fun k => carillonlaw01_awake.mono k) h (by decide +kernel)

theorem OctetsOrder : carillonlaw01_OctetsOrder.Pure := by
  intro a b c _ _ _
  obtain ⟨K, hK⟩ : ∃ K : Nat, 60 ≤ K := ⟨60, Nat.le_refl _⟩
  refine ⟨K + 1, ?_⟩
  obtain ⟨n, _, h1, h7, e1, e2, e3, hq, hQ, _, _, _⟩ := shl_of (c % 7) (Int.emod_nonneg c (by omega)) (by have := Int.emod_lt_of_pos c (show (0 : Int) < 7 by omega); omega)
  unfold carillonlaw01_OctetsOrder.f
  rw [place_of c 7 (by omega) (by omega)]
  simp only [Option.bind_some]
  rw [e3, e2, e1, if_pos (by omega), place_of a _ (by omega) (by omega), place_of b _ (by omega) (by omega)]
  simp only [Option.bind_some]
  have ha0 := Int.emod_nonneg a (show (256 : Int) ^ n ≠ 0 by omega)
  have ha1 := Int.emod_lt_of_pos a (show (0 : Int) < 256 ^ n by omega)
  have hb0 := Int.emod_nonneg b (show (256 : Int) ^ n ≠ 0 by omega)
  have hb1 := Int.emod_lt_of_pos b (show (0 : Int) < 256 ^ n by omega)
  generalize a % 256 ^ n = x at ha0 ha1 ⊢
  generalize b % 256 ^ n = y at hb0 hb1 ⊢
  rw [put_of [] x n (by omega) (by omega) (by simp), put_of [] y n (by omega) (by omega) (by simp), awake_true (k := K + 1) (by omega)]
  simp only [Option.bind_some, List.nil_append, Int.toNat_natCast]
  have hx : dec (enc x n) = x := by rw [dec_enc, Int.emod_eq_of_lt ha0 ha1]
  have hy : dec (enc y n) = y := by rw [dec_enc, Int.emod_eq_of_lt hb0 hb1]
  have c1 : (Op.bytesLess ((strOfNums (enc x n)).toList) ((strOfNums (enc y n)).toList) == decide (x < y)) = true := by
    rw [str_less (enc_by x n) (enc_by y n) (by rw [enc_length, enc_length]), hx, hy]
    exact beq_self_eq_true _
  have c2 : (((strOfNums (enc x n)).toList == (strOfNums (enc y n)).toList) == (x == y)) = true := by
    rw [str_eq (enc_by x n) (enc_by y n), beq_iff_eq, Bool.eq_iff_iff, decide_eq_true_eq, beq_iff_eq]
    exact ⟨fun h => by rw [← hx, ← hy, h], fun h => by rw [h]⟩
  rw [if_pos c1, if_pos c2, if_pos (by rw [str_size, enc_length])]

end Go.Proofs.Ythdigeknonamaaa.Pure
