/- A number that has room in so many bytes, with its sign, is read as it is; one more has none: for every number and count. -/
import Derived.Test.YthdigeknonamaaaPx3
import Derived.Test.YthdigeknonamaaaOct
namespace Go.Proofs.Ythdigeknonamaaa.Pure
open Go.RowKit Go.Proofs.Ythdigeknonamaaa.P Go.Proofs.Ythdigeknonamaaa.Lib Go.Proofs.Ythdigeknonamaaa.Oct Go.Proofs.YthdigeknonamaaaW.PrintWords Go.Proofs.YthdigeknonamaaaW.PrintLast Go.Proofs.YthdigeknonamaaaW.PrintMore

theorem awake_true {k : Nat} (h : 50 ≤ k) : carillonlaw01_awake.f k = some true := at_rounds (g := fun k => carillonlaw01_awake.f k) (fun k => carillonlaw01_awake.mono k) h (by decide +kernel)

theorem OctetsSigns : carillonlaw01_OctetsSigns.Pure := by
  intro a c _ _
  obtain ⟨K, hK⟩ : ∃ K : Nat, 60 ≤ K := ⟨60, Nat.le_refl _⟩
  refine ⟨K + 1, ?_⟩
  obtain ⟨n, _, h1, h7, e1, e2, e3, hq, hQ, hev, e4, e5⟩ := shl_of (c % 7) (Int.emod_nonneg c (by omega)) (by have := Int.emod_lt_of_pos c (show (0 : Int) < 7 by omega); omega)
  unfold carillonlaw01_OctetsSigns.f
  rw [place_of c 7 (by omega) (by omega)]
  simp only [Option.bind_some]
  rw [e5, e4, e1, if_pos (by omega)]
  have w2 : wrap64 (2 * ((256 : Int) ^ n / 2)) = 256 ^ n := by rw [w64 _ (by omega) (by omega)]; omega
  rw [w2, place_of a _ (by omega) (by omega)]
  simp only [Option.bind_some]
  have ha0 := Int.emod_nonneg a (show (256 : Int) ^ n ≠ 0 by omega)
  have ha1 := Int.emod_lt_of_pos a (show (0 : Int) < 256 ^ n by omega)
  generalize a % 256 ^ n = x at ha0 ha1 ⊢
  have w3 : wrap64 (x - 256 ^ n / 2) = x - 256 ^ n / 2 := w64 _ (by omega) (by omega)
  have w4 : wrap64 (-((256 : Int) ^ n / 2)) = -(256 ^ n / 2) := w64 _ (by omega) (by omega)
  rw [w3, w4]
  have hget : ∀ v : Int, octets_Signed.f (K + 1) ([] ++ enc v n) 0 n = some (sgn n (v % 256 ^ n), true) := by
    intro v
    have hh : has (enc v n) 0 n := ⟨by omega, by omega, by rw [enc_length]; omega⟩
    have hc : cut (enc v n) 0 n = enc v n := by
      unfold cut
      rw [show (0 + (n : Int)).toNat = (enc v n).length by rw [enc_length]; omega, List.take_length]
      rfl
    rw [List.nil_append, signed_yes _ (enc_by v n) (by rw [enc_length]; omega) 0 n hh (by omega) (by omega) (K + 1) (by omega), hc, dec_enc, Int.toNat_natCast]
  rw [put_of [] _ n (by omega) (by omega) (by simp), put_of [] _ n (by omega) (by omega) (by simp), awake_true (k := K + 1) (by omega)]
  simp only [Option.bind_some, Int.toNat_natCast]
  rw [hget, hget]
  simp only [Option.bind_some, if_true]
  have s1 : sgn n ((x - 256 ^ n / 2) % 256 ^ n) = x - 256 ^ n / 2 := by
    unfold sgn
    generalize (256 : Int) ^ n = Q at *
    by_cases h : Q / 2 ≤ x
    · rw [Int.emod_eq_of_lt (by omega) (by omega), if_pos (by omega)]
    · have : (x - Q / 2) % Q = x - Q / 2 + Q := by
        rw [← Int.add_emod_right, Int.emod_eq_of_lt (by omega) (by omega)]
      rw [this, if_neg (by omega)]
      omega
  have s2 : sgn n ((256 : Int) ^ n / 2 % 256 ^ n) = -(256 ^ n / 2) := by
    unfold sgn
    generalize (256 : Int) ^ n = Q at *
    rw [Int.emod_eq_of_lt (by omega) (by omega), if_neg (by omega)]
    omega
  rw [s1, s2, if_pos rfl, if_pos rfl]

end Go.Proofs.Ythdigeknonamaaa.Pure
