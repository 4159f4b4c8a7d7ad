/- What is put is read, with a sign or without: for every number, count and identity. -/
import Derived.Test.YthdigeknonamaaaPx4
import Derived.Test.YthdigeknonamaaaOct
namespace Go.Proofs.Ythdigeknonamaaa.Pure
open Go.RowKit Go.Proofs.Ythdigeknonamaaa.P Go.Proofs.Ythdigeknonamaaa.Lib Go.Proofs.Ythdigeknonamaaa.Oct Go.Proofs.YthdigeknonamaaaW.PrintWords Go.Proofs.YthdigeknonamaaaW.PrintLast Go.Proofs.YthdigeknonamaaaW.PrintMore

theorem awake_true {k : Nat} (h : 50 ≤ k) : carillonlaw01_awake.f k = some true := at_rounds (g := fun k => carillonlaw01_awake.f k) (fun k => carillonlaw01_awake.mono k) h (by decide +kernel)

theorem cut_behind (p q : List Int) : cut (p ++ q) p.length q.length = q := by
  have h := cut_app p q [] p.length q.length rfl rfl
  rwa [List.append_nil] at h
theorem OctetsBack : carillonlaw01_OctetsBack.Pure := by
  intro a c d ha _ hd
  have ha := wf64 ha
  have hd := wfu64 hd
  obtain ⟨K, hK⟩ : ∃ K : Nat, 60 ≤ K := ⟨60, Nat.le_refl _⟩
  refine ⟨K + 1, ?_⟩
  obtain ⟨n, _, h1, h7, e1, e2, e3, hq, hQ, hev, _, _⟩ := shl_of (c % 7) (Int.emod_nonneg c (by omega)) (by have := Int.emod_lt_of_pos c (show (0 : Int) < 7 by omega); omega)
  unfold carillonlaw01_OctetsBack.f
  rw [place_of c 7 (by omega) (by omega)]
  simp only [Option.bind_some]
  rw [e3, e2, e1, put_of [7] a n (by omega) (by omega) (by simp)]
  simp only [Option.bind_some, Int.toNat_natCast]
  have hby : By ([7] ++ enc a n) := By.app (fun x hx => by simp at hx; omega) (enc_by a n)
  have hlen : ([7] ++ enc a n).length = n + 1 := by rw [List.length_append, enc_length]; simp; omega
  have hh : has ([7] ++ enc a n) 1 n := ⟨by omega, by omega, by omega⟩
  have hc : cut ([7] ++ enc a n) 1 n = enc a n := by
    have := cut_behind [7] (enc a n)
    rw [enc_length] at this
    exact this
  rw [get_yes _ hby (by omega) 1 n hh (by omega) (by omega) (K + 1) (by omega), signed_yes _ hby (by omega) 1 n hh (by omega) (by omega) (K + 1) (by omega), hc, dec_enc, Int.toNat_natCast]
  simp only [Option.bind_some, if_true]
  have wq : wrap64 ((256 : Int) ^ n - 1) = 256 ^ n - 1 := w64 _ (by omega) (by omega)
  rw [if_pos (by omega), wq, mask_of a n h1 h7, if_pos rfl]
  have hv0 := Int.emod_nonneg a (show (256 : Int) ^ n ≠ 0 by omega)
  have hv1 := Int.emod_lt_of_pos a (show (0 : Int) < 256 ^ n by omega)
  have fin : carillonlaw01_OctetsBack.j0 (K + 1) a d false = some true := by
    rw [carillonlaw01_OctetsBack.j0, if_neg (by simp)]
    have aw49 : carillonlaw01_awake.f K = some true := awake_true (by omega)
    have l8 : (enc a 8).length = 8 := enc_length a 8
    have m8 : (enc d 8).length = 8 := enc_length d 8
    have c8 : cut (enc a 8) 0 8 = enc a 8 := by
      have := cut_behind [] (enc a 8)
      rw [l8] at this
      exact this
    have d8 : cut (enc d 8) 0 8 = enc d 8 := by
      have := cut_behind [] (enc d 8)
      rw [m8] at this
      exact this
    rw [put8 [] a (by simp), putId_of [] d (by simp), List.nil_append, List.nil_append, aw49]
    simp only [Option.bind_some]
    rw [signed_yes _ (enc_by a 8) (by omega) 0 8 ⟨by omega, by omega, by omega⟩ (by omega) (by omega) K (by omega), getId_of _ (enc_by d 8) (by omega) 0 (by omega) K (by omega), if_pos ⟨by omega, by omega, by omega⟩, c8, d8, dec_enc, dec_enc]
    simp only [Option.bind_some, if_true]
    have s1 : sgn (8 : Int).toNat (a % 256 ^ 8) = a := by
      rw [show (8 : Int).toNat = 8 from rfl]
      unfold sgn
      rw [pow8]
      split <;> omega
    have s2 : d % 256 ^ 8 = d := by
      rw [pow8]
      omega
    rw [s1, s2, if_pos rfl, if_pos rfl]
  have wn : wrap64 (-(256 : Int) ^ n) = -256 ^ n := w64 _ (by omega) (by omega)
  rw [wn]
  generalize hQe : (256 : Int) ^ n = Q at *
  generalize hx : a % Q = x at *
  have t1 : wrap64 (Int.tdiv Q 2) = Q / 2 := by
    rw [td Q 2 (by omega), if_pos (by omega)]
    exact w64 _ (by omega) (by omega)
  have t2 : wrap64 (Int.tdiv (-Q) 2) = -(Q / 2) := by
    rw [td (-Q) 2 (by omega), if_pos (by omega)]
    rw [w64 _ (by omega) (by omega)]
    omega
  have t3 : wrap64 (x - Q) = x - Q := w64 _ (by omega) (by omega)
  rw [t1, t2, t3]
  unfold sgn
  rw [hQe]
  by_cases h : 2 * x < Q
  · rw [if_pos h, if_pos rfl, if_neg (by omega), decide_eq_false (by omega)]
    exact fin
  · rw [if_neg h, if_neg (by omega), if_pos rfl, if_neg (by omega), decide_eq_false (by omega)]
    exact fin

end Go.Proofs.Ythdigeknonamaaa.Pure
