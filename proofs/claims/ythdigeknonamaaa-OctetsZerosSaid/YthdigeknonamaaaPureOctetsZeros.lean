/- Bytes are all 0, or one of them is not: for every count, place and byte. -/
import Derived.Test.YthdigeknonamaaaPx5
import Derived.Test.YthdigeknonamaaaOct
namespace Go.Proofs.Ythdigeknonamaaa.Pure
open Go.RowKit Go.Proofs.Ythdigeknonamaaa.P Go.Proofs.Ythdigeknonamaaa.Lib Go.Proofs.Ythdigeknonamaaa.Oct Go.Proofs.YthdigeknonamaaaW.PrintWords Go.Proofs.YthdigeknonamaaaW.PrintLast Go.Proofs.YthdigeknonamaaaW.PrintMore

theorem awake_true {k : Nat} (h : 50 ≤ k) : carillonlaw01_awake.f k = some true := at_rounds (g := fun k => carillonlaw01_awake.f k) (fun k => carillonlaw01_awake.mono k) h (by decide +kernel)

theorem OctetsZeros : carillonlaw01_OctetsZeros.Pure := by
  intro a b v _ _ hv
  obtain ⟨K, hK⟩ : ∃ K : Nat, 60 ≤ K := ⟨60, Nat.le_refl _⟩
  refine ⟨K + 1, ?_⟩
  have hv := wfu8 hv
  unfold carillonlaw01_OctetsZeros.f
  rw [place_of a 40 (by omega) (by omega)]
  have hp0 := Int.emod_nonneg a (show (40 : Int) ≠ 0 by omega)
  have hp1 := Int.emod_lt_of_pos a (show (0 : Int) < 40 by omega)
  simp only [Option.bind_some]
  generalize a % 40 = p at hp0 hp1 ⊢
  obtain ⟨k, hk⟩ : ∃ k : Nat, 1 + p = (k : Int) := ⟨(1 + p).toNat, by omega⟩
  have w1 : wrap64 (1 + p) = k := by rw [w64 _ (by omega) (by omega)]; exact hk
  rw [w1, if_pos (by omega), if_pos (by omega), Int.toNat_natCast, place_of b k (by omega) (by omega)]
  have hi0 := Int.emod_nonneg b (show (k : Int) ≠ 0 by omega)
  have hi1 := Int.emod_lt_of_pos b (show (0 : Int) < k by omega)
  simp only [Option.bind_some]
  generalize b % (k : Int) = q at hi0 hi1 ⊢
  obtain ⟨i, rfl⟩ := Int.eq_ofNat_of_zero_le hi0
  rw [if_pos (by omega), if_pos (by rw [List.length_replicate]; omega), Int.toNat_natCast]
  generalize hl : (List.replicate k (0 : Int)).set i v = l
  have hlen : l.length = k := by rw [← hl, List.length_set, List.length_replicate]
  have hz : ∀ (x y : Int), -9223372036854775808 ≤ x → x ≤ 9223372036854775807 → -9223372036854775808 ≤ y → y ≤ 9223372036854775807 → octets_Zero.f (K + 1) l x y = some (zb l x y) :=
    fun x y h1 h2 h3 h4 => zero_of l (by omega) x y ⟨h1, h2⟩ ⟨h3, h4⟩ (K + 1) (by omega)
  have hget : ∀ (j : Nat) (hj : j < l.length), l[j] = if j = i then v else 0 := by
    intro j hj
    subst hl
    rw [List.getElem_set, List.getElem_replicate]
    by_cases h : i = j
    · rw [if_pos h, if_pos h.symm]
    · rw [if_neg h, if_neg (fun e => h e.symm)]
  have z1 : zb l 0 k = (v == 0) := by
    unfold zb
    rw [Bool.eq_iff_iff, decide_eq_true_eq, beq_iff_eq]
    have hc : cut l 0 k = l := by
      unfold cut
      rw [show (0 + (k : Int)).toNat = l.length by omega, List.take_length]
      rfl
    rw [hc]
    constructor
    · intro h
      have := h.2 l[i] (List.getElem_mem (by omega))
      rwa [hget i (by omega), if_pos rfl] at this
    · intro h
      refine ⟨⟨by omega, by omega, by omega⟩, fun z hz => ?_⟩
      obtain ⟨j, hj, rfl⟩ := List.getElem_of_mem hz
      rw [hget j hj]
      split
      · exact h
      · rfl
  have z2 : zb l 0 (i : Int) = true := by
    refine zb_yes ⟨by omega, by omega, by omega⟩ (fun z hz => ?_)
    unfold cut at hz
    simp only [Int.zero_add, Int.toNat_natCast, Int.toNat_zero, List.drop_zero] at hz
    obtain ⟨j, hj, rfl⟩ := List.getElem_of_mem hz
    rw [List.length_take] at hj
    rw [List.getElem_take, hget j (by omega), if_neg (by omega)]
  have z3 : zb l ((i : Int) + 1) ((k : Int) - i - 1) = true := by
    have q1 : ((i : Int) + 1 + ((k : Int) - i - 1)).toNat = l.length := by omega
    have q2 : ((i : Int) + 1).toNat = i + 1 := by omega
    refine zb_yes ⟨by omega, by omega, by omega⟩ (fun z hzz => ?_)
    unfold cut at hzz
    rw [q1, q2, List.take_length] at hzz
    obtain ⟨j, hj, rfl⟩ := List.getElem_of_mem hzz
    rw [List.length_drop] at hj
    have hlt : i + 1 + j < l.length := by omega
    have hne : ¬ i + 1 + j = i := by omega
    rw [List.getElem_drop, hget _ hlt, if_neg hne]
  have e1 := hz 0 k (by omega) (by omega) (by omega) (by omega)
  have e2 := hz 0 i (by omega) (by omega) (by omega) (by omega)
  have e3 := hz (i + 1) (k - i - 1) (by omega) (by omega) (by omega) (by omega)
  have aw49 : carillonlaw01_awake.f K = some true := awake_true (by omega)
  have hz49 : ∀ (x y : Int), -9223372036854775808 ≤ x → x ≤ 9223372036854775807 → -9223372036854775808 ≤ y → y ≤ 9223372036854775807 → octets_Zero.f K l x y = some (zb l x y) :=
    fun x y h1 h2 h3 h4 => zero_of l (by omega) x y ⟨h1, h2⟩ ⟨h3, h4⟩ K (by omega)
  have f1 := hz49 0 (k + 1) (by omega) (by omega) (by omega) (by omega)
  have f2 := hz49 k 0 (by omega) (by omega) (by omega) (by omega)
  have z4 : zb l 0 ((k : Int) + 1) = false := by
    apply zb_no
    intro h
    have := h.1.2.2
    omega
  have z5 : zb l (k : Int) 0 = true := by
    refine zb_yes ⟨by omega, by omega, by omega⟩ (fun z hz => ?_)
    unfold cut at hz
    rw [List.drop_eq_nil_of_le (by rw [List.length_take]; omega)] at hz
    simp at hz
  have w2 : wrap64 ((i : Int) + 1) = i + 1 := w64 _ (by omega) (by omega)
  have w3 : wrap64 ((k : Int) - i) = k - i := w64 _ (by omega) (by omega)
  have w4 : wrap64 ((k : Int) - i - 1) = k - i - 1 := w64 _ (by omega) (by omega)
  rw [e1, e2, w2, w3, w4, e3, z1, z2, z3]
  rw [Option.bind_some, if_neg (by simp), Option.bind_some, if_pos rfl, Option.bind_some, Bool.not_true, carillonlaw01_OctetsZeros.j0, if_neg (by simp)]
  have w5 : wrap64 ((k : Int) + 1) = k + 1 := w64 _ (by omega) (by omega)
  rw [w5, f1, f2, aw49]
  rw [z4, z5, Option.bind_some, if_neg (by simp), Option.bind_some, if_pos rfl, Option.bind_some]

end Go.Proofs.Ythdigeknonamaaa.Pure
