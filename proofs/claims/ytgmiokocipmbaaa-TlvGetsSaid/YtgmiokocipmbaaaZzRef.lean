/- What the document's own functions on bytes answer, in plain words. -/
import Derived.Test.YtgmiokocipmbaaaZzPx0
import Derived.Test.YtgmiokocipmbaaaZzPx3
import Derived.Test.YtgmiokocipmbaaaZzPx8
import Derived.Test.YtgmiokocipmbaaaZzOct
namespace Go.Proofs.Ytgmiokocipmbaaa.Ref
open Go.RowKit Go.Proofs.Ytgmiokocipmbaaa.P Go.Proofs.Ytgmiokocipmbaaa.Lib Go.Proofs.Ytgmiokocipmbaaa.Oct Go.Proofs.YtgmiokocipmbaaaW.PrintWords Go.Proofs.YtgmiokocipmbaaaW.PrintLast Go.Proofs.YtgmiokocipmbaaaW.PrintMore
theorem fits_of (l : List Int) (a n : Int) (hl : l.length ≤ 4611686018427387904) (hn : 0 ≤ n ∧ n ≤ 9223372036854775807) : carillonref01_fits.f l a n = some (decide (has l a n)) := by
  unfold carillonref01_fits.f
  by_cases h1 : a ≥ 0
  · rw [if_pos h1]
    by_cases h2 : a ≤ (l.length : Int)
    · have hw : wrap64 ((l.length : Int) - a) = (l.length : Int) - a := w64 _ (by omega) (by omega)
      rw [if_pos h2, hw]
      clear hw
      exact congrArg some (decide_eq_decide.2 (by unfold has; omega))
    · rw [if_neg h2]
      exact congrArg some (decide_eq_false (by unfold has; omega)).symm
  · rw [if_neg h1]
    exact congrArg some (decide_eq_false (by unfold has; omega)).symm
theorem cut_get {l : List Int} {a n : Int} (h : has l a n) (i : Nat) (hi : (i : Int) < n) : ∃ hq : (a + i).toNat < l.length, (cut l a n)[i]'(by rw [cut_length h]; unfold has at h; omega) = l[(a + i).toNat] := by
  have h' := h
  unfold has at h'
  refine ⟨by omega, ?_⟩
  unfold cut
  rw [List.getElem_drop, List.getElem_take]
  congr 1
  omega
theorem rd_cut {l : List Int} {a n : Int} (h : has l a n) (i : Nat) (hi : (i : Int) < n) : rd l (a + i) = (cut l a n)[i]'(by rw [cut_length h]; unfold has at h; omega) := by
  obtain ⟨hq, e⟩ := cut_get h i hi
  rw [e]
  simp [rd, hq]
theorem rget_from (l : List Int) (hb : By l) (hl : l.length ≤ 4611686018427387904) (a n : Int) (h : has l a n) (h7 : n ≤ 7) (d : Nat) : ∀ (k i : Nat), (i : Int) ≤ n → n.toNat - i = d → d < k →
    carillonref01_Get.l0 k l a n (dec ((cut l a n).take i)) (i : Int) = some (dec (cut l a n), true) := by
  have hc := cut_length h
  have h' := h
  unfold has at h'
  induction d with
  | zero =>
    intro k i hi hd hk
    obtain ⟨k, rfl⟩ : ∃ m, k = m + 1 := ⟨k - 1, by omega⟩
    rw [carillonref01_Get.l0, if_neg (by omega), List.take_of_length_le (by omega)]
  | succ d ih =>
    intro k i hi hd hk
    obtain ⟨k, rfl⟩ : ∃ m, k = m + 1 := ⟨k - 1, by omega⟩
    have hlt : i < (cut l a n).length := by omega
    have hn := ih k (i + 1) (by omega) (by omega) (by omega)
    have hr := rd_cut h i (by omega)
    have hx := cut_by hb a n ((cut l a n)[i]) (List.getElem_mem hlt)
    have ht : 256 * dec ((cut l a n).take i) + (cut l a n)[i] = dec ((cut l a n).take (i + 1)) := by
      rw [List.take_succ_eq_append_getElem hlt, dec_snoc]
    have hlen : ((cut l a n).take i).length = i := by rw [List.length_take]; omega
    have hi6 : i ≤ 6 := by omega
    have hdr := dec_range ((cut_by hb a n).take i)
    rw [hlen] at hdr
    have hup : dec ((cut l a n).take i) < 281474976710656 := by
      rw [show (281474976710656 : Int) = 256 ^ 6 by decide +kernel]
      exact Int.lt_of_lt_of_le hdr.2 (pow_le hi6)
    have h0 := hdr.1
    clear hdr
    rw [carillonref01_Get.l0]
    have q1 : (i : Int) < n := by omega
    have q2 : 0 ≤ a + (i : Int) := by omega
    have q3 : a + (i : Int) < (l.length : Int) := by omega
    have w1 : wrap64 (a + (i : Int)) = a + (i : Int) := w64 _ (by omega) (by omega)
    have w2 : wrap64 ((i : Int) + 1) = ((i + 1 : Nat) : Int) := by rw [w64 _ (by omega) (by omega)]; omega
    rw [w1, if_pos q1, if_pos q2, if_pos q3, hr, w2]
    clear w1 w2 hr
    generalize dec ((cut l a n).take i) = v at *
    generalize (cut l a n)[i] = x at *
    have w3 : wrap64 (256 * v) = 256 * v := w64 _ (by omega) (by omega)
    have w4 : wrap64 x = x := w64 _ (by omega) (by omega)
    have w5 : wrap64 (256 * v + x) = 256 * v + x := w64 _ (by omega) (by omega)
    rw [w3, w4, w5, ht]
    exact hn
theorem rget_of (l : List Int) (hb : By l) (hl : l.length ≤ 4611686018427387904) (a n : Int) (hn : 0 ≤ n ∧ n ≤ 9223372036854775807) (K : Nat) (hK : 8 < K) :
    carillonref01_Get.f (K + 1) l a n = some (if 1 ≤ n ∧ n ≤ 7 ∧ has l a n then (dec (cut l a n), true) else (0, false)) := by
  unfold carillonref01_Get.f
  by_cases h1 : n < 1
  · rw [if_pos h1, carillonref01_Get.j0, if_pos rfl, if_neg (by omega)]
  · rw [if_neg h1]
    by_cases h2 : n > 7
    · rw [if_pos h2, carillonref01_Get.j0, if_pos rfl, if_neg (by omega)]
    · rw [if_neg h2, fits_of l a n hl hn, Option.bind_some, carillonref01_Get.j0]
      by_cases h3 : has l a n
      · have hf := rget_from l hb hl a n h3 (by omega) n.toNat K 0 (by omega) (by omega) (by omega)
        rw [decide_eq_true h3, Bool.not_true, if_neg (by simp), if_pos ⟨by omega, by omega, h3⟩]
        rw [List.take_zero] at hf
        exact hf
      · rw [decide_eq_false h3, Bool.not_false, if_pos rfl, if_neg (fun h => h3 h.2.2)]
end Go.Proofs.Ytgmiokocipmbaaa.Ref
