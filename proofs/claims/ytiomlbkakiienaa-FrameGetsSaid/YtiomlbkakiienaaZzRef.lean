/- What the document's own functions on bytes answer, in plain words. -/
import Derived.Test.YtiomlbkakiienaaZzPx0
import Derived.Test.YtiomlbkakiienaaZzPx8
import Derived.Test.YtiomlbkakiienaaZzOct
namespace Go.Proofs.Ytiomlbkakiienaa.Ref
open Go.RowKit Go.Proofs.Ytiomlbkakiienaa.P Go.Proofs.Ytiomlbkakiienaa.Lib Go.Proofs.Ytiomlbkakiienaa.Oct Go.Proofs.YtiomlbkakiienaaW.PrintWords Go.Proofs.YtiomlbkakiienaaW.PrintLast Go.Proofs.YtiomlbkakiienaaW.PrintMore
theorem fits_of (l : List Int) (a n : Int) (hl : l.length ≤ 4611686018427387904) (hn : 0 ≤ n ∧ n ≤ 9223372036854775807) : carillonref01_fits.f l a n = some (decide (has l a n)) := by
  unfold carillonref01_fits.f
  by_cases h1 : a ≥ 0
  · rw [if_pos h1]
    by_cases h2 : a ≤ (l.length : Int)
    · have hw : wrap64 ((l.length : Int) - a) = (l.length : Int) - a := w64 _ (by omega) (by omega)
      rw [if_pos h2, hw]
      clear hw
      exact congrArg some (decide_eq_decide.2 (by unfold has; omega))
    · rw [if_neg h2]
      exact congrArg some (decide_eq_false (by unfold has; omega)).symm
  · rw [if_neg h1]
    exact congrArg some (decide_eq_false (by unfold has; omega)).symm
theorem cut_get {l : List Int} {a n : Int} (h : has l a n) (i : Nat) (hi : (i : Int) < n) : ∃ hq : (a + i).toNat < l.length, (cut l a n)[i]'(by rw [cut_length h]; unfold has at h; omega) = l[(a + i).toNat] := by
  have h' := h
  unfold has at h'
  refine ⟨by omega, ?_⟩
  unfold cut
  rw [List.getElem_drop, List.getElem_take]
  congr 1
  omega
theorem rd_cut {l : List Int} {a n : Int} (h : has l a n) (i : Nat) (hi : (i : Int) < n) : rd l (a + i) = (cut l a n)[i]'(by rw [cut_length h]; unfold has at h; omega) := by
  obtain ⟨hq, e⟩ := cut_get h i hi
  rw [e]
  simp [rd, hq]
theorem rget_from (l : List Int) (hb : By l) (hl : l.length ≤ 4611686018427387904) (a n : Int) (h : has l a n) (h7 : n ≤ 7) (d : Nat) : ∀ (k i : Nat), (i : Int) ≤ n → n.toNat - i = d → d < k →
    carillonref01_Get.l0 k l a n (dec ((cut l a n).take i)) (i : Int) = some (dec (cut l a n), true) := by
  have hc := cut_length h
  have h' := h
  unfold has at h'
  induction d with
  | zero =>
    intro k i hi hd hk
    obtain ⟨k, rfl⟩ : ∃ m, k = m + 1 := ⟨k - 1, by omega⟩
    rw [carillonref01_Get.l0, if_neg (by omega), List.take_of_length_le (by omega)]
  | succ d ih =>
    intro k i hi hd hk
    obtain ⟨k, rfl⟩ : ∃ m, k = m + 1 := ⟨k - 1, by omega⟩
    have hlt : i < (cut l a n).length := by omega
    have hn := ih k (i + 1) (by omega) (by omega) (by omega)
    have hr := rd_cut h i (by omega)
    have hx := cut_by hb a n ((cut l a n)[i]) (List.getElem_mem hlt)
    have ht : 256 * dec ((cut l a n).take i) + (cut l a n)[i] = dec ((cut l a n).take (i + 1)) := by
      rw [List.take_succ_eq_append_getElem hlt, dec_snoc]
    have hlen : ((cut l a n).take i).length = i := by rw [List.length_take]; omega
    have hi6 : i ≤ 6 := by omega
    have hdr := dec_range ((cut_by hb a n).take i)
    rw [hlen] at hdr
    have hup : dec ((cut l a n).take i) < 281474976710656 := by
      rw [show (281474976710656 : Int) = 256 ^ 6 by decide +kernel]
      exact Int.lt_of_lt_of_le hdr.2 (pow_le hi6)
    have h0 := hdr.1
    clear hdr
    rw [carillonref01_Get.l0]
    have q1 : (i : Int) < n := by omega
    have q2 : 0 ≤ a + (i : Int) := by omega
    have q3 : a + (i : Int) < (l.length : Int) := by omega
    have w1 : wrap64 (a + (i : Int)) = a + (i : Int) := w64 _ (by omega) (by omega)
    have w2 : wrap64 ((i : Int) + 1) = ((i + 1 : Nat) : Int) := by rw [w64 _ (by omega) (by omega)]; omega
    rw [w1, if_pos q1, if_pos q2, if_pos q3, hr, w2]
    clear w1 w2 hr
    generalize dec ((cut l a n).take i) = v at *
    generalize (cut l a n)[i] = x at *
    have w3 : wrap64 (256 * v) = 256 * v := w64 _ (by omega) (by omega)
    have w4 : wrap64 x = x := w64 _ (by omega) (by omega)
    have w5 : wrap64 (256 * v + x) = 256 * v + x := w64 _ (by omega) (by omega)
    rw [w3, w4, w5, ht]
    exact hn
theorem rget_of (l : List Int) (hb : By l) (hl : l.length ≤ 4611686018427387904) (a n : Int) (hn : 0 ≤ n ∧ n ≤ 9223372036854775807) (K : Nat) (hK : 8 < K) :
    carillonref01_Get.f (K + 1) l a n = some (if 1 ≤ n ∧ n ≤ 7 ∧ has l a n then (dec (cut l a n), true) else (0, false)) := by
  unfold carillonref01_Get.f
  by_cases h1 : n < 1
  · rw [if_pos h1, carillonref01_Get.j0, if_pos rfl, if_neg (by omega)]
  · rw [if_neg h1]
    by_cases h2 : n > 7
    · rw [if_pos h2, carillonref01_Get.j0, if_pos rfl, if_neg (by omega)]
    · rw [if_neg h2, fits_of l a n hl hn, Option.bind_some, carillonref01_Get.j0]
      by_cases h3 : has l a n
      · have hf := rget_from l hb hl a n h3 (by omega) n.toNat K 0 (by omega) (by omega) (by omega)
        rw [decide_eq_true h3, Bool.not_true, if_neg (by simp), if_pos ⟨by omega, by omega, h3⟩]
        rw [List.take_zero] at hf
        exact hf
      · rw [decide_eq_false h3, Bool.not_false, if_pos rfl, if_neg (fun h => h3 h.2.2)]
theorem rid_from (l : List Int) (hb : By l) (hl : l.length ≤ 4611686018427387904) (a : Int) (h : has l a 8) (d : Nat) : ∀ (k i : Nat), i ≤ 8 → 8 - i = d → d < k →
    carillonref01_Id.l0 k l a (dec ((cut l a 8).take i)) (i : Int) = some (dec (cut l a 8), true) := by
  have hc := cut_length h
  have h' := h
  unfold has at h'
  induction d with
  | zero =>
    intro k i hi hd hk
    obtain ⟨k, rfl⟩ : ∃ m, k = m + 1 := ⟨k - 1, by omega⟩
    rw [carillonref01_Id.l0, if_neg (by omega), List.take_of_length_le (by omega)]
  | succ d ih =>
    intro k i hi hd hk
    obtain ⟨k, rfl⟩ : ∃ m, k = m + 1 := ⟨k - 1, by omega⟩
    have hlt : i < (cut l a 8).length := by omega
    have hn := ih k (i + 1) (by omega) (by omega) (by omega)
    have hr := rd_cut h i (by omega)
    have hx := cut_by hb a 8 ((cut l a 8)[i]) (List.getElem_mem hlt)
    have ht : 256 * dec ((cut l a 8).take i) + (cut l a 8)[i] = dec ((cut l a 8).take (i + 1)) := by
      rw [List.take_succ_eq_append_getElem hlt, dec_snoc]
    have hlen : ((cut l a 8).take i).length = i := by rw [List.length_take]; omega
    have hi7 : i ≤ 7 := by omega
    have hdr := dec_range ((cut_by hb a 8).take i)
    rw [hlen] at hdr
    have hup : dec ((cut l a 8).take i) < 72057594037927936 := by
      rw [← pow7]
      exact Int.lt_of_lt_of_le hdr.2 (pow_le hi7)
    have h0 := hdr.1
    clear hdr
    rw [carillonref01_Id.l0]
    have q1 : (i : Int) < 8 := by omega
    have q2 : 0 ≤ a + (i : Int) := by omega
    have q3 : a + (i : Int) < (l.length : Int) := by omega
    have w1 : wrap64 (a + (i : Int)) = a + (i : Int) := w64 _ (by omega) (by omega)
    have w2 : wrap64 ((i : Int) + 1) = ((i + 1 : Nat) : Int) := by rw [w64 _ (by omega) (by omega)]; omega
    rw [w1, if_pos q1, if_pos q2, if_pos q3, hr, w2]
    clear w1 w2 hr
    generalize dec ((cut l a 8).take i) = v at *
    generalize (cut l a 8)[i] = x at *
    rw [wrapu_of (256 * v) (by omega) (by omega), wrapu_of x (by omega) (by omega), wrapu_of (256 * v + x) (by omega) (by omega), ht]
    exact hn
theorem rid_of (l : List Int) (hb : By l) (hl : l.length ≤ 4611686018427387904) (a : Int) (K : Nat) (hK : 9 < K) :
    carillonref01_Id.f K l a = some (if has l a 8 then (dec (cut l a 8), true) else (0, false)) := by
  unfold carillonref01_Id.f
  rw [fits_of l a 8 hl (by omega), Option.bind_some]
  by_cases h : has l a 8
  · have hf := rid_from l hb hl a h 8 K 0 (by omega) (by omega) (by omega)
    rw [if_pos (decide_eq_true h), if_pos h]
    rw [List.take_zero] at hf
    exact hf
  · rw [if_neg (by simpa using h), if_neg h]
theorem rsigned_of (l : List Int) (hb : By l) (hl : l.length ≤ 4611686018427387904) (a n : Int) (h1 : 1 ≤ n) (h8 : n ≤ 8) (K : Nat) (hK : 9 < K) :
    carillonref01_Signed.f (K + 1) l a n = some (if has l a n then (sgn n.toNat (dec (cut l a n)), true) else (0, false)) := by
  unfold carillonref01_Signed.f
  by_cases e8 : n = 8
  · subst e8
    rw [if_pos rfl, rid_of l hb hl a (K + 1) (by omega)]
    simp only [Option.bind_some]
    by_cases h : has l a 8
    · rw [if_pos h, if_pos h]
      have hd := dec8 (cut_by hb a 8) (n := 8) (by rw [cut_length h]; omega) (by omega)
      congr 2
      rw [show (8 : Int).toNat = 8 from rfl]
      unfold sgn
      rw [pow8]
      obtain ⟨d0, _, d2⟩ := hd
      generalize dec (cut l a 8) = v at *
      unfold wrap64
      split <;> omega
    · rw [if_neg h, if_neg h]
      exact congrArg some (Prod.ext (w64 0 (by omega) (by omega)) rfl)
  · have key : ∀ m : Int, 1 ≤ m → m ≤ 7 → 0 ≤ IntKind.u64.wrap (wrap64 ((wrap64 (8 * m)) - 1)) ∧ shl .i64 1 (IntKind.u64.wrap (wrap64 ((wrap64 (8 * m)) - 1))) = 256 ^ m.toNat / 2 ∧ 0 ≤ IntKind.u64.wrap (wrap64 (8 * m)) ∧ shl .i64 1 (IntKind.u64.wrap (wrap64 (8 * m))) = 256 ^ m.toNat ∧ 2 * ((256 : Int) ^ m.toNat / 2) = 256 ^ m.toNat := by
      intro m h1 h7
      have hc : m = 1 ∨ m = 2 ∨ m = 3 ∨ m = 4 ∨ m = 5 ∨ m = 6 ∨ m = 7 := by omega
      rcases hc with rfl | rfl | rfl | rfl | rfl | rfl | rfl <;> decide +kernel
    obtain ⟨k1, k2, k3, k4, k5⟩ := key n h1 (by omega)
    have g := rget_of l hb hl a n (by omega) K (by omega)
    by_cases h : has l a n
    · have hr := dec_range (cut_by hb a n)
      rw [cut_length h] at hr
      have hle : (256 : Int) ^ n.toNat ≤ 72057594037927936 := by rw [← pow7]; exact pow_le (by omega)
      rw [if_pos ⟨h1, by omega, h⟩] at g
      rw [if_neg e8, g, if_pos h]
      simp only [Option.bind_some]
      rw [if_pos trivial, if_pos k1, k2, if_pos k3, k4]
      clear g
      unfold sgn
      clear k1 k2 k3 k4 key
      generalize (256 : Int) ^ n.toNat = P at *
      generalize dec (cut l a n) = v at *
      by_cases hv : v ≥ P / 2
      · rw [if_pos hv, if_neg (by omega)]
        rw [w64 _ (by omega) (by omega)]
      · rw [if_neg hv, if_pos (by omega)]
    · rw [if_neg (fun h' => h h'.2.2)] at g
      rw [if_neg e8, g, if_neg h]
      simp
theorem rIdGet_of (l : List Int) (hb : By l) (hl : l.length ≤ 4611686018427387904) (a : Int) (ha : -9223372036854775808 ≤ a ∧ a ≤ 9223372036854775807) (K : Nat) (hK : 9 < K) :
    carillonref04_Get.f (K + 1) l a = some (if has l a 10 then (dec (cut l a 8), dec (cut l (a + 8) 2), true) else (0, 0, false)) := by
  unfold carillonref04_Get.f
  have g := rid_of l hb hl a (K + 1) (by omega)
  by_cases h : has l a 8
  · have h' := h
    unfold has at h'
    have w1 : wrap64 ((l.length : Int) - 10) = (l.length : Int) - 10 := w64 _ (by omega) (by omega)
    rw [if_pos h] at g
    rw [g]
    simp only [Option.bind_some]
    rw [if_pos trivial, w1]
    clear g
    clear w1
    by_cases h2 : a > (l.length : Int) - 10
    · rw [if_pos h2, if_neg (by unfold has; omega)]
    · have hh : has l a 10 := ⟨by omega, by omega, by omega⟩
      have h82 : has l (a + 8) 2 := ⟨by omega, by omega, by omega⟩
      have w2 : wrap64 (a + 8) = a + 8 := w64 _ (by omega) (by omega)
      rw [if_neg h2, if_pos hh, w2, rget_of l hb hl (a + 8) 2 (by omega) K (by omega), if_pos ⟨by omega, by omega, h82⟩]
      rfl
  · rw [if_neg h] at g
    rw [g, if_neg (by intro h'; apply h; unfold has at h' ⊢; omega)]
    simp
end Go.Proofs.Ytiomlbkakiienaa.Ref
