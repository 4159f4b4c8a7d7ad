/- What the document's own functions on bytes answer, in plain words. -/
import Derived.Test.YtgmiokocipmbaaaZzPx0
import Derived.Test.YtgmiokocipmbaaaZzPx3
import Derived.Test.YtgmiokocipmbaaaZzPx8
import Derived.Test.YtgmiokocipmbaaaZzPx11
import Derived.Test.YtgmiokocipmbaaaZzPx12
import Derived.Test.YtgmiokocipmbaaaZzOct
namespace Go.Proofs.Ytgmiokocipmbaaa.Ref
open Go.RowKit Go.Proofs.Ytgmiokocipmbaaa.P Go.Proofs.Ytgmiokocipmbaaa.Lib Go.Proofs.Ytgmiokocipmbaaa.Oct Go.Proofs.YtgmiokocipmbaaaW.PrintWords Go.Proofs.YtgmiokocipmbaaaW.PrintLast Go.Proofs.YtgmiokocipmbaaaW.PrintMore
theorem fits_of (l : List Int) (a n : Int) (hl : l.length ≤ 4611686018427387904) (hn : 0 ≤ n ∧ n ≤ 9223372036854775807) : carillonref01_fits.f l a n = some (decide (has l a n)) := by
  unfold carillonref01_fits.f
  by_cases h1 : a ≥ 0
  · rw [if_pos h1]
    by_cases h2 : a ≤ (l.length : Int)
    · have hw : wrap64 ((l.length : Int) - a) = (l.length : Int) - a := w64 _ (by omega) (by omega)
      rw [if_pos h2, hw]
      clear hw
      exact congrArg some (decide_eq_decide.2 (by unfold has; omega))
    · rw [if_neg h2]
      exact congrArg some (decide_eq_false (by unfold has; omega)).symm
  · rw [if_neg h1]
    exact congrArg some (decide_eq_false (by unfold has; omega)).symm
theorem cut_get {l : List Int} {a n : Int} (h : has l a n) (i : Nat) (hi : (i : Int) < n) : ∃ hq : (a + i).toNat < l.length, (cut l a n)[i]'(by rw [cut_length h]; unfold has at h; omega) = l[(a + i).toNat] := by
  have h' := h
  unfold has at h'
  refine ⟨by omega, ?_⟩
  unfold cut
  rw [List.getElem_drop, List.getElem_take]
  congr 1
  omega
theorem rd_cut {l : List Int} {a n : Int} (h : has l a n) (i : Nat) (hi : (i : Int) < n) : rd l (a + i) = (cut l a n)[i]'(by rw [cut_length h]; unfold has at h; omega) := by
  obtain ⟨hq, e⟩ := cut_get h i hi
  rw [e]
  simp [rd, hq]
theorem rget_from (l : List Int) (hb : By l) (hl : l.length ≤ 4611686018427387904) (a n : Int) (h : has l a n) (h7 : n ≤ 7) (d : Nat) : ∀ (k i : Nat), (i : Int) ≤ n → n.toNat - i = d → d < k →
    carillonref01_Get.l0 k l a n (dec ((cut l a n).take i)) (i : Int) = some (dec (cut l a n), true) := by
  have hc := cut_length h
  have h' := h
  unfold has at h'
  induction d with
  | zero =>
    intro k i hi hd hk
    obtain ⟨k, rfl⟩ : ∃ m, k = m + 1 := ⟨k - 1, by omega⟩
    rw [carillonref01_Get.l0, if_neg (by omega), List.take_of_length_le (by omega)]
  | succ d ih =>
    intro k i hi hd hk
    obtain ⟨k, rfl⟩ : ∃ m, k = m + 1 := ⟨k - 1, by omega⟩
    have hlt : i < (cut l a n).length := by omega
    have hn := ih k (i + 1) (by omega) (by omega) (by omega)
    have hr := rd_cut h i (by omega)
    have hx := cut_by hb a n ((cut l a n)[i]) (List.getElem_mem hlt)
    have ht : 256 * dec ((cut l a n).take i) + (cut l a n)[i] = dec ((cut l a n).take (i + 1)) := by
      rw [List.take_succ_eq_append_getElem hlt, dec_snoc]
    have hlen : ((cut l a n).take i).length = i := by rw [List.length_take]; omega
    have hi6 : i ≤ 6 := by omega
    have hdr := dec_range ((cut_by hb a n).take i)
    rw [hlen] at hdr
    have hup : dec ((cut l a n).take i) < 281474976710656 := by
      rw [show (281474976710656 : Int) = 256 ^ 6 by decide +kernel]
      exact Int.lt_of_lt_of_le hdr.2 (pow_le hi6)
    have h0 := hdr.1
    clear hdr
    rw [carillonref01_Get.l0]
    have q1 : (i : Int) < n := by omega
    have q2 : 0 ≤ a + (i : Int) := by omega
    have q3 : a + (i : Int) < (l.length : Int) := by omega
    have w1 : wrap64 (a + (i : Int)) = a + (i : Int) := w64 _ (by omega) (by omega)
    have w2 : wrap64 ((i : Int) + 1) = ((i + 1 : Nat) : Int) := by rw [w64 _ (by omega) (by omega)]; omega
    rw [w1, if_pos q1, if_pos q2, if_pos q3, hr, w2]
    clear w1 w2 hr
    generalize dec ((cut l a n).take i) = v at *
    generalize (cut l a n)[i] = x at *
    have w3 : wrap64 (256 * v) = 256 * v := w64 _ (by omega) (by omega)
    have w4 : wrap64 x = x := w64 _ (by omega) (by omega)
    have w5 : wrap64 (256 * v + x) = 256 * v + x := w64 _ (by omega) (by omega)
    rw [w3, w4, w5, ht]
    exact hn
theorem rget_of (l : List Int) (hb : By l) (hl : l.length ≤ 4611686018427387904) (a n : Int) (hn : 0 ≤ n ∧ n ≤ 9223372036854775807) (K : Nat) (hK : 8 < K) :
    carillonref01_Get.f (K + 1) l a n = some (if 1 ≤ n ∧ n ≤ 7 ∧ has l a n then (dec (cut l a n), true) else (0, false)) := by
  unfold carillonref01_Get.f
  by_cases h1 : n < 1
  · rw [if_pos h1, carillonref01_Get.j0, if_pos rfl, if_neg (by omega)]
  · rw [if_neg h1]
    by_cases h2 : n > 7
    · rw [if_pos h2, carillonref01_Get.j0, if_pos rfl, if_neg (by omega)]
    · rw [if_neg h2, fits_of l a n hl hn, Option.bind_some, carillonref01_Get.j0]
      by_cases h3 : has l a n
      · have hf := rget_from l hb hl a n h3 (by omega) n.toNat K 0 (by omega) (by omega) (by omega)
        rw [decide_eq_true h3, Bool.not_true, if_neg (by simp), if_pos ⟨by omega, by omega, h3⟩]
        rw [List.take_zero] at hf
        exact hf
      · rw [decide_eq_false h3, Bool.not_false, if_pos rfl, if_neg (fun h => h3 h.2.2)]
theorem rid_from (l : List Int) (hb : By l) (hl : l.length ≤ 4611686018427387904) (a : Int) (h : has l a 8) (d : Nat) : ∀ (k i : Nat), i ≤ 8 → 8 - i = d → d < k →
    carillonref01_Id.l0 k l a (dec ((cut l a 8).take i)) (i : Int) = some (dec (cut l a 8), true) := by
  have hc := cut_length h
  have h' := h
  unfold has at h'
  induction d with
  | zero =>
    intro k i hi hd hk
    obtain ⟨k, rfl⟩ : ∃ m, k = m + 1 := ⟨k - 1, by omega⟩
    rw [carillonref01_Id.l0, if_neg (by omega), List.take_of_length_le (by omega)]
  | succ d ih =>
    intro k i hi hd hk
    obtain ⟨k, rfl⟩ : ∃ m, k = m + 1 := ⟨k - 1, by omega⟩
    have hlt : i < (cut l a 8).length := by omega
    have hn := ih k (i + 1) (by omega) (by omega) (by omega)
    have hr := rd_cut h i (by omega)
    have hx := cut_by hb a 8 ((cut l a 8)[i]) (List.getElem_mem hlt)
    have ht : 256 * dec ((cut l a 8).take i) + (cut l a 8)[i] = dec ((cut l a 8).take (i + 1)) := by
      rw [List.take_succ_eq_append_getElem hlt, dec_snoc]
    have hlen : ((cut l a 8).take i).length = i := by rw [List.length_take]; omega
    have hi7 : i ≤ 7 := by omega
    have hdr := dec_range ((cut_by hb a 8).take i)
    rw [hlen] at hdr
    have hup : dec ((cut l a 8).take i) < 72057594037927936 := by
      rw [← pow7]
      exact Int.lt_of_lt_of_le hdr.2 (pow_le hi7)
    have h0 := hdr.1
    clear hdr
    rw [carillonref01_Id.l0]
    have q1 : (i : Int) < 8 := by omega
    have q2 : 0 ≤ a + (i : Int) := by omega
    have q3 : a + (i : Int) < (l.length : Int) := by omega
    have w1 : wrap64 (a + (i : Int)) = a + (i : Int) := w64 _ (by omega) (by omega)
    have w2 : wrap64 ((i : Int) + 1) = ((i + 1 : Nat) : Int) := by rw [w64 _ (by omega) (by omega)]; omega
    rw [w1, if_pos q1, if_pos q2, if_pos q3, hr, w2]
    clear w1 w2 hr
    generalize dec ((cut l a 8).take i) = v at *
    generalize (cut l a 8)[i] = x at *
    rw [wrapu_of (256 * v) (by omega) (by omega), wrapu_of x (by omega) (by omega), wrapu_of (256 * v + x) (by omega) (by omega), ht]
    exact hn
theorem rid_of (l : List Int) (hb : By l) (hl : l.length ≤ 4611686018427387904) (a : Int) (K : Nat) (hK : 9 < K) :
    carillonref01_Id.f K l a = some (if has l a 8 then (dec (cut l a 8), true) else (0, false)) := by
  unfold carillonref01_Id.f
  rw [fits_of l a 8 hl (by omega), Option.bind_some]
  by_cases h : has l a 8
  · have hf := rid_from l hb hl a h 8 K 0 (by omega) (by omega) (by omega)
    rw [if_pos (decide_eq_true h), if_pos h]
    rw [List.take_zero] at hf
    exact hf
  · rw [if_neg (by simpa using h), if_neg h]
theorem enc_get (u : Int) : ∀ (n i : Nat), i < n → (enc u n)[i]? = some ((u / 256 ^ (n - (i + 1))) % 256)
  | 0, i, h => by omega
  | n + 1, 0, _ => by simp [enc]
  | n + 1, i + 1, h => by
    have ih := enc_get u n i (by omega)
    rw [show n + 1 - (i + 1 + 1) = n - (i + 1) by omega, ← ih]
    simp [enc]
theorem rput_from (U : Int) (h0 : 0 ≤ U) (h1 : U ≤ 18446744073709551615) (n : Nat) (hn : n ≤ 8) (d : Nat) : ∀ (k : Nat) (l : List Int), d ≤ n → l.length = n → l.drop d = (enc U n).drop d → d < k →
    carillonref01_Put.l0 k l (U / 256 ^ (n - d)) ((d : Int) - 1) = some (enc U n) := by
  induction d with
  | zero =>
    intro k l _ hl hd hk
    obtain ⟨k, rfl⟩ : ∃ m, k = m + 1 := ⟨k - 1, by omega⟩
    rw [List.drop_zero, List.drop_zero] at hd
    rw [carillonref01_Put.l0, if_neg (by omega), hd]
  | succ d ih =>
    intro k l hdn hl hd hk
    obtain ⟨k, rfl⟩ : ∃ m, k = m + 1 := ⟨k - 1, by omega⟩
    have hp := pow_pos (n - (d + 1))
    have hv0 : 0 ≤ U / 256 ^ (n - (d + 1)) := Int.ediv_nonneg h0 (by omega)
    have hvU : U / 256 ^ (n - (d + 1)) ≤ U := Int.ediv_le_self _ h0
    have hnext : U / 256 ^ (n - (d + 1)) / 256 = U / 256 ^ (n - d) := by
      rw [Int.ediv_ediv_of_nonneg (by omega), ← Int.pow_succ, show (n - (d + 1)).succ = n - d by omega]
    have hget := enc_get U n d (by omega)
    have hih := ih k (l.set d ((U / 256 ^ (n - (d + 1))) % 256)) (by omega) (by simpa using hl)
    rw [← hnext] at hih
    clear ih hnext hp
    generalize U / 256 ^ (n - (d + 1)) = v at *
    have q : ((d + 1 : Nat) : Int) - 1 = (d : Int) := by omega
    have w1 : wrap64 ((d : Int) - 1) = (d : Int) - 1 := w64 _ (by omega) (by omega)
    have w2 : IntKind.u64.wrap (v / 256) = v / 256 := wrapu_of _ (by omega) (by omega)
    have w3 : (Int.tmod v 256) % 256 = v % 256 := by rw [tm v 256 (by omega), if_pos (Or.inl hv0)]; omega
    have w4 : Int.tdiv v 256 = v / 256 := by rw [td v 256 (by omega), if_pos (Or.inl hv0)]
    rw [carillonref01_Put.l0, q, if_pos (by omega), if_pos (by omega), if_pos (by omega), w4, w3, w2, w1, Int.toNat_natCast]
    refine hih ?_ (by omega)
    have hlt : d < (l.set d (v % 256)).length := by rw [List.length_set]; omega
    have hle : d < (enc U n).length := by rw [enc_length]; omega
    rw [List.drop_eq_getElem_cons hlt, List.drop_eq_getElem_cons hle, List.drop_set_of_lt (by omega), hd, List.getElem_set_self]
    congr 1
    have := List.getElem?_eq_getElem hle
    rw [hget] at this
    exact (Option.some.inj this)
theorem dvd8 (n : Nat) (h : n ≤ 8) : (256 : Int) ^ n ∣ 18446744073709551616 := ⟨256 ^ (8 - n), by rw [← pow8, ← Int.pow_add, show n + (8 - n) = 8 by omega]⟩
theorem rput_of (v a1 : Int) (K : Nat) (hK : 8 < K) : carillonref01_Put.f K v a1 = some (enc v (mn (mx a1 0) 8).toNat) := by
  have hm : 0 ≤ mn (mx a1 0) 8 ∧ mn (mx a1 0) 8 ≤ 8 := by
    unfold mn mx
    constructor <;> (repeat' split) <;> omega
  unfold carillonref01_Put.f
  rw [if_pos hm.1, if_pos (by omega)]
  generalize mn (mx a1 0) 8 = m at *
  obtain ⟨n, rfl⟩ : ∃ n : Nat, m = n := ⟨m.toNat, by omega⟩
  have hu := wrapu v
  have hu0 : 0 ≤ IntKind.u64.wrap v := by rw [hu]; omega
  have hu1 : IntKind.u64.wrap v ≤ 18446744073709551615 := by rw [hu]; omega
  have h := rput_from (IntKind.u64.wrap v) hu0 hu1 n (by omega) n K (List.replicate n 0) (Nat.le_refl _) (by simp) (by rw [List.drop_of_length_le (by simp), List.drop_of_length_le (by simp [enc_length])]) (by omega)
  rw [Nat.sub_self, Int.pow_zero, Int.ediv_one] at h
  rw [Int.toNat_natCast, h]
  congr 1
  apply enc_congr
  rw [hu, Int.emod_emod_of_dvd _ (dvd8 n (by omega))]
theorem rput2 (v : Int) (K : Nat) (hK : 8 < K) : carillonref01_Put.f K v 2 = some (enc v 2) := rput_of v 2 K hK
theorem rput8 (v : Int) (K : Nat) (hK : 8 < K) : carillonref01_Put.f K v 8 = some (enc v 8) := rput_of v 8 K hK
theorem rputId_of (v : Int) (K : Nat) (hK : 8 < K) : carillonref01_PutId.f K v = some (enc v 8) := by
  unfold carillonref01_PutId.f
  rw [rput8 _ K hK]
  simp only [Option.bind_some]
  congr 1
  apply enc_congr
  rw [pow8]
  unfold wrap64
  omega
end Go.Proofs.Ytgmiokocipmbaaa.Ref
