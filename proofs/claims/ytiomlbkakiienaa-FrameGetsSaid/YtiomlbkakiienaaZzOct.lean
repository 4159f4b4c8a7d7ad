/- What the bytes' functions of the given program answer, in plain words: numbers put and read, the highest byte first. -/
import Derived.Test.YtiomlbkakiienaaZzPx0
import Derived.Test.YtiomlbkakiienaaZzPx2
import Derived.Test.YtiomlbkakiienaaZzPx3
import Derived.Test.YtiomlbkakiienaaZzPx4
import Derived.Test.YtiomlbkakiienaaZzLib
import Derived.Laws.BitsAllLaws
namespace Go.Proofs.Ytiomlbkakiienaa.Oct
open Go.RowKit Go.Proofs.Ytiomlbkakiienaa.P Go.Proofs.Ytiomlbkakiienaa.Lib Go.Proofs.YtiomlbkakiienaaW.PrintWords Go.Proofs.YtiomlbkakiienaaW.PrintLast Go.Proofs.YtiomlbkakiienaaW.PrintMore
def has (l : List Int) (a n : Int) : Prop := 0 ≤ n ∧ 0 ≤ a ∧ a + n ≤ l.length
instance (l : List Int) (a n : Int) : Decidable (has l a n) := by unfold has; infer_instance
def cut (l : List Int) (a n : Int) : List Int := (l.take (a + n).toNat).drop a.toNat
theorem cut_length {l : List Int} {a n : Int} (h : has l a n) : (cut l a n).length = n.toNat := by
  unfold has at h
  unfold cut
  rw [List.length_drop, List.length_take]
  omega
theorem cut_by {l : List Int} (h : By l) (a n : Int) : By (cut l a n) := (h.take _).drop _
theorem cut_eq (l : List Int) (a n : Int) (ha : 0 ≤ a) (hn : 0 ≤ n) : cut l a n = (l.drop a.toNat).take n.toNat := by
  unfold cut
  rw [List.drop_take]
  congr 1
  omega
theorem cut_split (l : List Int) (a m n : Int) (ha : 0 ≤ a) (hm : 0 ≤ m) (hn : 0 ≤ n) : cut l a (m + n) = cut l a m ++ cut l (a + m) n := by
  rw [cut_eq l a (m + n) ha (by omega), cut_eq l a m ha hm, cut_eq l (a + m) n (by omega) hn]
  have h1 : (m + n).toNat = m.toNat + n.toNat := by omega
  have h2 : (a + m).toNat = a.toNat + m.toNat := by omega
  rw [h1, h2, List.take_add, List.drop_drop]
theorem cut_app (p q r : List Int) (a n : Int) (ha : a = p.length) (hn : n = q.length) : cut (p ++ q ++ r) a n = q := by
  unfold cut
  have h1 : (a + n).toNat = (p ++ q).length := by rw [List.length_append]; omega
  have h2 : a.toNat = p.length := by omega
  rw [h1, h2, List.take_left, List.drop_left]
theorem none_of (l : List Int) (a n : Int) (hl : l.length ≤ 4611686018427387904) (ha : -9223372036854775808 ≤ a ∧ a ≤ 9223372036854775807) (hn : -9223372036854775808 ≤ n ∧ n ≤ 9223372036854775807) :
    octets_none.f l a n = some (decide (¬ has l a n)) := by
  unfold octets_none.f
  by_cases h1 : n < 0
  · rw [if_pos h1]
    congr 1
    symm
    simp [has]
    omega
  · rw [if_neg h1]
    by_cases h2 : a < 0
    · rw [if_pos h2]
      congr 1
      symm
      simp [has]
      omega
    · rw [if_neg h2]
      by_cases h3 : a > (l.length : Int)
      · rw [if_pos h3]
        congr 1
        symm
        simp [has]
        omega
      · rw [if_neg h3]
        have hw : wrap64 ((l.length : Int) - a) = (l.length : Int) - a := by unfold wrap64; omega
        rw [hw]
        exact congrArg some (decide_eq_decide.2 (by unfold has; omega))
theorem wrapu_of (x : Int) (h : 0 ≤ x) (h2 : x < 18446744073709551616) : IntKind.u64.wrap x = x := by
  simp [IntKind.wrap, IntKind.signed, IntKind.bits]
  omega
theorem wrapu (x : Int) : IntKind.u64.wrap x = x % 18446744073709551616 := by
  simp [IntKind.wrap, IntKind.signed, IntKind.bits]
theorem w64 (x : Int) (h : -9223372036854775808 ≤ x) (h2 : x ≤ 9223372036854775807) : wrap64 x = x := by unfold wrap64; omega
theorem or_byte (x y : Int) (hx : 0 ≤ x) (hx2 : x < 72057594037927936) (hy : 0 ≤ y) (hy2 : y ≤ 255) : Go.bits .or .u64 (IntKind.u64.wrap (x * 256)) (IntKind.u64.wrap y) = 256 * x + y := by
  rw [wrapu_of _ (by omega) (by omega), wrapu_of _ (by omega) (by omega), u64_or _ _ (by omega) (by omega) (by omega) (by omega)]
  obtain ⟨a, rfl⟩ := Int.eq_ofNat_of_zero_le hx
  obtain ⟨b, rfl⟩ := Int.eq_ofNat_of_zero_le hy
  have h1 : ((a : Int) * 256).toNat = 2 ^ 8 * a := by omega
  have h2 : ((b : Int)).toNat = b := by omega
  rw [h1, h2, ← Nat.two_pow_add_eq_or_of_lt (by omega)]
  omega
theorem read_from (l : List Int) (hb : By l) (h8 : l.length ≤ 8) (d : Nat) : ∀ (k : Nat) (i : Nat), i ≤ l.length → l.length - i = d → d < k →
    octets_read.l0 k (dec (l.take i)) l (l.length : Int) (i : Int) = some (dec l) := by
  induction d with
  | zero =>
    intro k i hi hd hk
    obtain ⟨k, rfl⟩ : ∃ m, k = m + 1 := ⟨k - 1, by omega⟩
    simp only [octets_read.l0]
    rw [if_neg (by omega), List.take_of_length_le (by omega)]
  | succ d ih =>
    intro k i hi hd hk
    obtain ⟨k, rfl⟩ : ∃ m, k = m + 1 := ⟨k - 1, by omega⟩
    have hlt : i < l.length := by omega
    simp only [octets_read.l0]
    rw [if_pos (by omega), if_pos (by omega), if_pos (by omega)]
    have hr : rd l (i : Int) = l[i] := by simp [rd, hlt]
    have hx := hb l[i] (List.getElem_mem hlt)
    have hw : wrap64 ((i : Int) + 1) = ((i + 1 : Nat) : Int) := by unfold wrap64; omega
    have hn := ih k (i + 1) (by omega) (by omega) (by omega)
    have hi7 : i ≤ 7 := by omega
    have hlen : (l.take i).length = i := by rw [List.length_take]; omega
    have ht : 256 * dec (l.take i) + l[i] = dec (l.take (i + 1)) := by
      rw [List.take_succ_eq_append_getElem hlt, dec_snoc]
    have hdr := dec_range (hb.take i)
    rw [hlen] at hdr
    have hup : dec (l.take i) < 72057594037927936 := by
      rw [← pow7]
      exact Int.lt_of_lt_of_le hdr.2 (pow_le hi7)
    rw [hr, or_byte _ _ hdr.1 hup hx.1 hx.2, hw, ht]
    exact hn
theorem read_of (l : List Int) (hb : By l) (h8 : l.length ≤ 8) (k : Nat) (hk : 8 < k) : octets_read.f k l = some (dec l) := by
  unfold octets_read.f
  have h := read_from l hb h8 l.length k 0 (by omega) (by omega) (by omega)
  rw [show dec (l.take 0) = 0 by rw [List.take_zero]; rfl] at h
  exact h
theorem dec8 {l : List Int} (hb : By l) {n : Nat} (hn : l.length ≤ n) (hn8 : n ≤ 8) : 0 ≤ dec l ∧ dec l < 256 ^ n ∧ dec l < 18446744073709551616 := by
  have h := dec_range hb
  refine ⟨h.1, Int.lt_of_lt_of_le h.2 (pow_le hn), ?_⟩
  rw [← pow8]
  exact Int.lt_of_lt_of_le h.2 (pow_le (Nat.le_trans hn hn8))
theorem get_of (l : List Int) (hb : By l) (hl : l.length ≤ 4611686018427387904) (a n : Int) (ha : -9223372036854775808 ≤ a ∧ a ≤ 9223372036854775807) (hn : -9223372036854775808 ≤ n ∧ n ≤ 9223372036854775807) (k : Nat) (hk : 8 < k) :
    octets_Get.f k l a n = some (if 1 ≤ n ∧ n ≤ 7 ∧ has l a n then (dec (cut l a n), true) else (0, false)) := by
  unfold octets_Get.f
  by_cases h1 : n < 1
  · rw [if_pos h1, if_neg (by omega)]
  · rw [if_neg h1]
    by_cases h2 : n > 7
    · rw [if_pos h2, if_neg (by omega)]
    · rw [if_neg h2, none_of l a n hl ha hn]
      simp only [Option.bind_some, decide_eq_true_eq]
      by_cases h3 : has l a n
      · have h4 := h3
        unfold has at h4
        have hw : wrap64 (a + n) = a + n := by unfold wrap64; omega
        have hc := cut_length h3
        rw [if_neg (by simpa using h3), hw, if_pos h4.2.1, if_pos (by omega), if_pos h4.2.2, if_pos ⟨by omega, by omega, h3⟩]
        have hr := read_of (cut l a n) (cut_by hb a n) (by rw [hc]; omega) k hk
        unfold cut at hr ⊢
        rw [hr]
        simp only [Option.bind_some]
        have hd := dec8 (cut_by hb a n) (n := 7) (by rw [hc]; omega) (by omega)
        unfold cut at hd
        rw [pow7] at hd
        obtain ⟨hd0, hd1, _⟩ := hd
        rw [w64 _ (by omega) (by omega)]
      · rw [if_pos h3, if_neg (by intro h; exact h3 h.2.2)]
theorem get_yes (l : List Int) (hb : By l) (hl : l.length ≤ 4611686018427387904) (a n : Int) (h : has l a n) (h1 : 1 ≤ n) (h7 : n ≤ 7) (k : Nat) (hk : 8 < k) :
    octets_Get.f k l a n = some (dec (cut l a n), true) := by
  have h' := h
  unfold has at h'
  rw [get_of l hb hl a n (by omega) (by omega) k hk, if_pos ⟨h1, h7, h⟩]
def sgn (n : Nat) (v : Int) : Int := if 2 * v < 256 ^ n then v else v - 256 ^ n
theorem sign_of (n : Int) (h1 : 1 ≤ n) (h8 : n ≤ 8) (v : Int) (h0 : 0 ≤ v) (hv : v < 256 ^ n.toNat) :
    (if 0 ≤ wrap64 (64 - wrap64 (8 * n)) then some (shr .i64 (wrap64 (shl .u64 v (wrap64 (64 - wrap64 (8 * n))))) (wrap64 (64 - wrap64 (8 * n))), true) else (none : Option (Int × Bool))) = some (sgn n.toNat v, true) := by
  have hc : n = 1 ∨ n = 2 ∨ n = 3 ∨ n = 4 ∨ n = 5 ∨ n = 6 ∨ n = 7 ∨ n = 8 := by omega
  have e : ∀ m : Int, 1 ≤ m → m ≤ 8 → wrap64 (64 - wrap64 (8 * m)) = 64 - 8 * m := by intro m h1 h2; unfold wrap64; omega
  rw [e n h1 h8, if_pos (by omega)]
  congr 2
  unfold shr shl sgn
  rw [wrapu]
  rcases hc with rfl | rfl | rfl | rfl | rfl | rfl | rfl | rfl <;> simp [IntKind.bits] at * <;> unfold wrap64 <;> split <;> omega
theorem signed_of (l : List Int) (hb : By l) (hl : l.length ≤ 4611686018427387904) (a n : Int) (ha : -9223372036854775808 ≤ a ∧ a ≤ 9223372036854775807) (hn : -9223372036854775808 ≤ n ∧ n ≤ 9223372036854775807) (k : Nat) (hk : 8 < k) :
    octets_Signed.f k l a n = some (if 1 ≤ n ∧ n ≤ 8 ∧ has l a n then (sgn n.toNat (dec (cut l a n)), true) else (0, false)) := by
  unfold octets_Signed.f
  by_cases h1 : n < 1
  · rw [if_pos h1, if_neg (by omega)]
  · rw [if_neg h1]
    by_cases h2 : n > 8
    · rw [if_pos h2, if_neg (by omega)]
    · rw [if_neg h2, none_of l a n hl ha hn]
      simp only [Option.bind_some, decide_eq_true_eq]
      by_cases h3 : has l a n
      · have h4 := h3
        unfold has at h4
        have hw : wrap64 (a + n) = a + n := by unfold wrap64; omega
        have hc := cut_length h3
        rw [if_neg (by simpa using h3), hw, if_pos h4.2.1, if_pos (by omega), if_pos h4.2.2, if_pos ⟨by omega, by omega, h3⟩]
        have hr := read_of (cut l a n) (cut_by hb a n) (by rw [hc]; omega) k hk
        have hd := dec_range (cut_by hb a n)
        rw [hc] at hd
        have hs := sign_of n (by omega) (by omega) _ hd.1 hd.2
        unfold cut at hr hs ⊢
        rw [hr]
        simp only [Option.bind_some]
        exact hs
      · rw [if_pos h3, if_neg (by intro h; exact h3 h.2.2)]
theorem signed_yes (l : List Int) (hb : By l) (hl : l.length ≤ 4611686018427387904) (a n : Int) (h : has l a n) (h1 : 1 ≤ n) (h8 : n ≤ 8) (k : Nat) (hk : 8 < k) :
    octets_Signed.f k l a n = some (sgn n.toNat (dec (cut l a n)), true) := by
  have h' := h
  unfold has at h'
  rw [signed_of l hb hl a n (by omega) (by omega) k hk, if_pos ⟨h1, h8, h⟩]
theorem sgn8 (v : Int) (h0 : 0 ≤ v) (h1 : v < 18446744073709551616) : IntKind.u64.wrap (sgn 8 v) = v := by
  unfold sgn
  rw [wrapu, pow8]
  split <;> omega
theorem getId_of (l : List Int) (hb : By l) (hl : l.length ≤ 4611686018427387904) (a : Int) (ha : -9223372036854775808 ≤ a ∧ a ≤ 9223372036854775807) (k : Nat) (hk : 8 < k) :
    octets_GetId.f k l a = some (if has l a 8 then (dec (cut l a 8), true) else (0, false)) := by
  unfold octets_GetId.f
  rw [signed_of l hb hl a 8 ha (by omega) k hk]
  simp only [Option.bind_some]
  by_cases h : has l a 8
  · have hd := dec8 (cut_by hb a 8) (n := 8) (by rw [cut_length h]; omega) (by omega)
    rw [if_pos ⟨by omega, by omega, h⟩, if_pos h]
    simp only
    rw [show (8 : Int).toNat = 8 from rfl, sgn8 _ hd.1 hd.2.2]
  · rw [if_neg (by intro h'; exact h h'.2.2), if_neg h]
    simp [wrapu]
end Go.Proofs.Ytiomlbkakiienaa.Oct
