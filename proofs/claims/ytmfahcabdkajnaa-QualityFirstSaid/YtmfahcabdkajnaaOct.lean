/- What the bytes' functions of the given program answer, in plain words: numbers put and read, the highest byte first. -/
import Derived.Test.YtmfahcabdkajnaaPx0
import Derived.Test.YtmfahcabdkajnaaPx4
import Derived.Test.YtmfahcabdkajnaaLib
import Derived.Laws.BitsAllLaws
namespace Go.Proofs.Ytmfahcabdkajnaa.Oct
open Go.RowKit Go.Proofs.Ytmfahcabdkajnaa.P Go.Proofs.Ytmfahcabdkajnaa.Lib Go.Proofs.YtmfahcabdkajnaaW.PrintWords Go.Proofs.YtmfahcabdkajnaaW.PrintLast Go.Proofs.YtmfahcabdkajnaaW.PrintMore

theorem bytes_enc (v : Int) (n : Nat) : octets_Put.bytes v n = enc v n := by
  induction n with
  | zero => rfl
  | succ n ih => simp only [octets_Put.bytes, enc, ih]
theorem put_of (l : List Int) (v n : Int) (h1 : 1 ≤ n) (h8 : n ≤ 8) (hl : l.length ≤ 140737488355320) : octets_Put.f l v n = some (l ++ enc v n.toNat) := by
  unfold octets_Put.f
  rw [if_pos ⟨h1, hl⟩, bytes_enc]
  have : mn n 8 = n := by unfold mn; split <;> omega
  rw [this]
theorem put1 (l : List Int) (v : Int) (hl : l.length ≤ 140737488355320) : octets_Put.f l v 1 = some (l ++ enc v 1) := put_of l v 1 (by omega) (by omega) hl
theorem put2 (l : List Int) (v : Int) (hl : l.length ≤ 140737488355320) : octets_Put.f l v 2 = some (l ++ enc v 2) := put_of l v 2 (by omega) (by omega) hl
theorem put4 (l : List Int) (v : Int) (hl : l.length ≤ 140737488355320) : octets_Put.f l v 4 = some (l ++ enc v 4) := put_of l v 4 (by omega) (by omega) hl
theorem put6 (l : List Int) (v : Int) (hl : l.length ≤ 140737488355320) : octets_Put.f l v 6 = some (l ++ enc v 6) := put_of l v 6 (by omega) (by omega) hl
theorem put8 (l : List Int) (v : Int) (hl : l.length ≤ 140737488355320) : octets_Put.f l v 8 = some (l ++ enc v 8) := put_of l v 8 (by omega) (by omega) hl

/-- Are there so many bytes at a place? -/
def has (l : List Int) (a n : Int) : Prop := 0 ≤ n ∧ 0 ≤ a ∧ a + n ≤ l.length
instance (l : List Int) (a n : Int) : Decidable (has l a n) := by unfold has; infer_instance
/-- The bytes that stand at a place. -/
def cut (l : List Int) (a n : Int) : List Int := (l.take (a + n).toNat).drop a.toNat
theorem cut_length {l : List Int} {a n : Int} (h : has l a n) : (cut l a n).length = n.toNat := by
  unfold has at h
  unfold cut
  rw [List.length_drop, List.length_take]
  omega
theorem cut_by {l : List Int} (h : By l) (a n : Int) : By (cut l a n) := (h.take _).drop _
theorem cut_eq (l : List Int) (a n : Int) (ha : 0 ≤ a) (hn : 0 ≤ n) : cut l a n = (l.drop a.toNat).take n.toNat := by
  unfold cut
  rw [List.drop_take]
  congr 1
  omega
theorem cut_split (l : List Int) (a m n : Int) (ha : 0 ≤ a) (hm : 0 ≤ m) (hn : 0 ≤ n) : cut l a (m + n) = cut l a m ++ cut l (a + m) n := by
  rw [cut_eq l a (m + n) ha (by omega), cut_eq l a m ha hm, cut_eq l (a + m) n (by omega) hn]
  have h1 : (m + n).toNat = m.toNat + n.toNat := by omega
  have h2 : (a + m).toNat = a.toNat + m.toNat := by omega
  rw [h1, h2, List.take_add, List.drop_drop]
theorem cut_app (p q r : List Int) (a n : Int) (ha : a = p.length) (hn : n = q.length) : cut (p ++ q ++ r) a n = q := by
  unfold cut
  have h1 : (a + n).toNat = (p ++ q).length := by rw [List.length_append]; omega
  have h2 : a.toNat = p.length := by omega
  rw [h1, h2, List.take_left, List.drop_left]
theorem wrapu_of (x : Int) (h : 0 ≤ x) (h2 : x < 18446744073709551616) : IntKind.u64.wrap x = x := by
  simp [IntKind.wrap, IntKind.signed, IntKind.bits]
  omega
theorem wrapu (x : Int) : IntKind.u64.wrap x = x % 18446744073709551616 := by
  simp [IntKind.wrap, IntKind.signed, IntKind.bits]
theorem wrapi (x : Int) : IntKind.i64.wrap x = wrap64 x := i64_w x
theorem w64 (x : Int) (h : -9223372036854775808 ≤ x) (h2 : x ≤ 9223372036854775807) : wrap64 x = x := by unfold wrap64; omega
theorem or_byte (x y : Int) (hx : 0 ≤ x) (hx2 : x < 72057594037927936) (hy : 0 ≤ y) (hy2 : y ≤ 255) : Go.bits .or .u64 (IntKind.u64.wrap (x * 256)) (IntKind.u64.wrap y) = 256 * x + y := by
  rw [wrapu_of _ (by omega) (by omega), wrapu_of _ (by omega) (by omega), u64_or _ _ (by omega) (by omega) (by omega) (by omega)]
  obtain ⟨a, rfl⟩ := Int.eq_ofNat_of_zero_le hx
  obtain ⟨b, rfl⟩ := Int.eq_ofNat_of_zero_le hy
  have h1 : ((a : Int) * 256).toNat = 2 ^ 8 * a := by omega
  have h2 : ((b : Int)).toNat = b := by omega
  rw [h1, h2, ← Nat.two_pow_add_eq_or_of_lt (by omega)]
  omega
theorem mask_of (v : Int) (n : Nat) (h1 : 1 ≤ n) (h7 : n ≤ 7) : Go.bits .and .i64 v (256 ^ n - 1) = v % 256 ^ n := by
  have key : ∀ (m : Nat) (M : Int), (BitVec.ofInt 64 M).toNat = 2 ^ m - 1 → Go.bits .and .i64 v M = IntKind.i64.wrap (((v % ((2 ^ 64 : Nat) : Int)).toNat % 2 ^ m : Nat) : Int) := by
    intro m M hM
    have e : (BitVec.ofInt 64 v &&& BitVec.ofInt 64 M).toNat = (v % ((2 ^ 64 : Nat) : Int)).toNat % 2 ^ m := by rw [BitVec.toNat_and, BitVec.toNat_ofInt, hM, Nat.and_two_pow_sub_one_eq_mod]
    show IntKind.i64.wrap ((BitVec.ofInt 64 v &&& BitVec.ofInt 64 M).toNat : Nat) = _
    rw [e]
  have hc : n = 1 ∨ n = 2 ∨ n = 3 ∨ n = 4 ∨ n = 5 ∨ n = 6 ∨ n = 7 := by omega
  rcases hc with rfl | rfl | rfl | rfl | rfl | rfl | rfl
  · rw [show (256 : Int) ^ 1 = 256 by decide +kernel, key 8 _ (by decide +kernel), i64_w]
    unfold wrap64
    omega
  · rw [show (256 : Int) ^ 2 = 65536 by decide +kernel, key 16 _ (by decide +kernel), i64_w]
    unfold wrap64
    omega
  · rw [show (256 : Int) ^ 3 = 16777216 by decide +kernel, key 24 _ (by decide +kernel), i64_w]
    unfold wrap64
    omega
  · rw [show (256 : Int) ^ 4 = 4294967296 by decide +kernel, key 32 _ (by decide +kernel), i64_w]
    unfold wrap64
    omega
  · rw [show (256 : Int) ^ 5 = 1099511627776 by decide +kernel, key 40 _ (by decide +kernel), i64_w]
    unfold wrap64
    omega
  · rw [show (256 : Int) ^ 6 = 281474976710656 by decide +kernel, key 48 _ (by decide +kernel), i64_w]
    unfold wrap64
    omega
  · rw [show (256 : Int) ^ 7 = 72057594037927936 by decide +kernel, key 56 _ (by decide +kernel), i64_w]
    unfold wrap64
    omega
/-- The powers that the laws reckon with. -/
theorem shl_of (p : Int) (h0 : 0 ≤ p) (h6 : p ≤ 6) : ∃ n : Nat, n = (p + 1).toNat ∧ 1 ≤ n ∧ n ≤ 7 ∧ wrap64 (1 + p) = (n : Int) ∧ IntKind.u64.wrap (wrap64 (8 * wrap64 (1 + p))) = 8 * (n : Int) ∧ shl .i64 1 (IntKind.u64.wrap (wrap64 (8 * wrap64 (1 + p)))) = 256 ^ n ∧
    256 ≤ (256 : Int) ^ n ∧ (256 : Int) ^ n ≤ 72057594037927936 ∧ (256 : Int) ^ n % 2 = 0 ∧ IntKind.u64.wrap (wrap64 (wrap64 (8 * wrap64 (1 + p)) - 1)) = 8 * (n : Int) - 1 ∧ shl .i64 1 (IntKind.u64.wrap (wrap64 (wrap64 (8 * wrap64 (1 + p)) - 1))) = 256 ^ n / 2 := by
  have hp : p = 0 ∨ p = 1 ∨ p = 2 ∨ p = 3 ∨ p = 4 ∨ p = 5 ∨ p = 6 := by omega
  rcases hp with rfl | rfl | rfl | rfl | rfl | rfl | rfl <;> exact ⟨_, rfl, by decide +kernel⟩
theorem dec8 {l : List Int} (hb : By l) {n : Nat} (hn : l.length ≤ n) (hn8 : n ≤ 8) : 0 ≤ dec l ∧ dec l < 256 ^ n ∧ dec l < 18446744073709551616 := by
  have h := dec_range hb
  refine ⟨h.1, Int.lt_of_lt_of_le h.2 (pow_le hn), ?_⟩
  rw [← pow8]
  exact Int.lt_of_lt_of_le h.2 (pow_le (Nat.le_trans hn hn8))
/-- The number that n bytes are, the highest bit its sign. -/
def sgn (n : Nat) (v : Int) : Int := if 2 * v < 256 ^ n then v else v - 256 ^ n
theorem sgn8 (v : Int) (h0 : 0 ≤ v) (h1 : v < 18446744073709551616) : IntKind.u64.wrap (sgn 8 v) = v := by
  unfold sgn
  rw [wrapu, pow8]
  split <;> omega
end Go.Proofs.Ytmfahcabdkajnaa.Oct
