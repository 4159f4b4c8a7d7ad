/- Plain lemmas on whole numbers and bytes: no program in sight. -/
import Derived.RowKit
import Derived.RowKit3
import Derived.Test.YtiomlbkakiienaaZzWMore
import Derived.Laws.BytesArg
import Derived.Laws.Strings
namespace Go.Proofs.Ytiomlbkakiienaa.Lib
open Go.RowKit Go.Proofs.YtiomlbkakiienaaW.PrintWords
theorem tm (a n : Int) (hn : 0 < n) : Int.tmod a n = if 0 ≤ a ∨ a % n = 0 then a % n else a % n - n := by
  rw [Int.tmod_eq_emod]
  have h : (0 ≤ a ∨ n ∣ a) ↔ (0 ≤ a ∨ a % n = 0) := by rw [Int.dvd_iff_emod_eq_zero]
  simp only [h]
  split
  · omega
  · omega
theorem td (a n : Int) (hn : 0 < n) : Int.tdiv a n = if 0 ≤ a ∨ a % n = 0 then a / n else a / n + 1 := by
  rw [Int.tdiv_eq_ediv]
  have h : (0 ≤ a ∨ n ∣ a) ↔ (0 ≤ a ∨ a % n = 0) := by rw [Int.dvd_iff_emod_eq_zero]
  simp only [h, Int.sign_eq_one_of_pos hn]
  split
  · omega
  · omega
def enc (v : Int) : Nat → List Int
  | 0 => []
  | n + 1 => (v / 256 ^ n) % 256 :: enc v n
def dec (l : List Int) : Int := l.foldl (fun a x => 256 * a + x) 0
def By (l : List Int) : Prop := ∀ x ∈ l, 0 ≤ x ∧ x ≤ 255
theorem pow_pos (n : Nat) : (0 : Int) < 256 ^ n := Int.pow_pos (by omega)
theorem pow_le {m n : Nat} (h : m ≤ n) : (256 : Int) ^ m ≤ 256 ^ n := by
  induction h with
  | refl => omega
  | step h ih =>
    rename_i q
    have := pow_pos q
    rw [Int.pow_succ]
    omega
theorem pow7 : (256 : Int) ^ 7 = 72057594037927936 := by decide +kernel
theorem pow8 : (256 : Int) ^ 8 = 18446744073709551616 := by decide +kernel
theorem enc_length (v : Int) (n : Nat) : (enc v n).length = n := by
  induction n with
  | zero => rfl
  | succ n ih => simp [enc, ih]
theorem enc_by (v : Int) (n : Nat) : By (enc v n) := by
  induction n with
  | zero => intro x hx; simp [enc] at hx
  | succ n ih =>
    intro x hx
    simp only [enc, List.mem_cons] at hx
    rcases hx with rfl | hx
    · omega
    · exact ih x hx
theorem By.nil : By [] := fun x hx => by simp at hx
theorem By.app {a b : List Int} (ha : By a) (hb : By b) : By (a ++ b) := fun x hx => by
  rcases List.mem_append.1 hx with h | h
  · exact ha x h
  · exact hb x h
theorem By.left {a b : List Int} (h : By (a ++ b)) : By a := fun x hx => h x (List.mem_append_left _ hx)
theorem By.take {a : List Int} (h : By a) (n : Nat) : By (a.take n) := fun x hx => h x (List.mem_of_mem_take hx)
theorem By.drop {a : List Int} (h : By a) (n : Nat) : By (a.drop n) := fun x hx => h x (List.mem_of_mem_drop hx)
theorem fold_from (l : List Int) : ∀ a : Int, l.foldl (fun a x => 256 * a + x) a = a * 256 ^ l.length + dec l := by
  induction l with
  | nil => intro a; simp [dec]
  | cons x l ih =>
    intro a
    have h1 := ih (256 * a + x)
    have h2 := ih (256 * 0 + x)
    simp only [List.foldl_cons, dec, List.length_cons] at *
    rw [h1, h2, Int.pow_succ]
    grind
theorem dec_cons (x : Int) (l : List Int) : dec (x :: l) = x * 256 ^ l.length + dec l := by
  unfold dec
  rw [List.foldl_cons, fold_from]
  simp [dec]
theorem dec_append (a b : List Int) : dec (a ++ b) = dec a * 256 ^ b.length + dec b := by
  unfold dec
  rw [List.foldl_append, fold_from]
  rfl
theorem dec_snoc (a : List Int) (x : Int) : dec (a ++ [x]) = 256 * dec a + x := by
  simp [dec, List.foldl_append]
theorem emod_pow_succ (v : Int) (n : Nat) : v % 256 ^ (n + 1) = (v / 256 ^ n) % 256 * 256 ^ n + v % 256 ^ n := by
  have hp := pow_pos n
  rw [Int.pow_succ, Int.emod_def, Int.emod_def (v / 256 ^ n), Int.emod_def v (256 ^ n), Int.ediv_ediv_of_nonneg (by omega)]
  grind
theorem dec_enc (v : Int) (n : Nat) : dec (enc v n) = v % 256 ^ n := by
  induction n with
  | zero => simp [enc, dec, Int.emod_one]
  | succ n ih => rw [enc, dec_cons, enc_length, ih, emod_pow_succ]
theorem dec_range {l : List Int} (h : By l) : 0 ≤ dec l ∧ dec l < 256 ^ l.length := by
  induction l with
  | nil => simp [dec]
  | cons x l ih =>
    have hx := h x List.mem_cons_self
    have hr := ih (fun y hy => h y (List.mem_cons_of_mem _ hy))
    have hp := pow_pos l.length
    rw [dec_cons, List.length_cons, Int.pow_succ]
    have h1 : x * 256 ^ l.length ≤ 255 * 256 ^ l.length := Int.mul_le_mul_of_nonneg_right hx.2 (by omega)
    have h2 : 0 ≤ x * 256 ^ l.length := Int.mul_nonneg hx.1 (by omega)
    omega
def u8s (l : List Int) : List UInt8 := l.map fun n => UInt8.ofNat n.toNat
theorem str_list (l : List Int) : (strOfNums l).toList = u8s l := by
  rw [ByteArray.toList_eq]
  rfl
theorem str_size (l : List Int) : (strOfNums l).size = l.length := strOfNums_size l
theorem str_app (a b : List Int) : strOfNums a ++ strOfNums b = strOfNums (a ++ b) := by
  apply ByteArray.ext
  simp [strOfNums]
end Go.Proofs.Ytiomlbkakiienaa.Lib
