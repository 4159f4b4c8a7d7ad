/- Plain lemmas on whole numbers and bytes: no program in sight. -/
import Derived.RowKit
import Derived.RowKit3
import Derived.Test.YtinlfcfcpolodaaZzWMore
import Derived.Laws.BytesArg
import Derived.Laws.Strings
namespace Go.Proofs.Ytinlfcfcpolodaa.Lib
open Go.RowKit Go.Proofs.YtinlfcfcpolodaaW.PrintWords
/-! ### Bytes -/
def enc (v : Int) : Nat → List Int
  | 0 => []
  | n + 1 => (v / 256 ^ n) % 256 :: enc v n
def dec (l : List Int) : Int := l.foldl (fun a x => 256 * a + x) 0
def By (l : List Int) : Prop := ∀ x ∈ l, 0 ≤ x ∧ x ≤ 255
theorem pow_pos (n : Nat) : (0 : Int) < 256 ^ n := Int.pow_pos (by omega)
theorem pow_le {m n : Nat} (h : m ≤ n) : (256 : Int) ^ m ≤ 256 ^ n := by
  induction h with
  | refl => omega
  | step h ih =>
    rename_i q
    have := pow_pos q
    rw [Int.pow_succ]
    omega
theorem pow7 : (256 : Int) ^ 7 = 72057594037927936 := by decide +kernel
theorem pow8 : (256 : Int) ^ 8 = 18446744073709551616 := by decide +kernel
theorem By.nil : By [] := fun x hx => by simp at hx
theorem By.app {a b : List Int} (ha : By a) (hb : By b) : By (a ++ b) := fun x hx => by
  rcases List.mem_append.1 hx with h | h
  · exact ha x h
  · exact hb x h
theorem By.take {a : List Int} (h : By a) (n : Nat) : By (a.take n) := fun x hx => h x (List.mem_of_mem_take hx)
theorem By.drop {a : List Int} (h : By a) (n : Nat) : By (a.drop n) := fun x hx => h x (List.mem_of_mem_drop hx)
theorem fold_from (l : List Int) : ∀ a : Int, l.foldl (fun a x => 256 * a + x) a = a * 256 ^ l.length + dec l := by
  induction l with
  | nil => intro a; simp [dec]
  | cons x l ih =>
    intro a
    have h1 := ih (256 * a + x)
    have h2 := ih (256 * 0 + x)
    simp only [List.foldl_cons, dec, List.length_cons] at *
    rw [h1, h2, Int.pow_succ]
    grind
theorem dec_cons (x : Int) (l : List Int) : dec (x :: l) = x * 256 ^ l.length + dec l := by
  unfold dec
  rw [List.foldl_cons, fold_from]
  simp [dec]
theorem dec_snoc (a : List Int) (x : Int) : dec (a ++ [x]) = 256 * dec a + x := by
  simp [dec, List.foldl_append]
theorem dec_range {l : List Int} (h : By l) : 0 ≤ dec l ∧ dec l < 256 ^ l.length := by
  induction l with
  | nil => simp [dec]
  | cons x l ih =>
    have hx := h x List.mem_cons_self
    have hr := ih (fun y hy => h y (List.mem_cons_of_mem _ hy))
    have hp := pow_pos l.length
    rw [dec_cons, List.length_cons, Int.pow_succ]
    have h1 : x * 256 ^ l.length ≤ 255 * 256 ^ l.length := Int.mul_le_mul_of_nonneg_right hx.2 (by omega)
    have h2 : 0 ≤ x * 256 ^ l.length := Int.mul_nonneg hx.1 (by omega)
    omega
/-! ### Bytes as strings -/
end Go.Proofs.Ytinlfcfcpolodaa.Lib
