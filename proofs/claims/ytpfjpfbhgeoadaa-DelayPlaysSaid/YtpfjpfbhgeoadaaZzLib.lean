/- Plain lemmas on whole numbers and bytes: no program in sight. -/
import Derived.RowKit
import Derived.RowKit3
import Derived.Test.YtpfjpfbhgeoadaaZzWMore
import Derived.Laws.BytesArg
import Derived.Laws.Strings
namespace Go.Proofs.Ytpfjpfbhgeoadaa.Lib
open Go.RowKit Go.Proofs.YtpfjpfbhgeoadaaW.PrintWords
theorem wf64 {a : Int} (h : (Lit.int .i64 a).wf = true) : -9223372036854775808 ≤ a ∧ a ≤ 9223372036854775807 := by
  simp [Lit.wf, IntKind.min, IntKind.max, IntKind.signed, IntKind.bits] at h
  omega
theorem tm (a n : Int) (hn : 0 < n) : Int.tmod a n = if 0 ≤ a ∨ a % n = 0 then a % n else a % n - n := by
  rw [Int.tmod_eq_emod]
  have h : (0 ≤ a ∨ n ∣ a) ↔ (0 ≤ a ∨ a % n = 0) := by rw [Int.dvd_iff_emod_eq_zero]
  simp only [h]
  split
  · omega
  · omega
theorem td (a n : Int) (hn : 0 < n) : Int.tdiv a n = if 0 ≤ a ∨ a % n = 0 then a / n else a / n + 1 := by
  rw [Int.tdiv_eq_ediv]
  have h : (0 ≤ a ∨ n ∣ a) ↔ (0 ≤ a ∨ a % n = 0) := by rw [Int.dvd_iff_emod_eq_zero]
  simp only [h, Int.sign_eq_one_of_pos hn]
  split
  · omega
  · omega
theorem place (a n : Int) (hn : 0 < n) (hm : n ≤ 9223372036854775807) :
    (if n = 0 then none else if Int.tmod a n < 0 then some (wrap64 (Int.tmod a n + n)) else some (Int.tmod a n)) = some (a % n) := by
  have h0 := Int.emod_nonneg a (show n ≠ 0 by omega)
  have h1 := Int.emod_lt_of_pos a hn
  rw [if_neg (by omega), tm a n hn]
  by_cases h : 0 ≤ a ∨ a % n = 0
  · rw [if_pos h, if_neg (by omega)]
  · rw [if_neg h, if_pos (by omega)]
    congr 1
    unfold wrap64
    omega
/-! ### Bytes -/
def enc (v : Int) : Nat → List Int
  | 0 => []
  | n + 1 => (v / 256 ^ n) % 256 :: enc v n
def By (l : List Int) : Prop := ∀ x ∈ l, 0 ≤ x ∧ x ≤ 255
theorem By.nil : By [] := fun x hx => by simp at hx
theorem By.left {a b : List Int} (h : By (a ++ b)) : By a := fun x hx => h x (List.mem_append_left _ hx)
theorem By.take {a : List Int} (h : By a) (n : Nat) : By (a.take n) := fun x hx => h x (List.mem_of_mem_take hx)
theorem By.drop {a : List Int} (h : By a) (n : Nat) : By (a.drop n) := fun x hx => h x (List.mem_of_mem_drop hx)
/-! ### Bytes as strings -/
end Go.Proofs.Ytpfjpfbhgeoadaa.Lib
