/- What the given program's functions on qualities answer, in plain words. -/
import Derived.Test.YtmfahcabdkajnaaPx0
import Derived.Test.YtmfahcabdkajnaaPx1
import Derived.Test.YtmfahcabdkajnaaPx4
import Derived.Test.YtmfahcabdkajnaaOct
import Derived.Test.YtmfahcabdkajnaaRef
namespace Go.Proofs.Ytmfahcabdkajnaa.Qua
open Go.RowKit Go.Proofs.Ytmfahcabdkajnaa.P Go.Proofs.Ytmfahcabdkajnaa.Lib Go.Proofs.Ytmfahcabdkajnaa.Oct Go.Proofs.Ytmfahcabdkajnaa.Ref Go.Proofs.YtmfahcabdkajnaaW.PrintWords Go.Proofs.YtmfahcabdkajnaaW.PrintLast Go.Proofs.YtmfahcabdkajnaaW.PrintMore
/-- Two numbers' order. -/
def ord (a b : Int) : Int := if a < b then -1 else if a > b then 1 else 0
theorem ord_cases (a b : Int) : (ord a b = -1 ∧ a < b) ∨ (ord a b = 0 ∧ a = b) ∨ (ord a b = 1 ∧ b < a) := by
  unfold ord
  split
  · exact .inl ⟨rfl, by omega⟩
  · split
    · exact .inr (.inr ⟨rfl, by omega⟩)
    · exact .inr (.inl ⟨rfl, by omega⟩)
theorem cmpI_of (a b : Int) : cmp_Compare_int.f a b = some (ord a b) := by
  unfold cmp_Compare_int.f cmp_isNaN_int.f ord
  simp
  split
  · rfl
  · split <;> rfl
theorem or2_of (x y : Int) (K : Nat) : cmp_Or_int.f (K + 4) [x, y] = some (if x = 0 then y else x) := by
  unfold cmp_Or_int.f
  rw [cmp_Or_int.l0, if_pos (by simp), if_pos (by omega), if_pos (by simp)]
  by_cases h : x = 0
  · rw [if_pos (by simpa [rd] using h), if_pos h, cmp_Or_int.l0]
    have w : wrap64 ((0 : Int) + 1) = 1 := by decide +kernel
    rw [w, if_pos (by simp), if_pos (by omega), if_pos (by simp)]
    by_cases h2 : y = 0
    · rw [if_pos (by simpa [rd] using h2), cmp_Or_int.l0]
      have w : wrap64 ((1 : Int) + 1) = 2 := by decide +kernel
      rw [w, if_neg (by simp), h2]
    · rw [if_neg (by simpa [rd] using h2)]
      simp [rd]
  · rw [if_neg (by simpa [rd] using h), if_neg h]
    simp [rd]
theorem or3_of (x y z : Int) (K : Nat) : cmp_Or_int.f (K + 4) [x, y, z] = some (if x = 0 then if y = 0 then z else y else x) := by
  unfold cmp_Or_int.f
  rw [cmp_Or_int.l0, if_pos (by simp), if_pos (by omega), if_pos (by simp)]
  by_cases h : x = 0
  · rw [if_pos (by simpa [rd] using h), if_pos h, cmp_Or_int.l0]
    have w : wrap64 ((0 : Int) + 1) = 1 := by decide +kernel
    rw [w, if_pos (by simp), if_pos (by omega), if_pos (by simp)]
    by_cases h2 : y = 0
    · rw [if_pos (by simpa [rd] using h2), if_pos h2, cmp_Or_int.l0]
      have w : wrap64 ((1 : Int) + 1) = 2 := by decide +kernel
      rw [w, if_pos (by simp), if_pos (by omega), if_pos (by simp)]
      by_cases h3 : z = 0
      · rw [if_pos (by simpa [rd] using h3), cmp_Or_int.l0]
        have w : wrap64 ((2 : Int) + 1) = 3 := by decide +kernel
        rw [w, if_neg (by simp), h3]
      · rw [if_neg (by simpa [rd] using h3)]
        simp [rd]
    · rw [if_neg (by simpa [rd] using h2), if_neg h2]
      simp [rd]
  · rw [if_neg (by simpa [rd] using h), if_neg h]
    simp [rd]
/-- Two qualities' order: the class, then the accuracy, then the variance. -/
def cmp3 (a b c x y z : Int) : Int := if ord a x = 0 then if ord b y = 0 then ord c z else ord b y else ord a x
theorem cmp3_cases (a b c x y z : Int) : (cmp3 a b c x y z = -1 ∧ (a < x ∨ a = x ∧ (b < y ∨ b = y ∧ c < z))) ∨ (cmp3 a b c x y z = 0 ∧ a = x ∧ b = y ∧ c = z) ∨ (cmp3 a b c x y z = 1 ∧ (x < a ∨ a = x ∧ (y < b ∨ b = y ∧ z < c))) := by
  have h1 := ord_cases a x
  have h2 := ord_cases b y
  have h3 := ord_cases c z
  unfold cmp3
  split
  · split <;> omega
  · omega
theorem quCompare_of (a b c x y z : Int) (K : Nat) : quality_Compare.f (K + 4) a b c x y z = some (cmp3 a b c x y z) := by
  unfold quality_Compare.f
  rw [cmpI_of, cmpI_of, cmpI_of]
  simp only [Option.bind_some]
  rw [or3_of]
  rfl
def mayQ (a b c : Int) : Bool := decide (0 ≤ a ∧ a ≤ 255 ∧ 0 ≤ b ∧ b ≤ 255 ∧ 0 ≤ c ∧ c ≤ 65535)
theorem mayQ_of (a b c : Int) : quality_May.f a b c = some (mayQ a b c) := by
  unfold quality_May.f mayQ
  by_cases h1 : a ≥ 0
  · rw [if_pos h1]
    by_cases h2 : a ≤ 255
    · rw [if_pos h2]
      by_cases h3 : b ≥ 0
      · rw [if_pos h3]
        by_cases h4 : b ≤ 255
        · rw [if_pos h4]
          by_cases h5 : c ≥ 0
          · rw [if_pos h5]
            exact congrArg some (decide_eq_decide.2 (by omega))
          · rw [if_neg h5]
            exact congrArg some (decide_eq_false (by omega)).symm
        · rw [if_neg h4]
          exact congrArg some (decide_eq_false (by omega)).symm
      · rw [if_neg h3]
        exact congrArg some (decide_eq_false (by omega)).symm
    · rw [if_neg h2]
      exact congrArg some (decide_eq_false (by omega)).symm
  · rw [if_neg h1]
    exact congrArg some (decide_eq_false (by omega)).symm
theorem quPut_of (l : List Int) (a b c : Int) (hl : l.length ≤ 140737488355300) : quality_Put.f l a b c = some (l ++ enc a 1 ++ enc b 1 ++ enc c 2) := by
  unfold quality_Put.f
  rw [put1 l a (by omega)]
  simp only [Option.bind_some]
  rw [put1 _ b (by rw [List.length_append, enc_length]; omega)]
  simp only [Option.bind_some]
  rw [put2 _ c (by simp only [List.length_append, enc_length]; omega)]
  rfl
/-- The quality that stands at a place. -/
def quAt (l : List Int) (a : Int) : Int × Int × Int × Bool := if has l a 4 then (dec (cut l a 1), dec (cut l (a + 1) 1), dec (cut l (a + 2) 2), true) else (0, 0, 0, false)
theorem quAt_enc (p q : List Int) (a b c : Int) (i : Int) (hi : i = p.length) : quAt (p ++ enc a 1 ++ enc b 1 ++ enc c 2 ++ q) i = (a % 256, b % 256, c % 65536, true) := by
  have hL : (p ++ enc a 1 ++ enc b 1 ++ enc c 2 ++ q).length = p.length + 4 + q.length := by simp only [List.length_append, enc_length]
  have k1 : cut (p ++ enc a 1 ++ enc b 1 ++ enc c 2 ++ q) i 1 = enc a 1 := by
    have := cut_app p (enc a 1) (enc b 1 ++ enc c 2 ++ q) i 1 hi (by simp [enc_length])
    simpa [List.append_assoc] using this
  have k2 : cut (p ++ enc a 1 ++ enc b 1 ++ enc c 2 ++ q) (i + 1) 1 = enc b 1 := by
    have := cut_app (p ++ enc a 1) (enc b 1) (enc c 2 ++ q) (i + 1) 1 (by simp [enc_length]; omega) (by simp [enc_length])
    simpa [List.append_assoc] using this
  have k3 : cut (p ++ enc a 1 ++ enc b 1 ++ enc c 2 ++ q) (i + 2) 2 = enc c 2 := by
    have := cut_app (p ++ enc a 1 ++ enc b 1) (enc c 2) q (i + 2) 2 (by simp [enc_length]; omega) (by simp [enc_length])
    simpa [List.append_assoc] using this
  have p1 : (256 : Int) ^ 1 = 256 := by decide +kernel
  have p2 : (256 : Int) ^ 2 = 65536 := by decide +kernel
  unfold quAt
  rw [k1, k2, k3, dec_enc, dec_enc, dec_enc, p1, p2, if_pos ⟨by omega, by omega, by omega⟩]
end Go.Proofs.Ytmfahcabdkajnaa.Qua
