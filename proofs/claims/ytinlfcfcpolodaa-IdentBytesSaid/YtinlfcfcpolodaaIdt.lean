/- What the given program's functions on ports' identities answer, in plain words. -/
import Derived.Test.YtinlfcfcpolodaaPx0
import Derived.Test.YtinlfcfcpolodaaPx3
import Derived.Test.YtinlfcfcpolodaaPx5
import Derived.Test.YtinlfcfcpolodaaPx7
import Derived.Test.YtinlfcfcpolodaaPx8
import Derived.Test.YtinlfcfcpolodaaPx10
import Derived.Test.YtinlfcfcpolodaaPx11
import Derived.Test.YtinlfcfcpolodaaOct
import Derived.Test.YtinlfcfcpolodaaRef
namespace Go.Proofs.Ytinlfcfcpolodaa.Idt
open Go.RowKit Go.Proofs.Ytinlfcfcpolodaa.P Go.Proofs.Ytinlfcfcpolodaa.Lib Go.Proofs.Ytinlfcfcpolodaa.Oct Go.Proofs.Ytinlfcfcpolodaa.Ref Go.Proofs.YtinlfcfcpolodaaW.PrintWords Go.Proofs.YtinlfcfcpolodaaW.PrintLast Go.Proofs.YtinlfcfcpolodaaW.PrintMore
/-- Two numbers' order. -/
def ord (a b : Int) : Int := if a < b then -1 else if a > b then 1 else 0
theorem ord_cases (a b : Int) : (ord a b = -1 ∧ a < b) ∨ (ord a b = 0 ∧ a = b) ∨ (ord a b = 1 ∧ b < a) := by
  unfold ord
  split
  · exact .inl ⟨rfl, by omega⟩
  · split
    · exact .inr (.inr ⟨rfl, by omega⟩)
    · exact .inr (.inl ⟨rfl, by omega⟩)
theorem cmpI_of (a b : Int) : cmp_Compare_int.f a b = some (ord a b) := by
  unfold cmp_Compare_int.f cmp_isNaN_int.f ord
  simp
  split
  · rfl
  · split <;> rfl
theorem cmpU_of (a b : Int) : cmp_Compare_uint64.f a b = some (ord a b) := by
  unfold cmp_Compare_uint64.f cmp_isNaN_uint64.f ord
  simp
  split
  · rfl
  · split <;> rfl
theorem or2_of (x y : Int) (K : Nat) : cmp_Or_int.f (K + 4) [x, y] = some (if x = 0 then y else x) := by
  unfold cmp_Or_int.f
  rw [cmp_Or_int.l0, if_pos (by simp), if_pos (by omega), if_pos (by simp)]
  by_cases h : x = 0
  · rw [if_pos (by simpa [rd] using h), if_pos h, cmp_Or_int.l0]
    have w : wrap64 ((0 : Int) + 1) = 1 := by decide +kernel
    rw [w, if_pos (by simp), if_pos (by omega), if_pos (by simp)]
    by_cases h2 : y = 0
    · rw [if_pos (by simpa [rd] using h2), cmp_Or_int.l0]
      have w : wrap64 ((1 : Int) + 1) = 2 := by decide +kernel
      rw [w, if_neg (by simp), h2]
    · rw [if_neg (by simpa [rd] using h2)]
      simp [rd]
  · rw [if_neg (by simpa [rd] using h), if_neg h]
    simp [rd]
theorem or3_of (x y z : Int) (K : Nat) : cmp_Or_int.f (K + 4) [x, y, z] = some (if x = 0 then if y = 0 then z else y else x) := by
  unfold cmp_Or_int.f
  rw [cmp_Or_int.l0, if_pos (by simp), if_pos (by omega), if_pos (by simp)]
  by_cases h : x = 0
  · rw [if_pos (by simpa [rd] using h), if_pos h, cmp_Or_int.l0]
    have w : wrap64 ((0 : Int) + 1) = 1 := by decide +kernel
    rw [w, if_pos (by simp), if_pos (by omega), if_pos (by simp)]
    by_cases h2 : y = 0
    · rw [if_pos (by simpa [rd] using h2), if_pos h2, cmp_Or_int.l0]
      have w : wrap64 ((1 : Int) + 1) = 2 := by decide +kernel
      rw [w, if_pos (by simp), if_pos (by omega), if_pos (by simp)]
      by_cases h3 : z = 0
      · rw [if_pos (by simpa [rd] using h3), cmp_Or_int.l0]
        have w : wrap64 ((2 : Int) + 1) = 3 := by decide +kernel
        rw [w, if_neg (by simp), h3]
      · rw [if_neg (by simpa [rd] using h3)]
        simp [rd]
    · rw [if_neg (by simpa [rd] using h2), if_neg h2]
      simp [rd]
  · rw [if_neg (by simpa [rd] using h), if_neg h]
    simp [rd]
/-- Two ports' order: the clock decides ahead of the port. -/
def cmp2 (a b c d : Int) : Int := if ord a c = 0 then ord b d else ord a c
theorem cmp2_cases (a b c d : Int) : (cmp2 a b c d = -1 ∧ (a < c ∨ a = c ∧ b < d)) ∨ (cmp2 a b c d = 0 ∧ a = c ∧ b = d) ∨ (cmp2 a b c d = 1 ∧ (c < a ∨ a = c ∧ d < b)) := by
  have h1 := ord_cases a c
  have h2 := ord_cases b d
  unfold cmp2
  split <;> omega
theorem idCompare_of (a b c d : Int) (K : Nat) : ident_Compare.f (K + 4) a b c d = some (cmp2 a b c d) := by
  unfold ident_Compare.f
  have h := cmp2_cases a b c d
  by_cases e : a = c ∧ b = d
  · rw [if_pos (by simp [e.1, e.2])]
    congr 1
    omega
  · rw [if_neg (by simpa using e), cmpU_of, cmpI_of]
    simp only [Option.bind_some]
    rw [or2_of]
    rfl
theorem rCompare_of (a b c d : Int) : carillonref04_Compare.f a b c d = some (cmp2 a b c d) := by
  have h := cmp2_cases a b c d
  unfold carillonref04_Compare.f
  split
  · congr 1
    omega
  · split
    · congr 1
      omega
    · split
      · congr 1
        omega
      · split
        · congr 1
          omega
        · congr 1
          omega
def meant (t u p q : Int) : Bool := decide ((t = 18446744073709551615 ∨ t = p) ∧ (u = 65535 ∨ u = q))
theorem meant_of (t u p q : Int) : ident_Meant.f t u p q = some (meant t u p q) := by
  unfold ident_Meant.f meant
  by_cases e : t = p ∧ u = q
  · rw [if_pos (by simp [e.1, e.2])]
    simp [e.1, e.2]
  · rw [if_neg (by simpa using e)]
    by_cases h1 : t = 18446744073709551615
    · rw [if_pos h1]
      by_cases h2 : u = 65535
      · rw [if_pos h2]
        simp [h1, h2]
      · rw [if_neg h2]
        simp [h1, h2, Bool.beq_eq_decide_eq]
    · rw [if_neg h1]
      by_cases h3 : t = p
      · rw [if_pos h3]
        by_cases h2 : u = 65535
        · rw [if_pos h2]
          simp [h3, h2]
        · rw [if_neg h2]
          simp [h3, h2, Bool.beq_eq_decide_eq]
      · rw [if_neg h3]
        simp [h1, h3]
theorem rMeant_of (t u p q : Int) : carillonref04_Meant.f t u p q = some (meant t u p q) := by
  unfold carillonref04_Meant.f meant
  by_cases h1 : t = 18446744073709551615
  · rw [if_pos h1]
    by_cases h2 : u = 65535
    · rw [if_pos h2]
      simp [h1, h2]
    · rw [if_neg h2]
      simp [h1, h2, Bool.beq_eq_decide_eq]
  · rw [if_neg h1]
    by_cases h3 : t = p
    · rw [if_pos h3]
      by_cases h2 : u = 65535
      · rw [if_pos h2]
        simp [h3, h2]
      · rw [if_neg h2]
        simp [h3, h2, Bool.beq_eq_decide_eq]
    · rw [if_neg h3]
      simp [h1, h3]
theorem idPut_of (l : List Int) (c p : Int) (hl : l.length ≤ 140737488355300) : ident_Put.f l c p = some (l ++ enc c 8 ++ enc p 2) := by
  unfold ident_Put.f
  rw [putId_of l c (by omega)]
  simp only [Option.bind_some]
  rw [put2 _ p (by rw [List.length_append, enc_length]; omega)]
  rfl
theorem idGet_of (l : List Int) (hb : By l) (hl : l.length ≤ 4611686018427387904) (a : Int) (ha : -9223372036854775808 ≤ a ∧ a ≤ 9223372036854775807) (K : Nat) (hK : 8 < K) :
    ident_Get.f (K + 1) l a = some (if has l a 10 then (dec (cut l a 8), dec (cut l (a + 8) 2), true) else (0, 0, false)) := by
  unfold ident_Get.f
  by_cases h1 : a < 0
  · rw [if_pos h1, ident_Get.j0, if_pos rfl, if_neg (by unfold has; omega)]
  · rw [if_neg h1]
    by_cases h2 : a > (l.length : Int)
    · rw [if_pos h2, ident_Get.j0, if_pos rfl, if_neg (by unfold has; omega)]
    · rw [if_neg h2]
      have hw : wrap64 ((l.length : Int) - a) = (l.length : Int) - a := w64 _ (by omega) (by omega)
      rw [hw, ident_Get.j0]
      clear hw
      by_cases h3 : (l.length : Int) - a < 10
      · rw [if_pos (decide_eq_true h3), if_neg (by unfold has; omega)]
      · have hh : has l a 10 := ⟨by omega, by omega, by omega⟩
        have h8 : has l a 8 := ⟨by omega, by omega, by omega⟩
        have h82 : has l (a + 8) 2 := ⟨by omega, by omega, by omega⟩
        have g1 := getId_of l hb hl a ha K hK
        have g2 := get_yes l hb hl (a + 8) 2 h82 (by omega) (by omega) K hK
        have hw : wrap64 (a + 8) = a + 8 := w64 _ (by omega) (by omega)
        rw [if_neg (by simpa using h3), if_pos hh, hw, g1, g2, if_pos h8]
        rfl
/-- The eight bytes that an address of six makes. -/
def macBytes (l : List Int) : List Int := l.take 3 ++ [255, 254] ++ l.drop 3
theorem macBytes_length (l : List Int) (h : l.length = 6) : (macBytes l).length = 8 := by simp [macBytes, h]
theorem macBytes_by {l : List Int} (h : By l) : By (macBytes l) := by
  refine ((h.take 3).app ?_).app (h.drop 3)
  intro x hx
  simp only [List.mem_cons, List.not_mem_nil, or_false] at hx
  rcases hx with rfl | rfl <;> omega
theorem cut_all (l : List Int) (n : Int) (h : n = l.length) : cut l 0 n = l := by
  unfold cut
  rw [List.take_of_length_le (by omega)]
  rfl
theorem mac_of (l : List Int) (hb : By l) (K : Nat) (hK : 9 < K) : ident_FromMac.f K l = some (if l.length = 6 then (dec (macBytes l), true) else (0, false)) := by
  unfold ident_FromMac.f
  by_cases h : l.length = 6
  · have hL := macBytes_length l h
    have g := getId_of (macBytes l) (macBytes_by hb) (by omega) 0 (by omega) K (by omega)
    rw [if_pos ⟨by omega, by omega, by omega⟩, cut_all _ _ (by omega)] at g
    rw [if_pos (by omega), if_pos (by omega), if_pos (by simp; omega), if_pos h]
    simp only [Option.bind_some, List.nil_append]
    rw [if_pos (by simp; omega), if_pos (by simp; omega)]
    unfold macBytes at g
    rw [g]
    rfl
  · rw [if_neg (by omega), if_neg h]
theorem rmac_of (l : List Int) (hb : By l) (K : Nat) (hK : 9 < K) : carillonref04_FromMac.f K l = some (if l.length = 6 then (dec (macBytes l), true) else (0, false)) := by
  unfold carillonref04_FromMac.f
  by_cases h : l.length = 6
  · have hL := macBytes_length l h
    have g := rid_of (macBytes l) (macBytes_by hb) (by omega) 0 K (by omega)
    rw [if_pos ⟨by omega, by omega, by omega⟩, cut_all _ _ (by omega)] at g
    rw [if_pos (by omega), if_pos (by omega), if_pos (by simp; omega), if_pos h]
    simp only [Option.bind_some, List.nil_append]
    rw [if_pos (by simp; omega), if_pos (by simp; omega)]
    unfold macBytes at g
    rw [g]
    rfl
  · rw [if_neg (by omega), if_neg h]
def idm (p : Int) : Bool := decide (0 ≤ p ∧ p ≤ 65535)
theorem im_of (c p : Int) : ident_May.f c p = some (idm p) := by
  unfold ident_May.f idm
  by_cases h : p ≥ 0
  · rw [if_pos h]
    exact congrArg some (decide_eq_decide.2 (by omega))
  · rw [if_neg h]
    exact congrArg some (decide_eq_false (by omega)).symm
theorem rim_of (c p : Int) : carillonref04_May.f c p = some (idm p) := by
  unfold carillonref04_May.f idm
  by_cases h : p ≥ 0
  · rw [if_pos h]
    exact congrArg some (decide_eq_decide.2 (by omega))
  · rw [if_neg h]
    exact congrArg some (decide_eq_false (by omega)).symm
end Go.Proofs.Ytinlfcfcpolodaa.Idt
