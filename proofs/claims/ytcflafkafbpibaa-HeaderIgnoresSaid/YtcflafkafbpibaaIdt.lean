/- What the given program's functions on ports' identities answer, in plain words. -/
import Derived.Test.YtcflafkafbpibaaPx0
import Derived.Test.YtcflafkafbpibaaPx1
import Derived.Test.YtcflafkafbpibaaPx2
import Derived.Test.YtcflafkafbpibaaPx5
import Derived.Test.YtcflafkafbpibaaOct
import Derived.Test.YtcflafkafbpibaaRef
namespace Go.Proofs.Ytcflafkafbpibaa.Idt
open Go.RowKit Go.Proofs.Ytcflafkafbpibaa.P Go.Proofs.Ytcflafkafbpibaa.Lib Go.Proofs.Ytcflafkafbpibaa.Oct Go.Proofs.Ytcflafkafbpibaa.Ref Go.Proofs.YtcflafkafbpibaaW.PrintWords Go.Proofs.YtcflafkafbpibaaW.PrintLast Go.Proofs.YtcflafkafbpibaaW.PrintMore
/-- Two numbers' order. -/
def ord (a b : Int) : Int := if a < b then -1 else if a > b then 1 else 0
theorem ord_cases (a b : Int) : (ord a b = -1 ∧ a < b) ∨ (ord a b = 0 ∧ a = b) ∨ (ord a b = 1 ∧ b < a) := by
  unfold ord
  split
  · exact .inl ⟨rfl, by omega⟩
  · split
    · exact .inr (.inr ⟨rfl, by omega⟩)
    · exact .inr (.inl ⟨rfl, by omega⟩)
/-- Two ports' order: the clock decides ahead of the port. -/
def cmp2 (a b c d : Int) : Int := if ord a c = 0 then ord b d else ord a c
theorem cmp2_cases (a b c d : Int) : (cmp2 a b c d = -1 ∧ (a < c ∨ a = c ∧ b < d)) ∨ (cmp2 a b c d = 0 ∧ a = c ∧ b = d) ∨ (cmp2 a b c d = 1 ∧ (c < a ∨ a = c ∧ d < b)) := by
  have h1 := ord_cases a c
  have h2 := ord_cases b d
  unfold cmp2
  split <;> omega
theorem idPut_of (l : List Int) (c p : Int) (hl : l.length ≤ 140737488355300) : ident_Put.f l c p = some (l ++ enc c 8 ++ enc p 2) := by
  unfold ident_Put.f
  rw [putId_of l c (by omega)]
  simp only [Option.bind_some]
  rw [put2 _ p (by rw [List.length_append, enc_length]; omega)]
  rfl
theorem idGet_of (l : List Int) (hb : By l) (hl : l.length ≤ 4611686018427387904) (a : Int) (ha : -9223372036854775808 ≤ a ∧ a ≤ 9223372036854775807) (K : Nat) (hK : 8 < K) :
    ident_Get.f (K + 1) l a = some (if has l a 10 then (dec (cut l a 8), dec (cut l (a + 8) 2), true) else (0, 0, false)) := by
  unfold ident_Get.f
  by_cases h1 : a < 0
  · rw [if_pos h1, ident_Get.j0, if_pos rfl, if_neg (by unfold has; omega)]
  · rw [if_neg h1]
    by_cases h2 : a > (l.length : Int)
    · rw [if_pos h2, ident_Get.j0, if_pos rfl, if_neg (by unfold has; omega)]
    · rw [if_neg h2]
      have hw : wrap64 ((l.length : Int) - a) = (l.length : Int) - a := w64 _ (by omega) (by omega)
      rw [hw, ident_Get.j0]
      clear hw
      by_cases h3 : (l.length : Int) - a < 10
      · rw [if_pos (decide_eq_true h3), if_neg (by unfold has; omega)]
      · have hh : has l a 10 := ⟨by omega, by omega, by omega⟩
        have h8 : has l a 8 := ⟨by omega, by omega, by omega⟩
        have h82 : has l (a + 8) 2 := ⟨by omega, by omega, by omega⟩
        have g1 := getId_of l hb hl a ha K hK
        have g2 := get_yes l hb hl (a + 8) 2 h82 (by omega) (by omega) K hK
        have hw : wrap64 (a + 8) = a + 8 := w64 _ (by omega) (by omega)
        rw [if_neg (by simpa using h3), if_pos hh, hw, g1, g2, if_pos h8]
        rfl
/-- The eight bytes that an address of six makes. -/
def macBytes (l : List Int) : List Int := l.take 3 ++ [255, 254] ++ l.drop 3
theorem macBytes_length (l : List Int) (h : l.length = 6) : (macBytes l).length = 8 := by simp [macBytes, h]
theorem macBytes_by {l : List Int} (h : By l) : By (macBytes l) := by
  refine ((h.take 3).app ?_).app (h.drop 3)
  intro x hx
  simp only [List.mem_cons, List.not_mem_nil, or_false] at hx
  rcases hx with rfl | rfl <;> omega
theorem cut_all (l : List Int) (n : Int) (h : n = l.length) : cut l 0 n = l := by
  unfold cut
  rw [List.take_of_length_le (by omega)]
  rfl
def idm (p : Int) : Bool := decide (0 ≤ p ∧ p ≤ 65535)
theorem im_of (c p : Int) : ident_May.f c p = some (idm p) := by
  unfold ident_May.f idm
  by_cases h : p ≥ 0
  · rw [if_pos h]
    exact congrArg some (decide_eq_decide.2 (by omega))
  · rw [if_neg h]
    exact congrArg some (decide_eq_false (by omega)).symm
end Go.Proofs.Ytcflafkafbpibaa.Idt
