/- What the given program's functions on headers answer, in plain words. -/
import Derived.Test.YtpoocfapmgmfkaaZzPx0
import Derived.Test.YtpoocfapmgmfkaaZzPx1
import Derived.Test.YtpoocfapmgmfkaaZzPx3
import Derived.Test.YtpoocfapmgmfkaaZzIdt
import Derived.Test.YtpoocfapmgmfkaaZzOct
namespace Go.Proofs.Ytpoocfapmgmfkaa.Hdr
open Go.RowKit Go.Proofs.Ytpoocfapmgmfkaa.P Go.Proofs.Ytpoocfapmgmfkaa.Lib Go.Proofs.Ytpoocfapmgmfkaa.Oct Go.Proofs.Ytpoocfapmgmfkaa.Idt Go.Proofs.YtpoocfapmgmfkaaW.PrintWords Go.Proofs.YtpoocfapmgmfkaaW.PrintLast Go.Proofs.YtpoocfapmgmfkaaW.PrintMore
def kn (t : Int) : Bool := decide (0 ≤ t ∧ t ≤ 3 ∨ 8 ≤ t ∧ t ≤ 13)
theorem known_of (t : Int) (K : Nat) : header_Known.f (K + 1) t = some (kn t) := by
  by_cases h : 0 ≤ t ∧ t ≤ 3 ∨ 8 ≤ t ∧ t ≤ 13
  · have hc : t = 0 ∨ t = 1 ∨ t = 2 ∨ t = 3 ∨ t = 8 ∨ t = 9 ∨ t = 10 ∨ t = 11 ∨ t = 12 ∨ t = 13 := by omega
    rcases hc with rfl | rfl | rfl | rfl | rfl | rfl | rfl | rfl | rfl | rfl <;> rfl
  · have hk : kn t = false := decide_eq_false h
    rw [hk]
    unfold header_Known.f
    rw [if_neg (by omega), if_neg (by omega), if_neg (by omega), header_Known.j0, if_neg (by simp; omega), if_neg (by omega), if_neg (by omega), if_neg (by omega), if_neg (by omega), if_neg (by omega), if_neg (by omega)]
theorem rKnown_of (t : Int) : carillonref06_Known.f t = some (kn t) := by
  unfold carillonref06_Known.f
  by_cases h0 : t ≥ 0
  · rw [if_pos h0]
    by_cases h3 : t ≤ 3
    · rw [if_pos h3]
      exact congrArg some (decide_eq_true (by omega)).symm
    · rw [if_neg h3]
      by_cases h8 : t ≥ 8
      · rw [if_pos h8]
        exact congrArg some (decide_eq_decide.2 (by omega))
      · rw [if_neg h8]
        exact congrArg some (decide_eq_false (by omega)).symm
  · rw [if_neg h0, if_neg (by omega)]
    exact congrArg some (decide_eq_false (by omega)).symm
def within (v a b : Int) : Bool := decide (a ≤ v ∧ v ≤ b)
theorem in_of (v a b : Int) : header_in.f v a b = some (within v a b) := by
  unfold header_in.f within
  by_cases h : v ≥ a
  · rw [if_pos h]
    exact congrArg some (decide_eq_decide.2 (by omega))
  · rw [if_neg h]
    exact congrArg some (decide_eq_false (by omega)).symm
theorem rIn_of (v a b : Int) : carillonref05_In.f v a b = some (within v a b) := by
  unfold carillonref05_In.f within
  by_cases h : v ≥ a
  · rw [if_pos h]
    exact congrArg some (decide_eq_decide.2 (by omega))
  · rw [if_neg h]
    exact congrArg some (decide_eq_false (by omega)).symm
theorem idMay_of (c p : Int) : ident_May.f c p = some (within p 0 65535) := by
  unfold ident_May.f within
  by_cases h : p ≥ 0
  · rw [if_pos h]
    exact congrArg some (decide_eq_decide.2 (by omega))
  · rw [if_neg h]
    exact congrArg some (decide_eq_false (by omega)).symm
theorem rIdMay_of (c p : Int) : carillonref04_May.f c p = some (within p 0 65535) := by
  unfold carillonref04_May.f within
  by_cases h : p ≥ 0
  · rw [if_pos h]
    exact congrArg some (decide_eq_decide.2 (by omega))
  · rw [if_neg h]
    exact congrArg some (decide_eq_false (by omega)).symm
def hok (t d f p s l : Int) : Bool := kn t && (within d 0 255 && (within f 0 65535 && (within p 0 65535 && (within s 0 65535 && within l (-128) 127))))
theorem check_of (m0 m1 m2 m3 m4 m5 m6 m7 m8 m9 m10 m11 m12 m13 m14 m15 m16 m17 m18 m19 m20 m21 m22 : Int) (K : Nat) :
    header_Check.f (K + 1) m0 m1 m2 m3 m4 m5 m6 m7 m8 m9 m10 m11 m12 m13 m14 m15 m16 m17 m18 m19 m20 m21 m22 = some (hok m0 m1 m2 m5 m6 m7) := by
  unfold header_Check.f hok
  rw [known_of, in_of, in_of, idMay_of, in_of, in_of]
  simp only [Option.bind_some]
  cases kn m0 <;> cases within m1 0 255 <;> cases within m2 0 65535 <;> cases within m5 0 65535 <;> cases within m6 0 65535 <;> simp
theorem rCheck_of (m0 m1 m2 m3 m4 m5 m6 m7 m8 m9 m10 m11 m12 m13 m14 m15 m16 m17 m18 m19 m20 m21 m22 : Int) :
    carillonref06_Check.f m0 m1 m2 m3 m4 m5 m6 m7 m8 m9 m10 m11 m12 m13 m14 m15 m16 m17 m18 m19 m20 m21 m22 = some (hok m0 m1 m2 m5 m6 m7) := by
  unfold carillonref06_Check.f hok
  rw [rKnown_of, rIn_of, rIn_of, rIdMay_of, rIn_of, rIn_of]
  simp only [Option.bind_some]
  cases kn m0 <;> cases within m1 0 255 <;> cases within m2 0 65535 <;> cases within m5 0 65535 <;> cases within m6 0 65535 <;> simp
theorem w8 (n : Int) : IntKind.u8.wrap n = n % 256 := by simp [IntKind.wrap, IntKind.bits, IntKind.signed]
theorem e1 (v : Int) : enc v 1 = [v % 256] := by simp [enc]
theorem z4 : enc 0 4 = [0, 0, 0, 0] := by decide +kernel
def hz (e : Int) : Int × Int × Int × Int × Int × Int × Int × Int × Int × Int × Int × Int × Int × Int × Int × Int × Int × Int × Int × Int × Int × Int × Int × Int × Int := (0, 0, 0, 0, 0, 0, 0, 0, 0, 0, 0, 0, 0, 0, 0, 0, 0, 0, 0, 0, 0, 0, 0, 0, e)
end Go.Proofs.Ytpoocfapmgmfkaa.Hdr
