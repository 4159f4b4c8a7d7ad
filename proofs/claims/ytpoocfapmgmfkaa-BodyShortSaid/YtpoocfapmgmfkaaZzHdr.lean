/- What the given program's functions on headers answer, in plain words. -/
import Derived.Test.YtpoocfapmgmfkaaZzPx0
import Derived.Test.YtpoocfapmgmfkaaZzPx1
import Derived.Test.YtpoocfapmgmfkaaZzIdt
import Derived.Test.YtpoocfapmgmfkaaZzRef
namespace Go.Proofs.Ytpoocfapmgmfkaa.Hdr
open Go.RowKit Go.Proofs.Ytpoocfapmgmfkaa.P Go.Proofs.Ytpoocfapmgmfkaa.Lib Go.Proofs.Ytpoocfapmgmfkaa.Oct Go.Proofs.Ytpoocfapmgmfkaa.Idt Go.Proofs.Ytpoocfapmgmfkaa.Ref Go.Proofs.YtpoocfapmgmfkaaW.PrintWords Go.Proofs.YtpoocfapmgmfkaaW.PrintLast Go.Proofs.YtpoocfapmgmfkaaW.PrintMore
def kn (t : Int) : Bool := decide (0 ≤ t ∧ t ≤ 3 ∨ 8 ≤ t ∧ t ≤ 13)
theorem known_of (t : Int) (K : Nat) : header_Known.f (K + 1) t = some (kn t) := by
  by_cases h : 0 ≤ t ∧ t ≤ 3 ∨ 8 ≤ t ∧ t ≤ 13
  · have hc : t = 0 ∨ t = 1 ∨ t = 2 ∨ t = 3 ∨ t = 8 ∨ t = 9 ∨ t = 10 ∨ t = 11 ∨ t = 12 ∨ t = 13 := by omega
    rcases hc with rfl | rfl | rfl | rfl | rfl | rfl | rfl | rfl | rfl | rfl <;> rfl
  · have hk : kn t = false := decide_eq_false h
    rw [hk]
    unfold header_Known.f
    rw [if_neg (by omega), if_neg (by omega), if_neg (by omega), header_Known.j0, if_neg (by simp; omega), if_neg (by omega), if_neg (by omega), if_neg (by omega), if_neg (by omega), if_neg (by omega), if_neg (by omega)]
def within (v a b : Int) : Bool := decide (a ≤ v ∧ v ≤ b)
theorem in_of (v a b : Int) : header_in.f v a b = some (within v a b) := by
  unfold header_in.f within
  by_cases h : v ≥ a
  · rw [if_pos h]
    exact congrArg some (decide_eq_decide.2 (by omega))
  · rw [if_neg h]
    exact congrArg some (decide_eq_false (by omega)).symm
theorem idMay_of (c p : Int) : ident_May.f c p = some (within p 0 65535) := by
  unfold ident_May.f within
  by_cases h : p ≥ 0
  · rw [if_pos h]
    exact congrArg some (decide_eq_decide.2 (by omega))
  · rw [if_neg h]
    exact congrArg some (decide_eq_false (by omega)).symm
def hok (t d f p s l : Int) : Bool := kn t && (within d 0 255 && (within f 0 65535 && (within p 0 65535 && (within s 0 65535 && within l (-128) 127))))
theorem check_of (m0 m1 m2 m3 m4 m5 m6 m7 m8 m9 m10 m11 m12 m13 m14 m15 m16 m17 m18 m19 m20 m21 m22 : Int) (K : Nat) :
    header_Check.f (K + 1) m0 m1 m2 m3 m4 m5 m6 m7 m8 m9 m10 m11 m12 m13 m14 m15 m16 m17 m18 m19 m20 m21 m22 = some (hok m0 m1 m2 m5 m6 m7) := by
  unfold header_Check.f hok
  rw [known_of, in_of, in_of, idMay_of, in_of, in_of]
  simp only [Option.bind_some]
  cases kn m0 <;> cases within m1 0 255 <;> cases within m2 0 65535 <;> cases within m5 0 65535 <;> cases within m6 0 65535 <;> simp
def ctl (t : Int) : Int := if t = 0 then 0 else if t = 1 then 1 else if t = 8 then 2 else if t = 9 then 3 else if t = 13 then 4 else 5
def hdr (t d f c s p q l n : Int) : List Int := [t % 256, 18] ++ enc n 2 ++ enc d 1 ++ enc 0 1 ++ enc f 2 ++ enc c 8 ++ enc 0 4 ++ enc s 8 ++ enc p 2 ++ enc q 2 ++ enc (ctl t) 1 ++ enc l 1
theorem w8 (n : Int) : IntKind.u8.wrap n = n % 256 := by simp [IntKind.wrap, IntKind.bits, IntKind.signed]
theorem e1 (v : Int) : enc v 1 = [v % 256] := by simp [enc]
theorem z4 : enc 0 4 = [0, 0, 0, 0] := by decide +kernel
theorem rd_by {l : List Int} (hb : By l) (i : Int) (h0 : 0 ≤ i) (h1 : i < l.length) : 0 ≤ rd l i ∧ rd l i ≤ 255 := by
  have h2 : i.toNat < l.length := by omega
  have e : rd l i = l[i.toNat] := by simp [rd, h2]
  rw [e]
  exact hb _ (List.getElem_mem h2)
theorem and15 : ∀ n : Fin 256, Go.bits .and .u8 (n.val : Int) 15 = (n.val : Int) % 16 := by decide +kernel
theorem and15_of (x : Int) (h : 0 ≤ x ∧ x ≤ 255) : Go.bits .and .u8 x 15 = x % 16 := by
  have := and15 ⟨x.toNat, by omega⟩
  rw [show (((⟨x.toNat, by omega⟩ : Fin 256).val : Nat) : Int) = x by simp; omega] at this
  exact this
def hz (e : Int) : Int × Int × Int × Int × Int × Int × Int × Int × Int × Int × Int × Int × Int × Int × Int × Int × Int × Int × Int × Int × Int × Int × Int × Int × Int := (0, 0, 0, 0, 0, 0, 0, 0, 0, 0, 0, 0, 0, 0, 0, 0, 0, 0, 0, 0, 0, 0, 0, 0, e)
end Go.Proofs.Ytpoocfapmgmfkaa.Hdr
