/- What the given program's functions on headers answer, in plain words. -/
import Derived.Test.YtiomlbkakiienaaZzPx0
import Derived.Test.YtiomlbkakiienaaZzPx1
import Derived.Test.YtiomlbkakiienaaZzPx3
import Derived.Test.YtiomlbkakiienaaZzPx4
import Derived.Test.YtiomlbkakiienaaZzPx6
import Derived.Test.YtiomlbkakiienaaZzPx7
import Derived.Test.YtiomlbkakiienaaZzPx9
import Derived.Test.YtiomlbkakiienaaZzIdt
import Derived.Test.YtiomlbkakiienaaZzRef
namespace Go.Proofs.Ytiomlbkakiienaa.Hdr
open Go.RowKit Go.Proofs.Ytiomlbkakiienaa.P Go.Proofs.Ytiomlbkakiienaa.Lib Go.Proofs.Ytiomlbkakiienaa.Oct Go.Proofs.Ytiomlbkakiienaa.Idt Go.Proofs.Ytiomlbkakiienaa.Ref Go.Proofs.YtiomlbkakiienaaW.PrintWords Go.Proofs.YtiomlbkakiienaaW.PrintLast Go.Proofs.YtiomlbkakiienaaW.PrintMore
def kn (t : Int) : Bool := decide (0 ≤ t ∧ t ≤ 3 ∨ 8 ≤ t ∧ t ≤ 13)
theorem known_of (t : Int) (K : Nat) : header_Known.f (K + 1) t = some (kn t) := by
  by_cases h : 0 ≤ t ∧ t ≤ 3 ∨ 8 ≤ t ∧ t ≤ 13
  · have hc : t = 0 ∨ t = 1 ∨ t = 2 ∨ t = 3 ∨ t = 8 ∨ t = 9 ∨ t = 10 ∨ t = 11 ∨ t = 12 ∨ t = 13 := by omega
    rcases hc with rfl | rfl | rfl | rfl | rfl | rfl | rfl | rfl | rfl | rfl <;> rfl
  · have hk : kn t = false := decide_eq_false h
    rw [hk]
    unfold header_Known.f
    rw [if_neg (by omega), if_neg (by omega), if_neg (by omega), header_Known.j0, if_neg (by simp; omega), if_neg (by omega), if_neg (by omega), if_neg (by omega), if_neg (by omega), if_neg (by omega), if_neg (by omega)]
theorem rKnown_of (t : Int) : carillonref06_Known.f t = some (kn t) := by
  unfold carillonref06_Known.f
  by_cases h0 : t ≥ 0
  · rw [if_pos h0]
    by_cases h3 : t ≤ 3
    · rw [if_pos h3]
      exact congrArg some (decide_eq_true (by omega)).symm
    · rw [if_neg h3]
      by_cases h8 : t ≥ 8
      · rw [if_pos h8]
        exact congrArg some (decide_eq_decide.2 (by omega))
      · rw [if_neg h8]
        exact congrArg some (decide_eq_false (by omega)).symm
  · rw [if_neg h0, if_neg (by omega)]
    exact congrArg some (decide_eq_false (by omega)).symm
def within (v a b : Int) : Bool := decide (a ≤ v ∧ v ≤ b)
theorem in_of (v a b : Int) : header_in.f v a b = some (within v a b) := by
  unfold header_in.f within
  by_cases h : v ≥ a
  · rw [if_pos h]
    exact congrArg some (decide_eq_decide.2 (by omega))
  · rw [if_neg h]
    exact congrArg some (decide_eq_false (by omega)).symm
theorem rIn_of (v a b : Int) : carillonref05_In.f v a b = some (within v a b) := by
  unfold carillonref05_In.f within
  by_cases h : v ≥ a
  · rw [if_pos h]
    exact congrArg some (decide_eq_decide.2 (by omega))
  · rw [if_neg h]
    exact congrArg some (decide_eq_false (by omega)).symm
theorem idMay_of (c p : Int) : ident_May.f c p = some (within p 0 65535) := by
  unfold ident_May.f within
  by_cases h : p ≥ 0
  · rw [if_pos h]
    exact congrArg some (decide_eq_decide.2 (by omega))
  · rw [if_neg h]
    exact congrArg some (decide_eq_false (by omega)).symm
theorem rIdMay_of (c p : Int) : carillonref04_May.f c p = some (within p 0 65535) := by
  unfold carillonref04_May.f within
  by_cases h : p ≥ 0
  · rw [if_pos h]
    exact congrArg some (decide_eq_decide.2 (by omega))
  · rw [if_neg h]
    exact congrArg some (decide_eq_false (by omega)).symm
def hok (t d f p s l : Int) : Bool := kn t && (within d 0 255 && (within f 0 65535 && (within p 0 65535 && (within s 0 65535 && within l (-128) 127))))
theorem check_of (m0 m1 m2 m3 m4 m5 m6 m7 m8 m9 m10 m11 m12 m13 m14 m15 m16 m17 m18 m19 m20 m21 m22 : Int) (K : Nat) :
    header_Check.f (K + 1) m0 m1 m2 m3 m4 m5 m6 m7 m8 m9 m10 m11 m12 m13 m14 m15 m16 m17 m18 m19 m20 m21 m22 = some (hok m0 m1 m2 m5 m6 m7) := by
  unfold header_Check.f hok
  rw [known_of, in_of, in_of, idMay_of, in_of, in_of]
  simp only [Option.bind_some]
  cases kn m0 <;> cases within m1 0 255 <;> cases within m2 0 65535 <;> cases within m5 0 65535 <;> cases within m6 0 65535 <;> simp
theorem rCheck_of (m0 m1 m2 m3 m4 m5 m6 m7 m8 m9 m10 m11 m12 m13 m14 m15 m16 m17 m18 m19 m20 m21 m22 : Int) :
    carillonref06_Check.f m0 m1 m2 m3 m4 m5 m6 m7 m8 m9 m10 m11 m12 m13 m14 m15 m16 m17 m18 m19 m20 m21 m22 = some (hok m0 m1 m2 m5 m6 m7) := by
  unfold carillonref06_Check.f hok
  rw [rKnown_of, rIn_of, rIn_of, rIdMay_of, rIn_of, rIn_of]
  simp only [Option.bind_some]
  cases kn m0 <;> cases within m1 0 255 <;> cases within m2 0 65535 <;> cases within m5 0 65535 <;> cases within m6 0 65535 <;> simp
def ctl (t : Int) : Int := if t = 0 then 0 else if t = 1 then 1 else if t = 8 then 2 else if t = 9 then 3 else if t = 13 then 4 else 5
def hdr (t d f c s p q l n : Int) : List Int := [t % 256, 18] ++ enc n 2 ++ enc d 1 ++ enc 0 1 ++ enc f 2 ++ enc c 8 ++ enc 0 4 ++ enc s 8 ++ enc p 2 ++ enc q 2 ++ enc (ctl t) 1 ++ enc l 1
theorem hdr_length (t d f c s p q l n : Int) : (hdr t d f c s p q l n).length = 34 := by simp [hdr, enc_length]
theorem two_by (t : Int) : By [t % 256, 18] := by
  intro x hx
  simp only [List.mem_cons, List.not_mem_nil, or_false] at hx
  rcases hx with rfl | rfl <;> omega
theorem hdr_by (t d f c s p q l n : Int) : By (hdr t d f c s p q l n) :=
  (((((((((((two_by t).app (enc_by n 2)).app (enc_by d 1)).app (enc_by 0 1)).app (enc_by f 2)).app (enc_by c 8)).app (enc_by 0 4)).app (enc_by s 8)).app (enc_by p 2)).app (enc_by q 2)).app (enc_by (ctl t) 1)).app (enc_by l 1)
theorem hPut_of (m0 m1 m2 m3 m4 m5 m6 m7 m8 m9 m10 m11 m12 m13 m14 m15 m16 m17 m18 m19 m20 m21 m22 n : Int) (K : Nat) :
    header_Put.f (K + 2) m0 m1 m2 m3 m4 m5 m6 m7 m8 m9 m10 m11 m12 m13 m14 m15 m16 m17 m18 m19 m20 m21 m22 n = some (if (hok m0 m1 m2 m5 m6 m7 && within n 34 400) = true then (hdr m0 m1 m2 m3 m4 m5 m6 m7 n, true) else ([], false)) := by
  unfold header_Put.f
  rw [show K + 2 = (K + 1) + 1 by omega, check_of, in_of]
  simp only [Option.bind_some]
  have hc : header_control.f m0 = some (ctl m0) := by
    unfold header_control.f ctl
    split
    · rfl
    · split
      · rfl
      · split
        · rfl
        · split
          · rfl
          · split <;> rfl
  by_cases h1 : hok m0 m1 m2 m5 m6 m7 = true
  · rw [if_pos h1, h1, Bool.true_and]
    by_cases h2 : within n 34 400 = true
    · rw [if_pos h2, if_pos h2]
      rw [put2 _ _ (by simp), Option.bind_some, put1 _ _ (by simp [enc_length]), Option.bind_some, put1 _ _ (by simp [enc_length]), Option.bind_some, put2 _ _ (by simp [enc_length]), Option.bind_some, put8 _ _ (by simp [enc_length]), Option.bind_some, put4 _ _ (by simp [enc_length]), Option.bind_some, idPut_of _ _ _ (by simp [enc_length]), Option.bind_some, put2 _ _ (by simp [enc_length]), Option.bind_some, hc, Option.bind_some, put1 _ _ (by simp [enc_length]), Option.bind_some, put1 _ _ (by simp [enc_length]), Option.bind_some]
      unfold hdr
      rw [show IntKind.u8.wrap m0 = m0 % 256 by simp [IntKind.wrap, IntKind.bits, IntKind.signed]]
    · rw [if_neg h2, if_neg h2]
  · rw [if_neg h1, if_neg (by simp [h1])]
theorem w8 (n : Int) : IntKind.u8.wrap n = n % 256 := by simp [IntKind.wrap, IntKind.bits, IntKind.signed]
theorem e1 (v : Int) : enc v 1 = [v % 256] := by simp [enc]
theorem z4 : enc 0 4 = [0, 0, 0, 0] := by decide +kernel
theorem ctl_mod (t : Int) : ctl t % 256 = ctl t := by
  unfold ctl
  (repeat' split) <;> rfl
theorem rhPut_of (m0 m1 m2 m3 m4 m5 m6 m7 m8 m9 m10 m11 m12 m13 m14 m15 m16 m17 m18 m19 m20 m21 m22 n : Int) (K : Nat) (hK : 8 < K) :
    carillonref06_Put.f K m0 m1 m2 m3 m4 m5 m6 m7 m8 m9 m10 m11 m12 m13 m14 m15 m16 m17 m18 m19 m20 m21 m22 n = some (if (hok m0 m1 m2 m5 m6 m7 && within n 34 400) = true then hdr m0 m1 m2 m3 m4 m5 m6 m7 n else []) := by
  unfold carillonref06_Put.f
  rw [rCheck_of, Option.bind_some]
  by_cases h1 : hok m0 m1 m2 m5 m6 m7 = true
  · rw [if_pos h1, h1, Bool.true_and]
    by_cases h2 : within n 34 400 = true
    · have h2' := of_decide_eq_true h2
      have hc : (if m0 = 0 then 0 else (if m0 = 1 then 1 else (if m0 = 8 then 2 else (if m0 = 9 then 3 else (if m0 = 13 then 4 else 5))))) = ctl m0 := rfl
      rw [if_neg (by omega), if_neg (by omega), if_pos h2, rput2 _ K hK, rput2 _ K hK, rput2 _ K hK, rput8 _ K hK, rIdPut_of _ _ K hK, hc]
      simp only [Option.bind_some, w8]
      rw [if_pos (by simp [enc_length]), if_pos (by simp [enc_length]), if_pos (by simp [enc_length]), if_pos (by simp [enc_length]), if_pos (by simp [enc_length]), if_pos (by simp [enc_length]), if_pos (by simp [enc_length]), if_pos (by simp [enc_length])]
      unfold hdr
      rw [e1, e1, e1, e1, z4, ctl_mod]
      simp
    · have h2' := of_decide_eq_false (Bool.eq_false_iff.2 h2)
      rw [if_neg h2]
      by_cases q : n < 34
      · rw [if_pos q]
      · rw [if_neg q, if_pos (show n > 400 by omega)]
  · rw [if_neg h1, if_neg (by simp [h1])]
def hz (e : Int) : Int × Int × Int × Int × Int × Int × Int × Int × Int × Int × Int × Int × Int × Int × Int × Int × Int × Int × Int × Int × Int × Int × Int × Int × Int := (0, 0, 0, 0, 0, 0, 0, 0, 0, 0, 0, 0, 0, 0, 0, 0, 0, 0, 0, 0, 0, 0, 0, 0, e)
def hget (l : List Int) : Int × Int × Int × Int × Int × Int × Int × Int × Int × Int × Int × Int × Int × Int × Int × Int × Int × Int × Int × Int × Int × Int × Int × Int × Int :=
  if (l.length : Int) < 34 then hz 2
  else if kn (rd l 0) = true ∧ rd l 1 % 16 = 2 ∧ within (dec (cut l 2 2)) 34 400 = true then
    if (l.length : Int) < dec (cut l 2 2) then hz 2
    else if (l.length : Int) > dec (cut l 2 2) then hz 3
    else (rd l 0, rd l 4, dec (cut l 6 2), sgn 8 (dec (cut l 8 8)), dec (cut l 20 8), dec (cut l 28 2), dec (cut l 30 2), sgn 1 (dec (cut l 33 1)), 0, 0, 0, 0, 0, 0, 0, 0, 0, 0, 0, 0, 0, 0, 0, dec (cut l 2 2), 0)
  else hz 4
end Go.Proofs.Ytiomlbkakiienaa.Hdr
