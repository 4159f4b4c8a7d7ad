/- What the given program's functions on headers answer, in plain words. -/
import Derived.Test.YtiomlbkakiienaaZzPx0
import Derived.Test.YtiomlbkakiienaaZzPx2
import Derived.Test.YtiomlbkakiienaaZzPx4
import Derived.Test.YtiomlbkakiienaaZzPx8
import Derived.Test.YtiomlbkakiienaaZzPx9
import Derived.Test.YtiomlbkakiienaaZzIdt
import Derived.Test.YtiomlbkakiienaaZzRef
namespace Go.Proofs.Ytiomlbkakiienaa.Hdr
open Go.RowKit Go.Proofs.Ytiomlbkakiienaa.P Go.Proofs.Ytiomlbkakiienaa.Lib Go.Proofs.Ytiomlbkakiienaa.Oct Go.Proofs.Ytiomlbkakiienaa.Idt Go.Proofs.Ytiomlbkakiienaa.Ref Go.Proofs.YtiomlbkakiienaaW.PrintWords Go.Proofs.YtiomlbkakiienaaW.PrintLast Go.Proofs.YtiomlbkakiienaaW.PrintMore
def kn (t : Int) : Bool := decide (0 ≤ t ∧ t ≤ 3 ∨ 8 ≤ t ∧ t ≤ 13)
theorem known_of (t : Int) (K : Nat) : header_Known.f (K + 1) t = some (kn t) := by
  by_cases h : 0 ≤ t ∧ t ≤ 3 ∨ 8 ≤ t ∧ t ≤ 13
  · have hc : t = 0 ∨ t = 1 ∨ t = 2 ∨ t = 3 ∨ t = 8 ∨ t = 9 ∨ t = 10 ∨ t = 11 ∨ t = 12 ∨ t = 13 := by omega
    rcases hc with rfl | rfl | rfl | rfl | rfl | rfl | rfl | rfl | rfl | rfl <;> rfl
  · have hk : kn t = false := decide_eq_false h
    rw [hk]
    unfold header_Known.f
    rw [if_neg (by omega), if_neg (by omega), if_neg (by omega), header_Known.j0, if_neg (by simp; omega), if_neg (by omega), if_neg (by omega), if_neg (by omega), if_neg (by omega), if_neg (by omega), if_neg (by omega)]
theorem rKnown_of (t : Int) : carillonref06_Known.f t = some (kn t) := by
  unfold carillonref06_Known.f
  by_cases h0 : t ≥ 0
  · rw [if_pos h0]
    by_cases h3 : t ≤ 3
    · rw [if_pos h3]
      exact congrArg some (decide_eq_true (by omega)).symm
    · rw [if_neg h3]
      by_cases h8 : t ≥ 8
      · rw [if_pos h8]
        exact congrArg some (decide_eq_decide.2 (by omega))
      · rw [if_neg h8]
        exact congrArg some (decide_eq_false (by omega)).symm
  · rw [if_neg h0, if_neg (by omega)]
    exact congrArg some (decide_eq_false (by omega)).symm
def within (v a b : Int) : Bool := decide (a ≤ v ∧ v ≤ b)
theorem in_of (v a b : Int) : header_in.f v a b = some (within v a b) := by
  unfold header_in.f within
  by_cases h : v ≥ a
  · rw [if_pos h]
    exact congrArg some (decide_eq_decide.2 (by omega))
  · rw [if_neg h]
    exact congrArg some (decide_eq_false (by omega)).symm
def hok (t d f p s l : Int) : Bool := kn t && (within d 0 255 && (within f 0 65535 && (within p 0 65535 && (within s 0 65535 && within l (-128) 127))))
def ctl (t : Int) : Int := if t = 0 then 0 else if t = 1 then 1 else if t = 8 then 2 else if t = 9 then 3 else if t = 13 then 4 else 5
def hdr (t d f c s p q l n : Int) : List Int := [t % 256, 18] ++ enc n 2 ++ enc d 1 ++ enc 0 1 ++ enc f 2 ++ enc c 8 ++ enc 0 4 ++ enc s 8 ++ enc p 2 ++ enc q 2 ++ enc (ctl t) 1 ++ enc l 1
theorem w8 (n : Int) : IntKind.u8.wrap n = n % 256 := by simp [IntKind.wrap, IntKind.bits, IntKind.signed]
theorem e1 (v : Int) : enc v 1 = [v % 256] := by simp [enc]
theorem z4 : enc 0 4 = [0, 0, 0, 0] := by decide +kernel
theorem rd_by {l : List Int} (hb : By l) (i : Int) (h0 : 0 ≤ i) (h1 : i < l.length) : 0 ≤ rd l i ∧ rd l i ≤ 255 := by
  have h2 : i.toNat < l.length := by omega
  have e : rd l i = l[i.toNat] := by simp [rd, h2]
  rw [e]
  exact hb _ (List.getElem_mem h2)
theorem and15 : ∀ n : Fin 256, Go.bits .and .u8 (n.val : Int) 15 = (n.val : Int) % 16 := by decide +kernel
theorem and15_of (x : Int) (h : 0 ≤ x ∧ x ≤ 255) : Go.bits .and .u8 x 15 = x % 16 := by
  have := and15 ⟨x.toNat, by omega⟩
  rw [show (((⟨x.toNat, by omega⟩ : Fin 256).val : Nat) : Int) = x by simp; omega] at this
  exact this
def hz (e : Int) : Int × Int × Int × Int × Int × Int × Int × Int × Int × Int × Int × Int × Int × Int × Int × Int × Int × Int × Int × Int × Int × Int × Int × Int × Int := (0, 0, 0, 0, 0, 0, 0, 0, 0, 0, 0, 0, 0, 0, 0, 0, 0, 0, 0, 0, 0, 0, 0, 0, e)
def hget (l : List Int) : Int × Int × Int × Int × Int × Int × Int × Int × Int × Int × Int × Int × Int × Int × Int × Int × Int × Int × Int × Int × Int × Int × Int × Int × Int :=
  if (l.length : Int) < 34 then hz 2
  else if kn (rd l 0) = true ∧ rd l 1 % 16 = 2 ∧ within (dec (cut l 2 2)) 34 400 = true then
    if (l.length : Int) < dec (cut l 2 2) then hz 2
    else if (l.length : Int) > dec (cut l 2 2) then hz 3
    else (rd l 0, rd l 4, dec (cut l 6 2), sgn 8 (dec (cut l 8 8)), dec (cut l 20 8), dec (cut l 28 2), dec (cut l 30 2), sgn 1 (dec (cut l 33 1)), 0, 0, 0, 0, 0, 0, 0, 0, 0, 0, 0, 0, 0, 0, 0, dec (cut l 2 2), 0)
  else hz 4
theorem hGet_of (l : List Int) (hb : By l) (hl : l.length ≤ 4611686018427387904) (K : Nat) (hK : 9 < K) : header_Get.f (K + 1) l = some (hget l) := by
  unfold header_Get.f hget
  by_cases h34 : (l.length : Int) < 34
  · rw [if_pos h34, if_pos h34]
    rfl
  · have hn : ∀ a n : Int, 0 ≤ a → 0 ≤ n → a + n ≤ 34 → has l a n := fun a n h1 h2 h3 => ⟨by omega, by omega, by omega⟩
    have b0 := rd_by hb 0 (by omega) (by omega)
    have b1 := rd_by hb 1 (by omega) (by omega)
    have b4 := rd_by hb 4 (by omega) (by omega)
    have g1 := get_yes l hb hl 2 2 (hn _ _ (by omega) (by omega) (by omega)) (by omega) (by omega) (K + 1) (by omega)
    have g2 := get_yes l hb hl 6 2 (hn _ _ (by omega) (by omega) (by omega)) (by omega) (by omega) (K + 1) (by omega)
    have g3 := signed_yes l hb hl 8 8 (hn _ _ (by omega) (by omega) (by omega)) (by omega) (by omega) (K + 1) (by omega)
    have g4 := idGet_of l hb hl 20 (by omega) K (by omega)
    rw [if_pos (hn _ _ (by omega) (by omega) (by omega))] at g4
    have g5 := get_yes l hb hl 30 2 (hn _ _ (by omega) (by omega) (by omega)) (by omega) (by omega) (K + 1) (by omega)
    have g6 := signed_yes l hb hl 33 1 (hn _ _ (by omega) (by omega) (by omega)) (by omega) (by omega) (K + 1) (by omega)
    have w0 : wrap64 (rd l 0) = rd l 0 := w64 _ (by omega) (by omega)
    have w4 : wrap64 (rd l 4) = rd l 4 := w64 _ (by omega) (by omega)
    rw [if_neg h34, if_neg h34, g1, Option.bind_some, if_pos (by omega), w0, known_of, Option.bind_some, and15_of _ b1]
    by_cases hk : kn (rd l 0) = true
    · rw [if_pos hk, if_pos (by omega)]
      by_cases hv : rd l 1 % 16 = 2
      · rw [if_pos hv, in_of, Option.bind_some]
        by_cases hw : within (dec (cut l 2 2)) 34 400 = true
        · rw [if_pos hw, if_pos (show kn (rd l 0) = true ∧ rd l 1 % 16 = 2 ∧ within (dec (cut l 2 2)) 34 400 = true from ⟨hk, hv, hw⟩)]
          by_cases q1 : (l.length : Int) < dec (cut l 2 2)
          · rw [if_pos q1, if_pos q1]
            rfl
          · rw [if_neg q1, if_neg q1]
            by_cases q2 : (l.length : Int) > dec (cut l 2 2)
            · rw [if_pos q2, if_pos q2]
              rfl
            · rw [if_neg q2, if_neg q2, if_pos (by omega), g2, Option.bind_some, g3, Option.bind_some, g4, Option.bind_some, g5, Option.bind_some, g6, Option.bind_some, w4]
              rfl
        · rw [if_neg hw, if_neg (show ¬ (kn (rd l 0) = true ∧ rd l 1 % 16 = 2 ∧ within (dec (cut l 2 2)) 34 400 = true) from fun h => hw h.2.2)]
          rfl
      · rw [if_neg hv, if_neg (show ¬ (kn (rd l 0) = true ∧ rd l 1 % 16 = 2 ∧ within (dec (cut l 2 2)) 34 400 = true) from fun h => hv h.2.1)]
        rfl
    · rw [if_neg hk, if_neg (show ¬ (kn (rd l 0) = true ∧ rd l 1 % 16 = 2 ∧ within (dec (cut l 2 2)) 34 400 = true) from fun h => hk h.1)]
      rfl
theorem rhGet_of (l : List Int) (hb : By l) (hl : l.length ≤ 4611686018427387904) (K : Nat) (hK : 9 < K) : carillonref06_Get.f (K + 1) l = some (hget l) := by
  unfold carillonref06_Get.f hget
  by_cases h34 : (l.length : Int) < 34
  · rw [if_pos h34, if_pos h34]
    rfl
  · have hn : ∀ a n : Int, 0 ≤ a → 0 ≤ n → a + n ≤ 34 → has l a n := fun a n h1 h2 h3 => ⟨by omega, by omega, by omega⟩
    have b0 := rd_by hb 0 (by omega) (by omega)
    have b1 := rd_by hb 1 (by omega) (by omega)
    have b4 := rd_by hb 4 (by omega) (by omega)
    have g1 := rget_of l hb hl 2 2 (by omega) K (by omega)
    rw [if_pos ⟨by omega, by omega, hn _ _ (by omega) (by omega) (by omega)⟩] at g1
    have g2 := rget_of l hb hl 6 2 (by omega) K (by omega)
    rw [if_pos ⟨by omega, by omega, hn _ _ (by omega) (by omega) (by omega)⟩] at g2
    have g3 := rsigned_of l hb hl 8 8 (by omega) (by omega) K (by omega)
    rw [if_pos (hn _ _ (by omega) (by omega) (by omega))] at g3
    have g4 := rIdGet_of l hb hl 20 (by omega) K (by omega)
    rw [if_pos (hn _ _ (by omega) (by omega) (by omega))] at g4
    have g5 := rget_of l hb hl 30 2 (by omega) K (by omega)
    rw [if_pos ⟨by omega, by omega, hn _ _ (by omega) (by omega) (by omega)⟩] at g5
    have g6 := rsigned_of l hb hl 33 1 (by omega) (by omega) K (by omega)
    rw [if_pos (hn _ _ (by omega) (by omega) (by omega))] at g6
    have w0 : wrap64 (rd l 0) = rd l 0 := w64 _ (by omega) (by omega)
    have w4 : wrap64 (rd l 4) = rd l 4 := w64 _ (by omega) (by omega)
    have t1 : Int.tmod (rd l 1) 16 = rd l 1 % 16 := by rw [tm _ _ (by omega), if_pos (.inl b1.1)]
    rw [if_neg h34, if_neg h34, g1, Option.bind_some, if_pos (by omega), w0, rKnown_of, Option.bind_some, t1]
    by_cases hk : kn (rd l 0) = true
    · rw [if_pos hk, if_pos (by omega)]
      by_cases hv : rd l 1 % 16 = 2
      · rw [if_pos hv]
        by_cases hw : within (dec (cut l 2 2)) 34 400 = true
        · have hw' := of_decide_eq_true hw
          rw [if_neg (by simp only; omega), if_neg (by simp only; omega), if_pos (show kn (rd l 0) = true ∧ rd l 1 % 16 = 2 ∧ within (dec (cut l 2 2)) 34 400 = true from ⟨hk, hv, hw⟩)]
          by_cases q1 : (l.length : Int) < dec (cut l 2 2)
          · rw [if_pos q1, if_pos q1]
            rfl
          · rw [if_neg q1, if_neg q1]
            by_cases q2 : (l.length : Int) > dec (cut l 2 2)
            · rw [if_pos q2, if_pos q2]
              rfl
            · rw [if_neg q2, if_neg q2, if_pos (by omega), g2, Option.bind_some, g3, Option.bind_some, g4, Option.bind_some, g5, Option.bind_some, g6, Option.bind_some, w4]
              rfl
        · have hw' := of_decide_eq_false (Bool.eq_false_iff.2 hw)
          rw [if_neg (show ¬ (kn (rd l 0) = true ∧ rd l 1 % 16 = 2 ∧ within (dec (cut l 2 2)) 34 400 = true) from fun h => hw h.2.2)]
          by_cases q1 : dec (cut l 2 2) < 34
          · rw [if_pos q1]
            rfl
          · rw [if_neg q1, if_pos (show dec (cut l 2 2) > 400 by omega)]
            rfl
      · rw [if_neg hv, if_neg (show ¬ (kn (rd l 0) = true ∧ rd l 1 % 16 = 2 ∧ within (dec (cut l 2 2)) 34 400 = true) from fun h => hv h.2.1)]
        rfl
    · rw [if_neg hk, if_neg (show ¬ (kn (rd l 0) = true ∧ rd l 1 % 16 = 2 ∧ within (dec (cut l 2 2)) 34 400 = true) from fun h => hk h.1)]
      rfl
end Go.Proofs.Ytiomlbkakiienaa.Hdr
