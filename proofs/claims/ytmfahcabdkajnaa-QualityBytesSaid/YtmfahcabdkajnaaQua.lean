/- What the given program's functions on qualities answer, in plain words. -/
import Derived.Test.YtmfahcabdkajnaaPx0
import Derived.Test.YtmfahcabdkajnaaPx2
import Derived.Test.YtmfahcabdkajnaaPx4
import Derived.Test.YtmfahcabdkajnaaPx6
import Derived.Test.YtmfahcabdkajnaaPx8
import Derived.Test.YtmfahcabdkajnaaPx9
import Derived.Test.YtmfahcabdkajnaaPx10
import Derived.Test.YtmfahcabdkajnaaOct
import Derived.Test.YtmfahcabdkajnaaRef
namespace Go.Proofs.Ytmfahcabdkajnaa.Qua
open Go.RowKit Go.Proofs.Ytmfahcabdkajnaa.P Go.Proofs.Ytmfahcabdkajnaa.Lib Go.Proofs.Ytmfahcabdkajnaa.Oct Go.Proofs.Ytmfahcabdkajnaa.Ref Go.Proofs.YtmfahcabdkajnaaW.PrintWords Go.Proofs.YtmfahcabdkajnaaW.PrintLast Go.Proofs.YtmfahcabdkajnaaW.PrintMore
/-- Two numbers' order. -/
def ord (a b : Int) : Int := if a < b then -1 else if a > b then 1 else 0
theorem ord_cases (a b : Int) : (ord a b = -1 ∧ a < b) ∨ (ord a b = 0 ∧ a = b) ∨ (ord a b = 1 ∧ b < a) := by
  unfold ord
  split
  · exact .inl ⟨rfl, by omega⟩
  · split
    · exact .inr (.inr ⟨rfl, by omega⟩)
    · exact .inr (.inl ⟨rfl, by omega⟩)
theorem cmpI_of (a b : Int) : cmp_Compare_int.f a b = some (ord a b) := by
  unfold cmp_Compare_int.f cmp_isNaN_int.f ord
  simp
  split
  · rfl
  · split <;> rfl
theorem or2_of (x y : Int) (K : Nat) : cmp_Or_int.f (K + 4) [x, y] = some (if x = 0 then y else x) := by
  unfold cmp_Or_int.f
  rw [cmp_Or_int.l0, if_pos (by simp), if_pos (by omega), if_pos (by simp)]
  by_cases h : x = 0
  · rw [if_pos (by simpa [rd] using h), if_pos h, cmp_Or_int.l0]
    have w : wrap64 ((0 : Int) + 1) = 1 := by decide +kernel
    rw [w, if_pos (by simp), if_pos (by omega), if_pos (by simp)]
    by_cases h2 : y = 0
    · rw [if_pos (by simpa [rd] using h2), cmp_Or_int.l0]
      have w : wrap64 ((1 : Int) + 1) = 2 := by decide +kernel
      rw [w, if_neg (by simp), h2]
    · rw [if_neg (by simpa [rd] using h2)]
      simp [rd]
  · rw [if_neg (by simpa [rd] using h), if_neg h]
    simp [rd]
theorem or3_of (x y z : Int) (K : Nat) : cmp_Or_int.f (K + 4) [x, y, z] = some (if x = 0 then if y = 0 then z else y else x) := by
  unfold cmp_Or_int.f
  rw [cmp_Or_int.l0, if_pos (by simp), if_pos (by omega), if_pos (by simp)]
  by_cases h : x = 0
  · rw [if_pos (by simpa [rd] using h), if_pos h, cmp_Or_int.l0]
    have w : wrap64 ((0 : Int) + 1) = 1 := by decide +kernel
    rw [w, if_pos (by simp), if_pos (by omega), if_pos (by simp)]
    by_cases h2 : y = 0
    · rw [if_pos (by simpa [rd] using h2), if_pos h2, cmp_Or_int.l0]
      have w : wrap64 ((1 : Int) + 1) = 2 := by decide +kernel
      rw [w, if_pos (by simp), if_pos (by omega), if_pos (by simp)]
      by_cases h3 : z = 0
      · rw [if_pos (by simpa [rd] using h3), cmp_Or_int.l0]
        have w : wrap64 ((2 : Int) + 1) = 3 := by decide +kernel
        rw [w, if_neg (by simp), h3]
      · rw [if_neg (by simpa [rd] using h3)]
        simp [rd]
    · rw [if_neg (by simpa [rd] using h2), if_neg h2]
      simp [rd]
  · rw [if_neg (by simpa [rd] using h), if_neg h]
    simp [rd]
/-- Two qualities' order: the class, then the accuracy, then the variance. -/
def cmp3 (a b c x y z : Int) : Int := if ord a x = 0 then if ord b y = 0 then ord c z else ord b y else ord a x
theorem cmp3_cases (a b c x y z : Int) : (cmp3 a b c x y z = -1 ∧ (a < x ∨ a = x ∧ (b < y ∨ b = y ∧ c < z))) ∨ (cmp3 a b c x y z = 0 ∧ a = x ∧ b = y ∧ c = z) ∨ (cmp3 a b c x y z = 1 ∧ (x < a ∨ a = x ∧ (y < b ∨ b = y ∧ z < c))) := by
  have h1 := ord_cases a x
  have h2 := ord_cases b y
  have h3 := ord_cases c z
  unfold cmp3
  split
  · split <;> omega
  · omega
theorem quCompare_of (a b c x y z : Int) (K : Nat) : quality_Compare.f (K + 4) a b c x y z = some (cmp3 a b c x y z) := by
  unfold quality_Compare.f
  rw [cmpI_of, cmpI_of, cmpI_of]
  simp only [Option.bind_some]
  rw [or3_of]
  rfl
theorem rCompare_of (a b c x y z : Int) : carillonref05_Compare.f a b c x y z = some (cmp3 a b c x y z) := by
  have e : ∀ s t : Int, carillonref05_Order.f s t = some (ord s t) := by
    intro s t
    unfold carillonref05_Order.f ord
    split
    · rfl
    · split <;> rfl
  unfold carillonref05_Compare.f cmp3
  rw [e, e, e]
  simp only [Option.bind_some]
  split
  · split <;> rfl
  · rfl
def mayQ (a b c : Int) : Bool := decide (0 ≤ a ∧ a ≤ 255 ∧ 0 ≤ b ∧ b ≤ 255 ∧ 0 ≤ c ∧ c ≤ 65535)
theorem mayQ_of (a b c : Int) : quality_May.f a b c = some (mayQ a b c) := by
  unfold quality_May.f mayQ
  by_cases h1 : a ≥ 0
  · rw [if_pos h1]
    by_cases h2 : a ≤ 255
    · rw [if_pos h2]
      by_cases h3 : b ≥ 0
      · rw [if_pos h3]
        by_cases h4 : b ≤ 255
        · rw [if_pos h4]
          by_cases h5 : c ≥ 0
          · rw [if_pos h5]
            exact congrArg some (decide_eq_decide.2 (by omega))
          · rw [if_neg h5]
            exact congrArg some (decide_eq_false (by omega)).symm
        · rw [if_neg h4]
          exact congrArg some (decide_eq_false (by omega)).symm
      · rw [if_neg h3]
        exact congrArg some (decide_eq_false (by omega)).symm
    · rw [if_neg h2]
      exact congrArg some (decide_eq_false (by omega)).symm
  · rw [if_neg h1]
    exact congrArg some (decide_eq_false (by omega)).symm
theorem quPut_of (l : List Int) (a b c : Int) (hl : l.length ≤ 140737488355300) : quality_Put.f l a b c = some (l ++ enc a 1 ++ enc b 1 ++ enc c 2) := by
  unfold quality_Put.f
  rw [put1 l a (by omega)]
  simp only [Option.bind_some]
  rw [put1 _ b (by rw [List.length_append, enc_length]; omega)]
  simp only [Option.bind_some]
  rw [put2 _ c (by simp only [List.length_append, enc_length]; omega)]
  rfl
/-- The quality that stands at a place. -/
def quAt (l : List Int) (a : Int) : Int × Int × Int × Bool := if has l a 4 then (dec (cut l a 1), dec (cut l (a + 1) 1), dec (cut l (a + 2) 2), true) else (0, 0, 0, false)
theorem quGet_of (l : List Int) (hb : By l) (hl : l.length ≤ 4611686018427387904) (a : Int) (ha : -9223372036854775808 ≤ a ∧ a ≤ 9223372036854775807) (K : Nat) (hK : 8 < K) :
    quality_Get.f (K + 1) l a = some (quAt l a) := by
  unfold quality_Get.f quAt
  by_cases h1 : a < 0
  · rw [if_pos h1, quality_Get.j0, if_pos rfl, if_neg (by unfold has; omega)]
  · rw [if_neg h1]
    by_cases h2 : a > (l.length : Int)
    · rw [if_pos h2, quality_Get.j0, if_pos rfl, if_neg (by unfold has; omega)]
    · rw [if_neg h2]
      have hw : wrap64 ((l.length : Int) - a) = (l.length : Int) - a := w64 _ (by omega) (by omega)
      rw [hw, quality_Get.j0]
      clear hw
      by_cases h3 : (l.length : Int) - a < 4
      · rw [if_pos (decide_eq_true h3), if_neg (by unfold has; omega)]
      · have hh : has l a 4 := ⟨by omega, by omega, by omega⟩
        have w1 : wrap64 (a + 1) = a + 1 := w64 _ (by omega) (by omega)
        have w2 : wrap64 (a + 2) = a + 2 := w64 _ (by omega) (by omega)
        rw [if_neg (by simpa using h3), w1, w2, get_yes l hb hl a 1 ⟨by omega, by omega, by omega⟩ (by omega) (by omega) K hK, get_yes l hb hl (a + 1) 1 ⟨by omega, by omega, by omega⟩ (by omega) (by omega) K hK, get_yes l hb hl (a + 2) 2 ⟨by omega, by omega, by omega⟩ (by omega) (by omega) K hK, if_pos hh]
        rfl
theorem rquGet_of (l : List Int) (hb : By l) (hl : l.length ≤ 4611686018427387904) (a : Int) (K : Nat) (hK : 8 < K) :
    carillonref05_Get.f (K + 1) l a = some (quAt l a) := by
  unfold carillonref05_Get.f quAt
  have g := rget_of l hb hl a 4 (by omega) K hK
  by_cases h : has l a 4
  · have h' := h
    unfold has at h'
    rw [if_pos ⟨by omega, by omega, h⟩] at g
    have r1 := dec_range (cut_by hb a 1)
    have r2 := dec_range (cut_by hb (a + 1) 1)
    have r3 := dec_range (cut_by hb (a + 2) 2)
    have l1 : (cut l a 1).length = 1 := cut_length (l := l) (a := a) (n := 1) ⟨by omega, by omega, by omega⟩
    have l2 : (cut l (a + 1) 1).length = 1 := cut_length (l := l) (a := a + 1) (n := 1) ⟨by omega, by omega, by omega⟩
    have l3 : (cut l (a + 2) 2).length = 2 := cut_length (l := l) (a := a + 2) (n := 2) ⟨by omega, by omega, by omega⟩
    have e1 := cut_split l a 1 3 (by omega) (by omega) (by omega)
    have e2 := cut_split l (a + 1) 1 2 (by omega) (by omega) (by omega)
    rw [show (1 : Int) + 3 = 4 from rfl] at e1
    rw [show (1 : Int) + 2 = 3 from rfl, show a + 1 + 1 = a + 2 by omega] at e2
    have p1 : (256 : Int) ^ 1 = 256 := by decide +kernel
    have p2 : (256 : Int) ^ 2 = 65536 := by decide +kernel
    have p3 : (256 : Int) ^ 3 = 16777216 := by decide +kernel
    rw [l1, p1] at r1
    rw [l2, p1] at r2
    rw [l3, p2] at r3
    rw [e1, e2, dec_append, dec_append, List.length_append, l2, l3, show 1 + 2 = 3 from rfl, p3, p2] at g
    rw [g, if_pos h]
    simp only [Option.bind_some]
    rw [if_pos trivial]
    clear g e1 e2 l1 l2 l3 p1 p2 p3
    generalize dec (cut l a 1) = x at *
    generalize dec (cut l (a + 1) 1) = y at *
    generalize dec (cut l (a + 2) 2) = z at *
    have t1 : Int.tdiv (x * 16777216 + (y * 65536 + z)) 16777216 = x := by rw [td _ _ (by omega), if_pos (.inl (by omega))]; omega
    have t2 : Int.tdiv (x * 16777216 + (y * 65536 + z)) 65536 = x * 256 + y := by rw [td _ _ (by omega), if_pos (.inl (by omega))]; omega
    have t3 : Int.tmod (x * 256 + y) 256 = y := by rw [tm _ _ (by omega), if_pos (.inl (by omega))]; omega
    have t4 : Int.tmod (x * 16777216 + (y * 65536 + z)) 65536 = z := by rw [tm _ _ (by omega), if_pos (.inl (by omega))]; omega
    have w1 : wrap64 x = x := w64 _ (by omega) (by omega)
    have w2 : wrap64 (x * 256 + y) = x * 256 + y := w64 _ (by omega) (by omega)
    rw [t1, t2, t4, w1, w2, t3]
  · rw [if_neg (fun h' => h h'.2.2)] at g
    rw [g, if_neg h]
    simp
theorem rmayQ_of (a b c : Int) : carillonref05_May.f a b c = some (mayQ a b c) := by
  have e : ∀ v x y : Int, carillonref05_In.f v x y = some (decide (x ≤ v ∧ v ≤ y)) := by
    intro v x y
    unfold carillonref05_In.f
    by_cases h : v ≥ x
    · rw [if_pos h]
      exact congrArg some (decide_eq_decide.2 (by omega))
    · rw [if_neg h]
      exact congrArg some (decide_eq_false (by omega)).symm
  unfold carillonref05_May.f mayQ
  rw [e, e, e]
  simp only [Option.bind_some, decide_eq_true_eq]
  by_cases h1 : 0 ≤ a ∧ a ≤ 255
  · rw [if_pos h1]
    by_cases h2 : 0 ≤ b ∧ b ≤ 255
    · rw [if_pos h2]
      exact congrArg some (decide_eq_decide.2 (by omega))
    · rw [if_neg h2]
      exact congrArg some (decide_eq_false (by omega)).symm
  · rw [if_neg h1]
    exact congrArg some (decide_eq_false (by omega)).symm
theorem rquPut_of (a b c : Int) (K : Nat) (hK : 8 < K) : carillonref05_Put.f K a b c = some (enc a 1 ++ enc b 1 ++ enc c 2) := by
  unfold carillonref05_Put.f
  rw [rput1 a K hK, rput1 b K hK, rput2 c K hK]
  simp only [Option.bind_some]
  rw [if_pos (by simp [enc_length]), if_pos (by simp [enc_length])]
theorem quAt_enc (p q : List Int) (a b c : Int) (i : Int) (hi : i = p.length) : quAt (p ++ enc a 1 ++ enc b 1 ++ enc c 2 ++ q) i = (a % 256, b % 256, c % 65536, true) := by
  have hL : (p ++ enc a 1 ++ enc b 1 ++ enc c 2 ++ q).length = p.length + 4 + q.length := by simp only [List.length_append, enc_length]
  have k1 : cut (p ++ enc a 1 ++ enc b 1 ++ enc c 2 ++ q) i 1 = enc a 1 := by
    have := cut_app p (enc a 1) (enc b 1 ++ enc c 2 ++ q) i 1 hi (by simp [enc_length])
    simpa [List.append_assoc] using this
  have k2 : cut (p ++ enc a 1 ++ enc b 1 ++ enc c 2 ++ q) (i + 1) 1 = enc b 1 := by
    have := cut_app (p ++ enc a 1) (enc b 1) (enc c 2 ++ q) (i + 1) 1 (by simp [enc_length]; omega) (by simp [enc_length])
    simpa [List.append_assoc] using this
  have k3 : cut (p ++ enc a 1 ++ enc b 1 ++ enc c 2 ++ q) (i + 2) 2 = enc c 2 := by
    have := cut_app (p ++ enc a 1 ++ enc b 1) (enc c 2) q (i + 2) 2 (by simp [enc_length]; omega) (by simp [enc_length])
    simpa [List.append_assoc] using this
  have p1 : (256 : Int) ^ 1 = 256 := by decide +kernel
  have p2 : (256 : Int) ^ 2 = 65536 := by decide +kernel
  unfold quAt
  rw [k1, k2, k3, dec_enc, dec_enc, dec_enc, p1, p2, if_pos ⟨by omega, by omega, by omega⟩]
end Go.Proofs.Ytmfahcabdkajnaa.Qua
