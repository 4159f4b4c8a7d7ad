/- What bodies answer, in plain words. -/
import Derived.Test.YtiomlbkakiienaaZzPx0
import Derived.Test.YtiomlbkakiienaaZzPx2
import Derived.Test.YtiomlbkakiienaaZzPx4
import Derived.Test.YtiomlbkakiienaaZzPx6
import Derived.Test.YtiomlbkakiienaaZzPx9
import Derived.Test.YtiomlbkakiienaaZzHdw
import Derived.Test.YtiomlbkakiienaaZzStm
import Derived.Test.YtiomlbkakiienaaZzQua
set_option linter.unusedVariables false
set_option linter.unusedSimpArgs false
namespace Go.Proofs.Ytiomlbkakiienaa.Bod
open Go.RowKit Go.Proofs.Ytiomlbkakiienaa.P Go.Proofs.Ytiomlbkakiienaa.Lib Go.Proofs.Ytiomlbkakiienaa.Oct Go.Proofs.Ytiomlbkakiienaa.Ref Go.Proofs.Ytiomlbkakiienaa.Hdr Go.Proofs.YtiomlbkakiienaaW.PrintWords Go.Proofs.YtiomlbkakiienaaW.PrintLast Go.Proofs.YtiomlbkakiienaaW.PrintMore
def stm (t : Int) : Bool := decide (t ≠ 12 ∧ t ≠ 13)
def tgt (t : Int) : Bool := decide (t = 9 ∨ t = 3 ∨ t = 10 ∨ t = 12 ∨ t = 13)
def blen (t : Int) : Int := if t = 0 ∨ t = 1 ∨ t = 8 ∨ t = 12 then 10 else if t = 2 ∨ t = 3 ∨ t = 10 ∨ t = 9 then 20 else if t = 11 then 30 else if t = 13 then 14 else 0
theorem blen_range (t : Int) : 0 ≤ blen t ∧ blen t ≤ 30 := by
  unfold blen
  split
  · omega
  · split
    · omega
    · split
      · omega
      · split <;> omega
theorem stamped_of (t : Int) : body_stamped.f t = some (stm t) := by
  unfold body_stamped.f stm
  by_cases h : t = 12
  · rw [if_pos h]; congr 1; exact (decide_eq_false (by omega)).symm
  · rw [if_neg h]; congr 1; rw [Bool.eq_iff_iff]; simp only [bne_iff_ne, decide_eq_true_eq]; omega
theorem targeted_of (t : Int) : body_targeted.f t = some (tgt t) := by
  unfold body_targeted.f tgt
  by_cases h1 : t = 9
  · rw [if_pos h1, decide_eq_true (by omega)]
  rw [if_neg h1]
  by_cases h2 : t = 3
  · rw [if_pos h2, decide_eq_true (by omega)]
  rw [if_neg h2]
  by_cases h3 : t = 10
  · rw [if_pos h3, decide_eq_true (by omega)]
  rw [if_neg h3]
  by_cases h4 : t = 12
  · rw [if_pos h4, decide_eq_true (by omega)]
  rw [if_neg h4]
  by_cases h5 : t = 13
  · rw [if_pos h5, decide_eq_true (by omega)]
  rw [if_neg h5, decide_eq_false (by omega)]
theorem rstamped_of (t : Int) : carillonref07_stamped.f t = some (stm t) := by
  unfold carillonref07_stamped.f stm
  by_cases h : t = 12
  · rw [if_pos h]; congr 1; exact (decide_eq_false (by omega)).symm
  · rw [if_neg h]; congr 1; rw [Bool.eq_iff_iff]; simp only [bne_iff_ne, decide_eq_true_eq]; omega
theorem rtargeted_of (t : Int) : carillonref07_targeted.f t = some (tgt t) := by
  unfold carillonref07_targeted.f tgt
  by_cases h1 : t = 9
  · rw [if_pos h1, decide_eq_true (by omega)]
  rw [if_neg h1]
  by_cases h2 : t = 3
  · rw [if_pos h2, decide_eq_true (by omega)]
  rw [if_neg h2]
  by_cases h3 : t = 10
  · rw [if_pos h3, decide_eq_true (by omega)]
  rw [if_neg h3]
  by_cases h4 : t = 12
  · rw [if_pos h4, decide_eq_true (by omega)]
  rw [if_neg h4]
  congr 1
  rw [Bool.eq_iff_iff]
  simp only [beq_iff_eq, decide_eq_true_eq]
  omega
theorem len_of (t : Int) (K : Nat) : body_Len.f (K + 2) t = some (blen t) := by
  have j1 : ∀ x b, (b = true ↔ t = 2 ∨ t = 3 ∨ t = 10 ∨ t = 9) → x = t → ¬ (t = 0 ∨ t = 1 ∨ t = 8 ∨ t = 12) → body_Len.j1 (K + 1) x b = some (blen t) := by
    rintro x b hb rfl h
    unfold blen
    rw [body_Len.j1, if_neg h]
    by_cases h2 : x = 2 ∨ x = 3 ∨ x = 10 ∨ x = 9
    · rw [if_pos h2, if_pos (hb.2 h2)]
    · rw [if_neg h2, if_neg (fun e => h2 (hb.1 e))]
      by_cases h3 : x = 11
      · rw [if_pos h3, if_pos h3]
      · rw [if_neg h3, if_neg h3]
        by_cases h4 : x = 13
        · rw [if_pos h4, if_pos h4]
        · rw [if_neg h4, if_neg h4]
  have j0 : ∀ b, (b = true ↔ t = 0 ∨ t = 1 ∨ t = 8 ∨ t = 12) → body_Len.j0 (K + 2) t b = some (blen t) := by
    intro b hb
    rw [body_Len.j0]
    by_cases h : t = 0 ∨ t = 1 ∨ t = 8 ∨ t = 12
    · rw [if_pos (hb.2 h)]
      unfold blen
      rw [if_pos h]
    · rw [if_neg (fun e => h (hb.1 e))]
      by_cases h2 : t = 2
      · rw [if_pos h2]; exact j1 _ _ (by simp only [beq_iff_eq]; omega) rfl h
      rw [if_neg h2]
      by_cases h3 : t = 3
      · rw [if_pos h3]; exact j1 _ _ (by simp only [beq_iff_eq]; omega) rfl h
      rw [if_neg h3]
      by_cases h4 : t = 10
      · rw [if_pos h4]; exact j1 _ _ (by simp only [beq_iff_eq]; omega) rfl h
      rw [if_neg h4]
      exact j1 _ _ (by simp only [beq_iff_eq]; omega) rfl h
  unfold body_Len.f
  by_cases h1 : t = 0
  · rw [if_pos h1]; exact j0 _ (by simp only [beq_iff_eq]; omega)
  rw [if_neg h1]
  by_cases h2 : t = 1
  · rw [if_pos h2]; exact j0 _ (by simp only [beq_iff_eq]; omega)
  rw [if_neg h2]
  by_cases h3 : t = 8
  · rw [if_pos h3]; exact j0 _ (by simp only [beq_iff_eq]; omega)
  rw [if_neg h3]
  exact j0 _ (by simp only [beq_iff_eq]; omega)
theorem rlen_of (t : Int) (K : Nat) : carillonref07_Len.f (K + 2) t = some (blen t) := by
  have j1 : ∀ x b, (b = true ↔ t = 2 ∨ t = 3 ∨ t = 10 ∨ t = 9) → x = t → ¬ (t = 0 ∨ t = 1 ∨ t = 8 ∨ t = 12) → carillonref07_Len.j1 (K + 1) x b = some (blen t) := by
    rintro x b hb rfl h
    unfold blen
    rw [carillonref07_Len.j1, if_neg h]
    by_cases h2 : x = 2 ∨ x = 3 ∨ x = 10 ∨ x = 9
    · rw [if_pos h2, if_pos (hb.2 h2)]
    · rw [if_neg h2, if_neg (fun e => h2 (hb.1 e))]
      by_cases h3 : x = 11
      · rw [if_pos h3, if_pos h3]
      · rw [if_neg h3, if_neg h3]
        by_cases h4 : x = 13
        · rw [if_pos h4, if_pos h4]
        · rw [if_neg h4, if_neg h4]
  have j0 : ∀ b, (b = true ↔ t = 0 ∨ t = 1 ∨ t = 8 ∨ t = 12) → carillonref07_Len.j0 (K + 2) t b = some (blen t) := by
    intro b hb
    rw [carillonref07_Len.j0]
    by_cases h : t = 0 ∨ t = 1 ∨ t = 8 ∨ t = 12
    · rw [if_pos (hb.2 h)]
      unfold blen
      rw [if_pos h]
    · rw [if_neg (fun e => h (hb.1 e))]
      by_cases h2 : t = 2
      · rw [if_pos h2]; exact j1 _ _ (by simp only [beq_iff_eq]; omega) rfl h
      rw [if_neg h2]
      by_cases h3 : t = 3
      · rw [if_pos h3]; exact j1 _ _ (by simp only [beq_iff_eq]; omega) rfl h
      rw [if_neg h3]
      by_cases h4 : t = 10
      · rw [if_pos h4]; exact j1 _ _ (by simp only [beq_iff_eq]; omega) rfl h
      rw [if_neg h4]
      exact j1 _ _ (by simp only [beq_iff_eq]; omega) rfl h
  unfold carillonref07_Len.f
  by_cases h1 : t = 0
  · rw [if_pos h1]; exact j0 _ (by simp only [beq_iff_eq]; omega)
  rw [if_neg h1]
  by_cases h2 : t = 1
  · rw [if_pos h2]; exact j0 _ (by simp only [beq_iff_eq]; omega)
  rw [if_neg h2]
  by_cases h3 : t = 8
  · rw [if_pos h3]; exact j0 _ (by simp only [beq_iff_eq]; omega)
  rw [if_neg h3]
  exact j0 _ (by simp only [beq_iff_eq]; omega)
def btail (t m11 m12 m13 m14 m15 m16 m17 m18 m19 m20 m21 m22 : Int) : List Int :=
  if t = 2 then enc 0 8 ++ enc 0 2 else if t = 11 then enc m11 2 ++ enc 0 1 ++ enc m12 1 ++ enc m13 1 ++ enc m14 1 ++ enc m15 2 ++ enc m16 1 ++ enc m17 8 ++ enc m18 2 ++ enc m19 1 else if t = 13 then enc m20 1 ++ enc m21 1 ++ enc m22 1 ++ enc 0 1 else []
def bbytes (m0 m8 m9 m10 m11 m12 m13 m14 m15 m16 m17 m18 m19 m20 m21 m22 : Int) : List Int := (if stm m0 = true then Stm.encS m8 else []) ++ (if tgt m0 = true then enc m9 8 ++ enc m10 2 else []) ++ btail m0 m11 m12 m13 m14 m15 m16 m17 m18 m19 m20 m21 m22
theorem rd_dec {l : List Int} {a : Int} (h : has l a 1) : dec (cut l a 1) = rd l a := by
  have hL := cut_length h
  match hc : cut l a 1, hL with
  | [x], _ =>
    rw [rd_one h hc]
    simp [dec]
def pick11 (t : Int) (x y : Int) : Int := if t = 11 then x else y
def pick13 (t : Int) (x y : Int) : Int := if t = 13 then x else y
def pickT (t : Int) (x y : Int) : Int := if tgt t = true then x else y
def aft (t a : Int) : Int := if tgt t = true then a + 10 else a
def brest (l : List Int) (a e m0 m1 m2 m3 m4 m5 m6 m7 m8 m9 m10 m11 m12 m13 m14 m15 m16 m17 m18 m19 m20 m21 m22 : Int) : Int × Int × Int × Int × Int × Int × Int × Int × Int × Int × Int × Int × Int × Int × Int × Int × Int × Int × Int × Int × Int × Int × Int × Int × Int :=
  (m0, m1, m2, m3, m4, m5, m6, m7, m8, pickT m0 (dec (cut l a 8)) m9, pickT m0 (dec (cut l (a + 8) 2)) m10, pick11 m0 (sgn 2 (dec (cut l (aft m0 a) 2))) m11, pick11 m0 (dec (cut l (aft m0 a + 3) 1)) m12, pick11 m0 (dec (cut l (aft m0 a + 4) 1)) m13, pick11 m0 (dec (cut l (aft m0 a + 5) 1)) m14, pick11 m0 (dec (cut l (aft m0 a + 6) 2)) m15, pick11 m0 (dec (cut l (aft m0 a + 8) 1)) m16, pick11 m0 (dec (cut l (aft m0 a + 9) 8)) m17, pick11 m0 (dec (cut l (aft m0 a + 17) 2)) m18, pick11 m0 (dec (cut l (aft m0 a + 19) 1)) m19, pick13 m0 (dec (cut l (aft m0 a) 1)) m20, pick13 m0 (dec (cut l (aft m0 a + 1) 1)) m21, pick13 m0 (dec (cut l (aft m0 a + 2) 1) % 16) m22, e, 0)
def bz (e : Int) : Int × Int × Int × Int × Int × Int × Int × Int × Int × Int × Int × Int × Int × Int × Int × Int × Int × Int × Int × Int × Int × Int × Int × Int × Int := (0, 0, 0, 0, 0, 0, 0, 0, 0, 0, 0, 0, 0, 0, 0, 0, 0, 0, 0, 0, 0, 0, 0, 0, e)
def bget (l : List Int) (a m0 m1 m2 m3 m4 m5 m6 m7 m8 m9 m10 m11 m12 m13 m14 m15 m16 m17 m18 m19 m20 m21 m22 : Int) : Int × Int × Int × Int × Int × Int × Int × Int × Int × Int × Int × Int × Int × Int × Int × Int × Int × Int × Int × Int × Int × Int × Int × Int × Int :=
  if has l a (blen m0) then (if kn m0 = true ∧ stm m0 = true then (if (Stm.stampAt l a).2 = true then brest l (a + 10) (a + blen m0) m0 m1 m2 m3 m4 m5 m6 m7 (Stm.stampAt l a).1 m9 m10 m11 m12 m13 m14 m15 m16 m17 m18 m19 m20 m21 m22 else bz 10) else brest l a (a + blen m0) m0 m1 m2 m3 m4 m5 m6 m7 m8 m9 m10 m11 m12 m13 m14 m15 m16 m17 m18 m19 m20 m21 m22) else bz 2
theorem kinds (t : Int) : (t = 11 ∧ kn t = true ∧ stm t = true ∧ tgt t = false ∧ blen t = 30) ∨ (t = 13 ∧ kn t = true ∧ stm t = false ∧ tgt t = true ∧ blen t = 14) ∨ (t ≠ 11 ∧ t ≠ 13 ∧ kn t = true ∧ stm t = true ∧ tgt t = true ∧ blen t = 20) ∨ (t ≠ 11 ∧ t ≠ 13 ∧ kn t = true ∧ stm t = true ∧ tgt t = false ∧ 10 ≤ blen t) ∨ (t ≠ 11 ∧ t ≠ 13 ∧ kn t = true ∧ stm t = false ∧ tgt t = true ∧ blen t = 10) ∨ (t ≠ 11 ∧ t ≠ 13 ∧ kn t = false ∧ stm t = true ∧ tgt t = false ∧ blen t = 0) := by
  by_cases h : 0 ≤ t ∧ t ≤ 13
  · have : t = 0 ∨ t = 1 ∨ t = 2 ∨ t = 3 ∨ t = 4 ∨ t = 5 ∨ t = 6 ∨ t = 7 ∨ t = 8 ∨ t = 9 ∨ t = 10 ∨ t = 11 ∨ t = 12 ∨ t = 13 := by omega
    rcases this with rfl | rfl | rfl | rfl | rfl | rfl | rfl | rfl | rfl | rfl | rfl | rfl | rfl | rfl <;> decide
  · refine .inr (.inr (.inr (.inr (.inr ⟨by omega, by omega, decide_eq_false (by omega), decide_eq_true (by omega), decide_eq_false (by omega), ?_⟩))))
    unfold blen
    rw [if_neg (by omega), if_neg (by omega), if_neg (by omega), if_neg (by omega)]
section
variable (l : List Int) (hb : By l) (hl : l.length ≤ 4611686018427387904) (m0 m1 m2 m3 m4 m5 m6 m7 m8 m9 m10 m11 m12 m13 m14 m15 m16 m17 m18 m19 m20 m21 m22 : Int) (z0 z1 z2 z3 z4 z5 z6 z7 z8 z9 z10 z11 z12 z13 z14 z15 z16 z17 z18 z19 z20 z21 z22 : Int) (fr n : Int) (K : Nat) (hK : 9 < K)
include hb hl hK
theorem gj3 (a : Int) (h11 : m0 = 11 → has l a 20) (h13 : m0 = 13 → has l a 4) : body_Get.j3 (K + 1) l a m0 m1 m2 m3 m4 m5 m6 m7 m8 m9 m10 m11 m12 m13 m14 m15 m16 m17 m18 m19 m20 m21 m22 z0 z1 z2 z3 z4 z5 z6 z7 z8 z9 z10 z11 z12 z13 z14 z15 z16 z17 z18 z19 z20 z21 z22 fr n =
    some (m0, m1, m2, m3, m4, m5, m6, m7, m8, m9, m10, pick11 m0 (sgn 2 (dec (cut l a 2))) m11, pick11 m0 (dec (cut l (a + 3) 1)) m12, pick11 m0 (dec (cut l (a + 4) 1)) m13, pick11 m0 (dec (cut l (a + 5) 1)) m14, pick11 m0 (dec (cut l (a + 6) 2)) m15, pick11 m0 (dec (cut l (a + 8) 1)) m16, pick11 m0 (dec (cut l (a + 9) 8)) m17, pick11 m0 (dec (cut l (a + 17) 2)) m18, pick11 m0 (dec (cut l (a + 19) 1)) m19, pick13 m0 (dec (cut l a 1)) m20, pick13 m0 (dec (cut l (a + 1) 1)) m21, pick13 m0 (dec (cut l (a + 2) 1) % 16) m22, wrap64 (fr + n), 0) := by
  unfold body_Get.j3 body_Get.j4
  unfold pick11 pick13
  by_cases h1 : m0 = 11
  · have h := h11 h1
    have h0 := h
    unfold has at h0
    have w3 : wrap64 (a + 3) = a + 3 := w64 _ (by omega) (by omega)
    have w4 : wrap64 (a + 4) = a + 4 := w64 _ (by omega) (by omega)
    have w8_ : wrap64 (a + 8) = a + 8 := w64 _ (by omega) (by omega)
    have w9 : wrap64 (a + 9) = a + 9 := w64 _ (by omega) (by omega)
    have w17 : wrap64 (a + 17) = a + 17 := w64 _ (by omega) (by omega)
    have w19 : wrap64 (a + 19) = a + 19 := w64 _ (by omega) (by omega)
    have hh : ∀ i m : Int, 0 ≤ i → 0 ≤ m → i + m ≤ 20 → has l (a + i) m := fun i m q1 q2 q3 => ⟨q2, by omega, by omega⟩
    have hq : has l a 2 := by have := hh 0 2 (by omega) (by omega) (by omega); rwa [Int.add_zero] at this
    rw [if_pos h1, w3, w4, w8_, w9, w17, w19, signed_yes l hb hl a 2 hq (by omega) (by omega) (K + 1) (by omega), get_yes l hb hl (a + 3) 1 (hh 3 1 (by omega) (by omega) (by omega)) (by omega) (by omega) (K + 1) (by omega), Qua.quGet_of l hb hl (a + 4) (by omega) K (by omega), get_yes l hb hl (a + 8) 1 (hh 8 1 (by omega) (by omega) (by omega)) (by omega) (by omega) (K + 1) (by omega), getId_of l hb hl (a + 9) (by omega) (K + 1) (by omega), get_yes l hb hl (a + 17) 2 (hh 17 2 (by omega) (by omega) (by omega)) (by omega) (by omega) (K + 1) (by omega), get_yes l hb hl (a + 19) 1 (hh 19 1 (by omega) (by omega) (by omega)) (by omega) (by omega) (K + 1) (by omega)]
    unfold Qua.quAt
    rw [if_pos (hh 4 4 (by omega) (by omega) (by omega)), if_pos (hh 9 8 (by omega) (by omega) (by omega))]
    simp only [Option.bind_some, if_pos h1, show ¬ m0 = 13 by omega, if_false]
    rw [show a + 4 + 1 = a + 5 by omega, show a + 4 + 2 = a + 6 by omega]
    rfl
  · rw [if_neg h1]
    by_cases h2 : m0 = 13
    · have h := h13 h2
      have h0 := h
      unfold has at h0
      have w1 : wrap64 (a + 1) = a + 1 := w64 _ (by omega) (by omega)
      have w2 : wrap64 (a + 2) = a + 2 := w64 _ (by omega) (by omega)
      have hh : ∀ i : Int, 0 ≤ i → i ≤ 3 → has l (a + i) 1 := fun i q1 q2 => ⟨by omega, by omega, by omega⟩
      have hq : has l a 1 := ⟨by omega, by omega, by omega⟩
      have r0 := rd_by hb a (by omega) (by omega)
      have r1 := rd_by hb (a + 1) (by omega) (by omega)
      have r2 := rd_by hb (a + 2) (by omega) (by omega)
      rw [if_pos h2, if_pos (by omega), if_pos (by omega), w1, if_pos (by omega), if_pos (by omega), w2, if_pos (by omega), if_pos (by omega), and15_of _ r2, w64 (rd l a) (by omega) (by omega), w64 (rd l (a + 1)) (by omega) (by omega), w64 (rd l (a + 2) % 16) (by omega) (by omega)]
      rw [rd_dec hq, rd_dec (hh 1 (by omega) (by omega)), rd_dec (hh 2 (by omega) (by omega))]
      simp only [if_neg h1, if_pos h2]
    · rw [if_neg h2]
      simp only [if_neg h1, if_neg h2]
theorem gj1 (a : Int) (ha : 0 ≤ a) (hT : tgt m0 = true → has l a 10) (h11 : m0 = 11 → has l (aft m0 a) 20) (h13 : m0 = 13 → has l (aft m0 a) 4) (h64 : a ≤ 9223372036854775000) (hf : wrap64 (fr + n) = fr + n) : body_Get.j1 (K + 1) l a m0 m1 m2 m3 m4 m5 m6 m7 m8 m9 m10 m11 m12 m13 m14 m15 m16 m17 m18 m19 m20 m21 m22 z0 z1 z2 z3 z4 z5 z6 z7 z8 z9 z10 z11 z12 z13 z14 z15 z16 z17 z18 z19 z20 z21 z22 fr n = some (brest l a (fr + n) m0 m1 m2 m3 m4 m5 m6 m7 m8 m9 m10 m11 m12 m13 m14 m15 m16 m17 m18 m19 m20 m21 m22) := by
  unfold body_Get.j1 brest pickT
  rw [targeted_of, Option.bind_some]
  cases h1 : tgt m0 with
  | true =>
    have e : aft m0 a = a + 10 := by unfold aft; rw [if_pos h1]
    rw [e] at h11 h13 ⊢
    rw [if_pos rfl, Idt.idGet_of l hb hl a (by omega) K (by omega), if_pos (hT h1), Option.bind_some, w64 _ (by omega) (by omega), gj3 l hb hl _ _ _ _ _ _ _ _ _ _ _ _ _ _ _ _ _ _ _ _ _ _ _ _ _ _ _ _ _ _ _ _ _ _ _ _ _ _ _ _ _ _ _ _ _ _ _ _ K hK (a + 10) h11 h13, hf]
    rfl
  | false =>
    have e : aft m0 a = a := by unfold aft; rw [if_neg (by rw [h1]; simp)]
    rw [e] at h11 h13 ⊢
    rw [if_neg Bool.false_ne_true, gj3 l hb hl _ _ _ _ _ _ _ _ _ _ _ _ _ _ _ _ _ _ _ _ _ _ _ _ _ _ _ _ _ _ _ _ _ _ _ _ _ _ _ _ _ _ _ _ _ _ _ _ K hK a h11 h13, hf]
    rfl
theorem gj2 (a : Int) (ha : 0 ≤ a) (hT : tgt m0 = true → has l (a + 10) 10) (h11 : m0 = 11 → has l (aft m0 (a + 10)) 20) (h13 : m0 = 13 → has l (aft m0 (a + 10)) 4) (h64 : a ≤ 9223372036854775000) (hf : wrap64 (fr + n) = fr + n) : body_Get.j2 (K + 1) l a m0 m1 m2 m3 m4 m5 m6 m7 m8 m9 m10 m11 m12 m13 m14 m15 m16 m17 m18 m19 m20 m21 m22 z0 z1 z2 z3 z4 z5 z6 z7 z8 z9 z10 z11 z12 z13 z14 z15 z16 z17 z18 z19 z20 z21 z22 fr n =
    some (if (Stm.stampAt l a).2 = true then brest l (a + 10) (fr + n) m0 m1 m2 m3 m4 m5 m6 m7 (Stm.stampAt l a).1 m9 m10 m11 m12 m13 m14 m15 m16 m17 m18 m19 m20 m21 m22 else bz 10) := by
  unfold body_Get.j2
  rw [Stm.stGet_of l hb hl a (by omega) K (by omega), Option.bind_some]
  cases hs : (Stm.stampAt l a).2 with
  | false => rfl
  | true =>
    rw [if_pos rfl, if_pos rfl, targeted_of, Option.bind_some, w64 (a + 10) (by omega) (by omega)]
    unfold brest pickT
    cases h1 : tgt m0 with
    | true =>
      have e : aft m0 (a + 10) = a + 10 + 10 := by unfold aft; rw [if_pos h1]
      rw [e] at h11 h13 ⊢
      rw [if_pos rfl, Idt.idGet_of l hb hl (a + 10) (by omega) K (by omega), if_pos (hT h1), Option.bind_some, w64 _ (by omega) (by omega), gj3 l hb hl _ _ _ _ _ _ _ _ _ _ _ _ _ _ _ _ _ _ _ _ _ _ _ _ _ _ _ _ _ _ _ _ _ _ _ _ _ _ _ _ _ _ _ _ _ _ _ _ K hK (a + 10 + 10) h11 h13, hf]
      rfl
    | false =>
      have e : aft m0 (a + 10) = a + 10 := by unfold aft; rw [if_neg (by rw [h1]; simp)]
      rw [e] at h11 h13 ⊢
      rw [if_neg Bool.false_ne_true, gj3 l hb hl _ _ _ _ _ _ _ _ _ _ _ _ _ _ _ _ _ _ _ _ _ _ _ _ _ _ _ _ _ _ _ _ _ _ _ _ _ _ _ _ _ _ _ _ _ _ _ _ K hK (a + 10) h11 h13, hf]
      rfl
end
theorem bGet_of (l : List Int) (hb : By l) (hl : l.length ≤ 4611686018427387904) (m0 m1 m2 m3 m4 m5 m6 m7 m8 m9 m10 m11 m12 m13 m14 m15 m16 m17 m18 m19 m20 m21 m22 a : Int) (ha : -9223372036854775808 ≤ a ∧ a ≤ 9223372036854775807) (K : Nat) (hK : 9 < K) : body_Get.f (K + 2) m0 m1 m2 m3 m4 m5 m6 m7 m8 m9 m10 m11 m12 m13 m14 m15 m16 m17 m18 m19 m20 m21 m22 l a = some (bget l a m0 m1 m2 m3 m4 m5 m6 m7 m8 m9 m10 m11 m12 m13 m14 m15 m16 m17 m18 m19 m20 m21 m22) := by
  have hbl := blen_range m0
  unfold body_Get.f bget
  rw [len_of, Option.bind_some]
  by_cases h1 : a < 0
  · rw [if_pos h1, if_neg (fun h => by have := h.2.1; omega)]
    rfl
  rw [if_neg h1]
  by_cases h2 : a > (l.length : Int)
  · rw [if_pos h2, if_neg (fun h => by have := h.2.2; omega)]
    rfl
  rw [if_neg h2, w64 ((l.length : Int) - a) (by omega) (by omega)]
  by_cases h3 : (l.length : Int) - a < blen m0
  · rw [if_pos h3, if_neg (fun h => by have := h.2.2; omega)]
    rfl
  have hf : wrap64 (a + blen m0) = a + blen m0 := w64 _ (by omega) (by omega)
  rw [if_neg h3, if_pos (show has l a (blen m0) from ⟨by omega, by omega, by omega⟩)]
  have sub : ∀ i m : Int, 0 ≤ i → 0 ≤ m → i + m ≤ blen m0 → has l (a + i) m := fun i m q1 q2 q3 => ⟨q2, by omega, by omega⟩
  have sub0 : ∀ m : Int, 0 ≤ m → m ≤ blen m0 → has l a m := fun m q1 q2 => ⟨q1, by omega, by omega⟩
  rcases kinds m0 with ⟨k0, k1, k2, k3, k4⟩ | ⟨k0, k1, k2, k3, k4⟩ | ⟨k0, k9, k1, k2, k3, k4⟩ | ⟨k0, k9, k1, k2, k3, k4⟩ | ⟨k0, k9, k1, k2, k3, k4⟩ | ⟨k0, k9, k1, k2, k3, k4⟩
  · have e : aft m0 (a + 10) = a + 10 := by unfold aft; rw [k3]; rfl
    rw [if_neg (by omega), stamped_of, Option.bind_some, k2, if_pos rfl, if_pos ⟨k1, rfl⟩, gj2 l hb hl m0 m1 m2 m3 m4 m5 m6 m7 m8 m9 m10 m11 m12 m13 m14 m15 m16 m17 m18 m19 m20 m21 m22 0 0 0 0 0 0 0 0 0 0 0 0 0 0 0 0 0 0 0 0 0 0 0 a (blen m0) (K + 1) (by omega) a (by omega) (fun h => by rw [k3] at h; cases h) (fun _ => by rw [e]; exact sub 10 20 (by omega) (by omega) (by omega)) (fun h => by omega) (by omega) hf]
  · have e : aft m0 a = a + 10 := by unfold aft; rw [k3]; rfl
    rw [if_neg (by omega), stamped_of, Option.bind_some, k2, if_neg (by simp), if_neg (by simp), gj1 l hb hl m0 m1 m2 m3 m4 m5 m6 m7 m8 m9 m10 m11 m12 m13 m14 m15 m16 m17 m18 m19 m20 m21 m22 0 0 0 0 0 0 0 0 0 0 0 0 0 0 0 0 0 0 0 0 0 0 0 a (blen m0) (K + 1) (by omega) a (by omega) (fun _ => sub0 10 (by omega) (by omega)) (fun h => by omega) (fun _ => by rw [e]; exact sub 10 4 (by omega) (by omega) (by omega)) (by omega) hf]
  · rw [if_neg (by omega), stamped_of, Option.bind_some, k2, if_pos rfl, if_pos ⟨k1, rfl⟩, gj2 l hb hl m0 m1 m2 m3 m4 m5 m6 m7 m8 m9 m10 m11 m12 m13 m14 m15 m16 m17 m18 m19 m20 m21 m22 0 0 0 0 0 0 0 0 0 0 0 0 0 0 0 0 0 0 0 0 0 0 0 a (blen m0) (K + 1) (by omega) a (by omega) (fun _ => sub 10 10 (by omega) (by omega) (by omega)) (fun h => absurd h k0) (fun h => absurd h k9) (by omega) hf]
  · rw [if_neg (by omega), stamped_of, Option.bind_some, k2, if_pos rfl, if_pos ⟨k1, rfl⟩, gj2 l hb hl m0 m1 m2 m3 m4 m5 m6 m7 m8 m9 m10 m11 m12 m13 m14 m15 m16 m17 m18 m19 m20 m21 m22 0 0 0 0 0 0 0 0 0 0 0 0 0 0 0 0 0 0 0 0 0 0 0 a (blen m0) (K + 1) (by omega) a (by omega) (fun h => by rw [k3] at h; cases h) (fun h => absurd h k0) (fun h => absurd h k9) (by omega) hf]
  · rw [if_neg (by omega), stamped_of, Option.bind_some, k2, if_neg (by simp), if_neg (by simp), gj1 l hb hl m0 m1 m2 m3 m4 m5 m6 m7 m8 m9 m10 m11 m12 m13 m14 m15 m16 m17 m18 m19 m20 m21 m22 0 0 0 0 0 0 0 0 0 0 0 0 0 0 0 0 0 0 0 0 0 0 0 a (blen m0) (K + 1) (by omega) a (by omega) (fun _ => sub0 10 (by omega) (by omega)) (fun h => absurd h k0) (fun h => absurd h k9) (by omega) hf]
  · rw [if_pos k4, if_neg (by rw [k1]; simp), gj1 l hb hl m0 m1 m2 m3 m4 m5 m6 m7 m8 m9 m10 m11 m12 m13 m14 m15 m16 m17 m18 m19 m20 m21 m22 0 0 0 0 0 0 0 0 0 0 0 0 0 0 0 0 0 0 0 0 0 0 0 a (blen m0) (K + 1) (by omega) a (by omega) (fun h => by rw [k3] at h; cases h) (fun h => absurd h k0) (fun h => absurd h k9) (by omega) hf]
theorem p1 : (256 : Int) ^ 1 = 256 := by decide +kernel
theorem p2 : (256 : Int) ^ 2 = 65536 := by decide +kernel
theorem d1 (v : Int) (h : 0 ≤ v ∧ v ≤ 255) : dec (enc v 1) = v := by rw [dec_enc, p1]; omega
theorem d2 (v : Int) (h : 0 ≤ v ∧ v ≤ 65535) : dec (enc v 2) = v := by rw [dec_enc, p2]; omega
theorem d8 (v : Int) (h : 0 ≤ v ∧ v ≤ 18446744073709551615) : dec (enc v 8) = v := by rw [dec_enc, pow8]; omega
end Go.Proofs.Ytiomlbkakiienaa.Bod
