/- A stamp's first six bytes are its seconds, the last four what is left: for every two numbers. -/
import Derived.Test.YteahnnhekfkabaaPx4
import Derived.Test.YteahnnhekfkabaaStm
namespace Go.Proofs.Yteahnnhekfkabaa.Pure
open Go.RowKit Go.Proofs.Yteahnnhekfkabaa.P Go.Proofs.Yteahnnhekfkabaa.Lib Go.Proofs.Yteahnnhekfkabaa.Oct Go.Proofs.Yteahnnhekfkabaa.Stm Go.Proofs.YteahnnhekfkabaaW.PrintWords Go.Proofs.YteahnnhekfkabaaW.PrintLast Go.Proofs.YteahnnhekfkabaaW.PrintMore

theorem awake_true : carillonlaw02_awake.f = some true := by decide +kernel

theorem low (v : Int) (M : Int) (m : Nat) (hM : (BitVec.ofInt 64 M).toNat = 2 ^ m - 1) : Go.bits .and .i64 v M = IntKind.i64.wrap (((v % ((2 ^ 64 : Nat) : Int)).toNat % 2 ^ m : Nat) : Int) := by
  have e : (BitVec.ofInt 64 v &&& BitVec.ofInt 64 M).toNat = (v % ((2 ^ 64 : Nat) : Int)).toNat % 2 ^ m := by rw [BitVec.toNat_and, BitVec.toNat_ofInt, hM, Nat.and_two_pow_sub_one_eq_mod]
  show IntKind.i64.wrap ((BitVec.ofInt 64 v &&& BitVec.ofInt 64 M).toNat : Nat) = _
  rw [e]
theorem low20 (v : Int) : 0 ≤ Go.bits .and .i64 v 1048575 ∧ Go.bits .and .i64 v 1048575 ≤ 1048575 := by
  rw [low v _ 20 (by decide +kernel), i64_w]
  unfold wrap64
  omega
theorem low29 (v : Int) : 0 ≤ Go.bits .and .i64 v 536870911 ∧ Go.bits .and .i64 v 536870911 ≤ 536870911 := by
  rw [low v _ 29 (by decide +kernel), i64_w]
  unfold wrap64
  omega
theorem StampSeconds : carillonlaw02_StampSeconds.Pure := by
  intro a b _ _
  have ha := low20 a
  have hb := low29 b
  obtain ⟨K, hK⟩ : ∃ K : Nat, 60 ≤ K := ⟨60, Nat.le_refl _⟩
  refine ⟨K + 12, ?_⟩
  unfold carillonlaw02_StampSeconds.f
  generalize Go.bits .and .i64 a 1048575 = s at *
  generalize Go.bits .and .i64 b 536870911 = n at *
  have w1 : wrap64 (s * 1000000000) = s * 1000000000 := w64 _ (by omega) (by omega)
  have w2 : wrap64 (s * 1000000000 + n) = s * 1000000000 + n := w64 _ (by omega) (by omega)
  have hs : asS (s * 1000000000 + n) = s * 1000000000 + n := if_pos ⟨by omega, by omega⟩
  have hd : (s * 1000000000 + n) / 1000000000 = s := by omega
  have hm : (s * 1000000000 + n) % 1000000000 = n := by omega
  rw [w1, w2, stPut_of [] _ (by simp), Option.bind_some, List.nil_append, if_pos (by rw [encS_length]; omega)]
  clear w1 w2
  have hx : encS (s * 1000000000 + n) = enc s 6 ++ enc n 4 := by
    unfold encS
    rw [hs, hd, hm]
  rw [hx]
  have d6 : dec (enc s 6) = s := by
    rw [dec_enc, p6]
    omega
  have d4 : dec (enc n 4) = n := by
    rw [dec_enc, p4]
    omega
  have hB := (enc_by s 6).app (enc_by n 4)
  have l6 : (enc s 6).length = 6 := enc_length s 6
  have l4 : (enc n 4).length = 4 := enc_length n 4
  generalize hp : enc s 6 = p at *
  generalize hq : enc n 4 = q at *
  clear hp hq hx hs hd hm
  have hbp : By p := hB.left
  have hbq : By q := hB.right
  match p, l6 with
  | [x0, x1, x2, x3, x4, x5], _ =>
  match q, l4 with
  | [y0, y1, y2, y3], _ =>
    have bx : ∀ x, x ∈ [x0, x1, x2, x3, x4, x5] → 0 ≤ x ∧ x ≤ 255 := hbp
    have by_ : ∀ x, x ∈ [y0, y1, y2, y3] → 0 ≤ x ∧ x ≤ 255 := hbq
    have b0 := bx x0 (by simp)
    have b1 := bx x1 (by simp)
    have b2 := bx x2 (by simp)
    have b3 := bx x3 (by simp)
    have b4 := bx x4 (by simp)
    have b5 := bx x5 (by simp)
    have c0 := by_ y0 (by simp)
    have c1 := by_ y1 (by simp)
    have c2 := by_ y2 (by simp)
    have c3 := by_ y3 (by simp)
    clear bx by_ hbp hbq hB
    simp only [dec, List.foldl_cons, List.foldl_nil] at d6 d4
    have step : ∀ (v x : Int), 0 ≤ v → v ≤ 18014398509481983 → 0 ≤ x ∧ x ≤ 255 → wrap64 (wrap64 (256 * v) + wrap64 x) = 256 * v + x := by
      intro v x h1 h2 h3
      rw [w64 (256 * v) (by omega) (by omega), w64 x (by omega) (by omega), w64 _ (by omega) (by omega)]
    have nx : ∀ i : Int, 0 ≤ i → i ≤ 100 → wrap64 (i + 1) = i + 1 := fun i h1 h2 => w64 _ (by omega) (by omega)
    simp only [List.cons_append, List.nil_append]
    have go0 : ∀ (k : Nat) (v i : Int) (x : Int), 0 ≤ i → i < 6 → rd [x0, x1, x2, x3, x4, x5, y0, y1, y2, y3] i = x → 0 ≤ v → v ≤ 18014398509481983 → 0 ≤ x ∧ x ≤ 255 → carillonlaw02_StampSeconds.l0 (k + 1) s n [x0, x1, x2, x3, x4, x5, y0, y1, y2, y3] v 0 i = carillonlaw02_StampSeconds.l0 k s n [x0, x1, x2, x3, x4, x5, y0, y1, y2, y3] (256 * v + x) 0 (i + 1) := by
      intro k v i x h1 h2 h3 h4 h5 h6
      rw [carillonlaw02_StampSeconds.l0, if_pos h2, if_pos h1, if_pos (by simp; omega), h3, step v x h4 h5 h6, nx i h1 (by omega)]
    have go1 : ∀ (k : Nat) (z v i : Int) (x : Int), 0 ≤ i → i < 10 → rd [x0, x1, x2, x3, x4, x5, y0, y1, y2, y3] i = x → 0 ≤ v → v ≤ 18014398509481983 → 0 ≤ x ∧ x ≤ 255 → carillonlaw02_StampSeconds.l1 (k + 1) s n [x0, x1, x2, x3, x4, x5, y0, y1, y2, y3] z v i = carillonlaw02_StampSeconds.l1 k s n [x0, x1, x2, x3, x4, x5, y0, y1, y2, y3] z (256 * v + x) (i + 1) := by
      intro k z v i x h1 h2 h3 h4 h5 h6
      rw [carillonlaw02_StampSeconds.l1, if_pos h2, if_pos h1, if_pos (by simp; omega), h3, step v x h4 h5 h6, nx i h1 (by omega)]
    rw [show K + 12 = K + 11 + 1 by omega, go0 (K + 11) 0 0 x0 (by omega) (by omega) rfl (by omega) (by omega) b0]
    rw [show K + 11 = K + 10 + 1 by omega, go0 (K + 10) _ _ x1 (by omega) (by omega) rfl (by omega) (by omega) b1]
    rw [show K + 10 = K + 9 + 1 by omega, go0 (K + 9) _ _ x2 (by omega) (by omega) rfl (by omega) (by omega) b2]
    rw [show K + 9 = K + 8 + 1 by omega, go0 (K + 8) _ _ x3 (by omega) (by omega) rfl (by omega) (by omega) b3]
    rw [show K + 8 = K + 7 + 1 by omega, go0 (K + 7) _ _ x4 (by omega) (by omega) rfl (by omega) (by omega) b4]
    rw [show K + 7 = K + 6 + 1 by omega, go0 (K + 6) _ _ x5 (by omega) (by omega) rfl (by omega) (by omega) b5]
    rw [show K + 6 = K + 5 + 1 by omega, carillonlaw02_StampSeconds.l0, if_neg (by omega)]
    rw [show K + 5 = K + 4 + 1 by omega, go1 (K + 4) _ 0 6 y0 (by omega) (by omega) rfl (by omega) (by omega) c0]
    rw [show K + 4 = K + 3 + 1 by omega, go1 (K + 3) _ _ _ y1 (by omega) (by omega) rfl (by omega) (by omega) c1]
    rw [show K + 3 = K + 2 + 1 by omega, go1 (K + 2) _ _ _ y2 (by omega) (by omega) rfl (by omega) (by omega) c2]
    rw [show K + 2 = K + 1 + 1 by omega, go1 (K + 1) _ _ _ y3 (by omega) (by omega) rfl (by omega) (by omega) c3]
    rw [carillonlaw02_StampSeconds.l1, if_neg (by omega), if_pos d6, if_pos d4, awake_true]
    rfl

end Go.Proofs.Yteahnnhekfkabaa.Pure
