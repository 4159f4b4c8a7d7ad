/- Numbers one behind the other are read one behind the other, and behind them there is none: for every list of numbers. -/
import Derived.Test.YthdigeknonamaaaPx3
import Derived.Test.YthdigeknonamaaaOct
namespace Go.Proofs.Ythdigeknonamaaa.Pure
open Go.RowKit Go.Proofs.Ythdigeknonamaaa.P Go.Proofs.Ythdigeknonamaaa.Lib Go.Proofs.Ythdigeknonamaaa.Oct Go.Proofs.YthdigeknonamaaaW.PrintWords Go.Proofs.YthdigeknonamaaaW.PrintLast Go.Proofs.YthdigeknonamaaaW.PrintMore

theorem awake_true {k : Nat} (h : 50 ≤ k) : carillonlaw01_awake.f k = some true := at_rounds (g := fun k => carillonlaw01_awake.f k) (fun k => carillonlaw01_awake.mono k) h (by decide +kernel)
/-- Numbers' bytes, one behind the other. -/
def cat (n : Nat) : List Int → List Int
  | [] => []
  | v :: r => enc v n ++ cat n r
theorem cat_length (n : Nat) (l : List Int) : (cat n l).length = n * l.length := by
  induction l with
  | nil => rfl
  | cons v r ih => rw [cat, List.length_append, enc_length, ih, List.length_cons, Nat.mul_succ, Nat.add_comm]
theorem cat_by (n : Nat) (l : List Int) : By (cat n l) := by
  induction l with
  | nil => exact By.nil
  | cons v r ih => exact (enc_by v n).app ih
theorem cat_app (n : Nat) (a b : List Int) : cat n (a ++ b) = cat n a ++ cat n b := by
  induction a with
  | nil => rfl
  | cons v r ih => rw [List.cons_append, cat, cat, ih, List.append_assoc]
theorem rd_at {l : List Int} {i : Nat} (h : i < l.length) : rd l (i : Int) = l[i] := by
  simp [rd, h]
theorem many_puts (k n : Nat) (l : List Int) (f : Bool) (h1 : 1 ≤ n) (h7 : n ≤ 7) (hl : l.length ≤ 100) : ∀ (d i m : Nat) (b : List Int), i + d = l.length → d < m → b.length = n * i →
    carillonlaw01_OctetsMany.l1 k m l f (n : Int) b (i : Int) = carillonlaw01_OctetsMany.l2 k k l f (n : Int) (b ++ cat n (l.drop i)) 0 := by
  intro d
  induction d with
  | zero =>
    intro i m b hi hm hb
    obtain ⟨m, rfl⟩ : ∃ q, m = q + 1 := ⟨m - 1, by omega⟩
    have hi : i = l.length := by omega
    subst hi
    have hp : n * l.length ≤ 7 * 100 := Nat.mul_le_mul h7 hl
    rw [carillonlaw01_OctetsMany.l1, if_neg (by omega), List.drop_length, cat, List.append_nil, if_pos]
    have e : (n : Int) * (l.length : Int) = ((n * l.length : Nat) : Int) := by rw [Int.natCast_mul]
    rw [hb, e]
    generalize n * l.length = q at hp
    exact (w64 _ (by omega) (by omega)).symm
  | succ d ih =>
    intro i m b hi hm hb
    obtain ⟨m, rfl⟩ : ∃ q, m = q + 1 := ⟨m - 1, by omega⟩
    have hil : i < l.length := by omega
    have hp : n * i ≤ 7 * 100 := Nat.mul_le_mul h7 (by omega)
    rw [carillonlaw01_OctetsMany.l1, if_pos (by omega), if_pos (by omega), if_pos (by omega), put_of b _ n (by omega) (by omega) (by rw [hb]; omega), Option.bind_some, w64 _ (by omega) (by omega)]
    rw [show (i : Int) + 1 = ((i + 1 : Nat) : Int) by omega, Int.toNat_natCast, ih (i + 1) m _ (by omega) (by omega) (by rw [List.length_append, enc_length, hb, Nat.mul_succ])]
    rw [List.append_assoc, rd_at hil]
    congr 2
    rw [List.drop_eq_getElem_cons hil, cat]
theorem many_gets (k n : Nat) (hk : 60 ≤ k) (l : List Int) (f : Bool) (h1 : 1 ≤ n) (h7 : n ≤ 7) (hl : l.length ≤ 100) (e2 : IntKind.u64.wrap (wrap64 (8 * (n : Int))) = 8 * (n : Int)) (e3 : shl .i64 1 (8 * (n : Int)) = 256 ^ n) (q1 : 256 ≤ (256 : Int) ^ n) (q2 : (256 : Int) ^ n ≤ 72057594037927936) : ∀ (d i m : Nat), i + d = l.length → d < m →
    carillonlaw01_OctetsMany.l2 k m l f (n : Int) (cat n l) (i : Int) = some true := by
  have hL := cat_length n l
  have hB := cat_by n l
  have hp : n * l.length ≤ 7 * 100 := Nat.mul_le_mul h7 hl
  intro d
  induction d with
  | zero =>
    intro i m hi hm
    obtain ⟨m, rfl⟩ : ∃ q, m = q + 1 := ⟨m - 1, by omega⟩
    have hlen : ((cat n l).length : Int) ≤ 700 := by omega
    rw [carillonlaw01_OctetsMany.l2, if_neg (by omega), w64 (((cat n l).length : Int) - n) (by omega) (by omega), w64 _ (by omega) (by omega), get_of _ hB (by omega) _ _ (by omega) (by omega) k (by omega)]
    rw [if_neg (by unfold has; omega), Option.bind_some, if_neg (by simp), awake_true (by omega)]
    rfl
  | succ d ih =>
    intro i m hi hm
    obtain ⟨m, rfl⟩ : ∃ q, m = q + 1 := ⟨m - 1, by omega⟩
    have hil : i < l.length := by omega
    have hni : n * i ≤ 7 * 100 := Nat.mul_le_mul h7 (by omega)
    have hni2 : n * i + n ≤ n * l.length := by
      rw [← Nat.mul_succ]
      exact Nat.mul_le_mul_left n hil
    have e : (n : Int) * (i : Int) = ((n * i : Nat) : Int) := by rw [Int.natCast_mul]
    have es : cat n l = cat n (l.take i) ++ enc l[i] n ++ cat n (l.drop (i + 1)) := by
      conv => lhs; rw [← List.take_append_drop i l, cat_app, List.drop_eq_getElem_cons hil, cat]
      rw [List.append_assoc]
    have hc : cut (cat n l) ((n * i : Nat) : Int) (n : Int) = enc l[i] n := by
      rw [es]
      exact cut_app _ _ _ _ _ (by rw [cat_length, List.length_take, Nat.min_eq_left (by omega)]) (by rw [enc_length])
    have hh : has (cat n l) ((n * i : Nat) : Int) (n : Int) := by
      unfold has
      rw [hL]
      omega
    rw [carillonlaw01_OctetsMany.l2, if_pos (by omega), e, w64 ((n * i : Nat) : Int) (by omega) (by omega), get_yes _ hB (by omega) _ _ hh (by omega) (by omega) k (by omega), hc, dec_enc, Option.bind_some]
    have e4 : wrap64 ((256 : Int) ^ n - 1) = 256 ^ n - 1 := by
      generalize (256 : Int) ^ n = q at *
      exact w64 _ (by omega) (by omega)
    rw [if_pos rfl, if_pos (by omega), e2, if_pos (by omega), e3, e4, mask_of _ n h1 h7, rd_at hil, if_pos rfl, w64 _ (by omega) (by omega), show (i : Int) + 1 = ((i + 1 : Nat) : Int) by omega]
    exact ih (i + 1) m (by omega) (by omega)
theorem OctetsMany : carillonlaw01_OctetsMany.Pure := by
  intro l a _ _ _ _
  obtain ⟨K, hK⟩ : ∃ K : Nat, 200 ≤ K := ⟨200, Nat.le_refl _⟩
  refine ⟨K, ?_⟩
  unfold carillonlaw01_OctetsMany.f
  have r1 := Int.emod_nonneg a (show (7 : Int) ≠ 0 by omega)
  have r2 := Int.emod_lt_of_pos a (show (0 : Int) < 7 by omega)
  rw [place_of a _ (by omega) (by omega), Option.bind_some]
  generalize a % 7 = p at *
  obtain ⟨n, hn, h1, h7, e1, e2, e3, q1, q2, _⟩ := shl_of p r1 (by omega)
  rw [e2] at e3
  rw [e1] at e2 ⊢
  have key : ∀ l : List Int, l.length ≤ 100 → carillonlaw01_OctetsMany.l1 K K l false (n : Int) [] 0 = some true := by
    intro l hl
    have g1 := many_puts K n l false h1 h7 hl l.length 0 K [] (by omega) (by omega) rfl
    rw [Int.natCast_zero] at g1
    rw [g1, List.nil_append, List.drop_zero]
    exact many_gets K n (by omega) l false h1 h7 hl e2 e3 q1 q2 l.length 0 K (by omega) (by omega)
  by_cases h : (l.length : Int) > 100
  · rw [if_pos h, if_pos (by omega)]
    exact key _ (by rw [List.length_take]; omega)
  · rw [if_neg h]
    exact key _ (by omega)
end Go.Proofs.Ythdigeknonamaaa.Pure
