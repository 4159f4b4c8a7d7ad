/- The best one is not worse than any, and better than all ahead of it: for every list (of more than forty the first forty). -/
import Derived.Test.YtmfahcabdkajnaaPx3
import Derived.Test.YtmfahcabdkajnaaQua
namespace Go.Proofs.Ytmfahcabdkajnaa.Pure
open Go.RowKit Go.Proofs.Ytmfahcabdkajnaa.P Go.Proofs.Ytmfahcabdkajnaa.Lib Go.Proofs.Ytmfahcabdkajnaa.Oct Go.Proofs.Ytmfahcabdkajnaa.Qua Go.Proofs.YtmfahcabdkajnaaW.PrintWords Go.Proofs.YtmfahcabdkajnaaW.PrintLast Go.Proofs.YtmfahcabdkajnaaW.PrintMore

theorem awake_true {k : Nat} (h : 50 ≤ k) : carillonlaw05_awake.f k = some true := at_rounds (g := fun k => carillonlaw05_awake.f k) (fun k => carillonlaw05_awake.mono k) h (by decide +kernel)
/-- How two elements stand to one another. -/
def cm (l : List S26) (i j : Int) : Int := cmp3 (rd_T26 l i).f0 (rd_T26 l i).f1 (rd_T26 l i).f2 (rd_T26 l j).f0 (rd_T26 l j).f1 (rd_T26 l j).f2
def pick (l : List S26) (at_ i : Int) : Int := if at_ < 0 then i else if cm l i at_ < 0 then i else at_
def best (l : List S26) : Nat → Int
  | 0 => -1
  | n + 1 => pick l (best l n) n
theorem best_range (l : List S26) (n : Nat) : -1 ≤ best l n ∧ best l n < n ∧ (1 ≤ n → 0 ≤ best l n) := by
  induction n with
  | zero => simp [best]
  | succ n ih =>
    simp only [best, pick]
    split
    · omega
    · split <;> omega
theorem best_from (l : List S26) (hl : l.length ≤ 40) (K : Nat) (d : Nat) : ∀ i : Nat, i ≤ l.length → l.length - i = d → quality_Best.l0 (K + 5 + d) l (best l i) l (l.length : Int) (i : Int) = some (best l l.length) := by
  induction d with
  | zero =>
    intro i hi hd
    have e : i = l.length := by omega
    subst e
    rw [show K + 5 + 0 = (K + 4) + 1 by omega, quality_Best.l0, if_neg (by omega)]
  | succ d ih =>
    intro i hi hd
    have hr := best_range l i
    have hn := ih (i + 1) (by omega) (by omega)
    have hw : wrap64 ((i : Int) + 1) = ((i + 1 : Nat) : Int) := by rw [w64 _ (by omega) (by omega)]; omega
    rw [show K + 5 + (d + 1) = (K + 5 + d) + 1 by omega, quality_Best.l0, if_pos (by omega), if_pos (by omega), if_pos (by omega), hw]
    clear hw
    have hp : best l (i + 1) = pick l (best l i) i := rfl
    rw [hp] at hn
    unfold pick cm at hn
    by_cases h : best l i < 0
    · rw [if_pos h] at hn ⊢
      exact hn
    · rw [if_neg h] at hn ⊢
      rw [if_pos (by omega), if_pos (by omega), show K + 5 + d = (K + 1 + d) + 4 by omega, quCompare_of, Option.bind_some]
      rw [show K + 5 + d = (K + 1 + d) + 4 by omega] at hn
      split
      · rename_i h2
        rw [if_pos h2] at hn
        exact hn
      · rename_i h2
        rw [if_neg h2] at hn
        exact hn
theorem cm_trans (l : List S26) (i j k : Int) (h1 : cm l i j < 0) (h2 : cm l j k ≤ 0) : cm l i k < 0 := by
  unfold cm at *
  have a1 := cmp3_cases (rd_T26 l i).f0 (rd_T26 l i).f1 (rd_T26 l i).f2 (rd_T26 l j).f0 (rd_T26 l j).f1 (rd_T26 l j).f2
  have a2 := cmp3_cases (rd_T26 l j).f0 (rd_T26 l j).f1 (rd_T26 l j).f2 (rd_T26 l k).f0 (rd_T26 l k).f1 (rd_T26 l k).f2
  have a3 := cmp3_cases (rd_T26 l i).f0 (rd_T26 l i).f1 (rd_T26 l i).f2 (rd_T26 l k).f0 (rd_T26 l k).f1 (rd_T26 l k).f2
  generalize cmp3 (rd_T26 l i).f0 (rd_T26 l i).f1 (rd_T26 l i).f2 (rd_T26 l j).f0 (rd_T26 l j).f1 (rd_T26 l j).f2 = p at *
  generalize cmp3 (rd_T26 l j).f0 (rd_T26 l j).f1 (rd_T26 l j).f2 (rd_T26 l k).f0 (rd_T26 l k).f1 (rd_T26 l k).f2 = q at *
  generalize cmp3 (rd_T26 l i).f0 (rd_T26 l i).f1 (rd_T26 l i).f2 (rd_T26 l k).f0 (rd_T26 l k).f1 (rd_T26 l k).f2 = r at *
  have b1 : p = -1 := by omega
  have b2 : q = -1 ∨ q = 0 := by omega
  rcases a3 with a3 | a3 | a3
  · omega
  · omega
  · omega
theorem cm_turn (l : List S26) (i j : Int) (h : ¬ cm l i j < 0) : cm l j i ≤ 0 := by
  unfold cm at *
  have a1 := cmp3_cases (rd_T26 l i).f0 (rd_T26 l i).f1 (rd_T26 l i).f2 (rd_T26 l j).f0 (rd_T26 l j).f1 (rd_T26 l j).f2
  have a2 := cmp3_cases (rd_T26 l j).f0 (rd_T26 l j).f1 (rd_T26 l j).f2 (rd_T26 l i).f0 (rd_T26 l i).f1 (rd_T26 l i).f2
  generalize cmp3 (rd_T26 l i).f0 (rd_T26 l i).f1 (rd_T26 l i).f2 (rd_T26 l j).f0 (rd_T26 l j).f1 (rd_T26 l j).f2 = p at *
  generalize cmp3 (rd_T26 l j).f0 (rd_T26 l j).f1 (rd_T26 l j).f2 (rd_T26 l i).f0 (rd_T26 l i).f1 (rd_T26 l i).f2 = q at *
  omega
theorem cm_self (l : List S26) (i : Int) : cm l i i = 0 := by
  have a1 := cmp3_cases (rd_T26 l i).f0 (rd_T26 l i).f1 (rd_T26 l i).f2 (rd_T26 l i).f0 (rd_T26 l i).f1 (rd_T26 l i).f2
  unfold cm
  generalize cmp3 (rd_T26 l i).f0 (rd_T26 l i).f1 (rd_T26 l i).f2 (rd_T26 l i).f0 (rd_T26 l i).f1 (rd_T26 l i).f2 = p at *
  omega
theorem best_first (l : List S26) (n : Nat) : ∀ j : Nat, j < n → cm l (best l n) j ≤ 0 ∧ ((j : Int) < best l n → cm l (best l n) j < 0) := by
  induction n with
  | zero => intro j hj; omega
  | succ n ih =>
    intro j hj
    have hr := best_range l n
    have hs := cm_self l n
    simp only [best, pick]
    by_cases h0 : best l n < 0
    · rw [if_pos h0]
      have : n = 0 := by omega
      subst this
      have : j = 0 := by omega
      subst this
      omega
    · rw [if_neg h0]
      by_cases h1 : cm l n (best l n) < 0
      · rw [if_pos h1]
        by_cases hjn : j = n
        · subst hjn; omega
        · have h2 := (ih j (by omega)).1
          have h3 := cm_trans l n (best l n) j h1 h2
          exact ⟨by omega, fun _ => h3⟩
      · rw [if_neg h1]
        by_cases hjn : j = n
        · subst hjn
          have h4 := cm_turn l _ _ h1
          exact ⟨h4, fun h5 => by omega⟩
        · exact ih j (by omega)
theorem first_from (l : List S26) (hl : l.length ≤ 40) (k : Nat) (hk : 60 ≤ k) (fl : Bool) (hp : 1 ≤ l.length) (d : Nat) : ∀ (m i : Nat), i ≤ l.length → l.length - i = d → d < m →
    carillonlaw05_QualityFirst.l1 k m l fl (best l l.length) (i : Int) = some true := by
  have hr := best_range l l.length
  obtain ⟨q, rfl⟩ : ∃ q, k = q + 4 := ⟨k - 4, by omega⟩
  induction d with
  | zero =>
    intro m i hi hd hm
    obtain ⟨m, rfl⟩ : ∃ x, m = x + 1 := ⟨m - 1, by omega⟩
    rw [carillonlaw05_QualityFirst.l1, if_neg (by omega), awake_true (by omega)]
    rfl
  | succ d ih =>
    intro m i hi hd hm
    obtain ⟨m, rfl⟩ : ∃ x, m = x + 1 := ⟨m - 1, by omega⟩
    have hn := ih m (i + 1) (by omega) (by omega) (by omega)
    have hb := best_first l l.length i (by omega)
    have hw : wrap64 ((i : Int) + 1) = ((i + 1 : Nat) : Int) := by rw [w64 _ (by omega) (by omega)]; omega
    rw [carillonlaw05_QualityFirst.l1, if_pos (by omega), if_pos (by omega), if_pos (by omega), if_pos (by omega), quCompare_of, Option.bind_some, hw]
    clear hw
    unfold cm at hb
    rw [if_neg (by omega)]
    by_cases h : (i : Int) < best l l.length
    · rw [if_pos h, if_neg (by omega)]
      exact hn
    · rw [if_neg h]
      exact hn
theorem QualityFirst : carillonlaw05_QualityFirst.Pure := by
  intro l _ _ _
  obtain ⟨K, hK⟩ : ∃ K : Nat, 100 ≤ K := ⟨100, Nat.le_refl _⟩
  refine ⟨K, ?_⟩
  have key : ∀ l : List S26, l.length ≤ 40 → ((quality_Best.f K l).bind fun t9 => (if (l.length : Int) = 0 then (if t9 = (-1) then ((carillonlaw05_awake.f K ).bind fun t17 => (some t17)) else (some false)) else (if t9 < 0 then (some false) else (if t9 ≥ (l.length : Int) then (some false) else (carillonlaw05_QualityFirst.l1 K K l false t9 0))))) = some true := by
    intro l hl
    have hb := best_from l hl (K - 5 - l.length) l.length 0 (by omega) (by omega)
    have hr := best_range l l.length
    rw [show K - 5 - l.length + 5 + l.length = K by omega, show best l 0 = -1 from rfl, Int.natCast_zero] at hb
    unfold quality_Best.f
    rw [hb, Option.bind_some]
    by_cases h0 : l.length = 0
    · have e : l = [] := List.eq_nil_of_length_eq_zero h0
      subst e
      rw [if_pos (show ((([] : List S26).length : Nat) : Int) = 0 from rfl), if_pos (show best ([] : List S26) ([] : List S26).length = -1 from rfl), awake_true (by omega)]
      rfl
    · rw [if_neg (by omega), if_neg (by omega), if_neg (by omega)]
      have := first_from l hl K (by omega) false (by omega) l.length K 0 (by omega) (by omega) (by omega)
      rw [Int.natCast_zero] at this
      exact this
  unfold carillonlaw05_QualityFirst.f
  by_cases h : (l.length : Int) > 40
  · have hl : (l.take (40 : Int).toNat).length ≤ 40 := by rw [List.length_take]; exact Nat.min_le_left _ _
    rw [if_pos h, if_pos (by omega), if_pos (by omega)]
    exact key _ hl
  · rw [if_neg h, if_pos (by omega)]
    exact key _ (by omega)
end Go.Proofs.Ytmfahcabdkajnaa.Pure
