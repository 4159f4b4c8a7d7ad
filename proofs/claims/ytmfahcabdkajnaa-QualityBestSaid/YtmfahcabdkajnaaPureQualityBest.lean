/- Of any list the first best one, any two compared as the document has it: for every list of up to thirty (of more the law asks nothing). -/
import Derived.Test.YtmfahcabdkajnaaPx5
import Derived.Test.YtmfahcabdkajnaaQua
namespace Go.Proofs.Ytmfahcabdkajnaa.Pure
open Go.RowKit Go.Proofs.Ytmfahcabdkajnaa.P Go.Proofs.Ytmfahcabdkajnaa.Lib Go.Proofs.Ytmfahcabdkajnaa.Oct Go.Proofs.Ytmfahcabdkajnaa.Qua Go.Proofs.YtmfahcabdkajnaaW.PrintWords Go.Proofs.YtmfahcabdkajnaaW.PrintLast Go.Proofs.YtmfahcabdkajnaaW.PrintMore

theorem awake_true {k : Nat} (h : 50 ≤ k) : carillonlaw05_awake.f k = some true := at_rounds (g := fun k => carillonlaw05_awake.f k) (fun k => carillonlaw05_awake.mono k) h (by decide +kernel)

/-- The best one's place, as both go on from a place: the program's and the law's own. -/
def pick (l : List S26) (at_ i : Int) : Int := if at_ < 0 then i else if cmp3 (rd_T26 l i).f0 (rd_T26 l i).f1 (rd_T26 l i).f2 (rd_T26 l at_).f0 (rd_T26 l at_).f1 (rd_T26 l at_).f2 < 0 then i else at_
def best (l : List S26) : Nat → Int
  | 0 => -1
  | n + 1 => pick l (best l n) n
theorem best_range (l : List S26) (n : Nat) : -1 ≤ best l n ∧ best l n < n ∧ (1 ≤ n → 0 ≤ best l n) := by
  induction n with
  | zero => simp [best]
  | succ n ih =>
    simp only [best, pick]
    split
    · omega
    · split <;> omega
theorem best_from (l : List S26) (hl : l.length ≤ 30) (K : Nat) (d : Nat) : ∀ i : Nat, i ≤ l.length → l.length - i = d → quality_Best.l0 (K + 5 + d) l (best l i) l (l.length : Int) (i : Int) = some (best l l.length) := by
  induction d with
  | zero =>
    intro i hi hd
    have e : i = l.length := by omega
    subst e
    rw [show K + 5 + 0 = (K + 4) + 1 by omega, quality_Best.l0, if_neg (by omega)]
  | succ d ih =>
    intro i hi hd
    have hr := best_range l i
    have hn := ih (i + 1) (by omega) (by omega)
    have hw : wrap64 ((i : Int) + 1) = ((i + 1 : Nat) : Int) := by rw [w64 _ (by omega) (by omega)]; omega
    rw [show K + 5 + (d + 1) = (K + 5 + d) + 1 by omega, quality_Best.l0, if_pos (by omega), if_pos (by omega), if_pos (by omega), hw]
    clear hw
    have hp : best l (i + 1) = pick l (best l i) i := rfl
    rw [hp] at hn
    unfold pick at hn
    by_cases h : best l i < 0
    · rw [if_pos h] at hn ⊢
      exact hn
    · rw [if_neg h] at hn ⊢
      rw [if_pos (by omega), if_pos (by omega), show K + 5 + d = (K + 1 + d) + 4 by omega, quCompare_of, Option.bind_some]
      rw [show K + 5 + d = (K + 1 + d) + 4 by omega] at hn
      split
      · rename_i h2
        rw [if_pos h2] at hn
        exact hn
      · rename_i h2
        rw [if_neg h2] at hn
        exact hn
theorem inner (l : List S26) (hl : l.length ≤ 30) (r : Option Bool) (b : Int) (i : Nat) (hi : i < l.length) (d : Nat) : ∀ (K j : Nat), j ≤ l.length → l.length - j = d → 4 ≤ K → carillonlaw05_QualityBest.l0 K l b (((i + 1 : Nat) : Int)) = r →
    carillonlaw05_QualityBest.l1 (K + d + 1) l b (i : Int) (j : Int) = r := by
  induction d with
  | zero =>
    intro K j hj hd hK h
    have e : j = l.length := by omega
    have hw : wrap64 ((i : Int) + 1) = ((i + 1 : Nat) : Int) := by rw [w64 _ (by omega) (by omega)]; omega
    rw [show K + 0 + 1 = K + 1 by omega, carillonlaw05_QualityBest.l1, if_neg (by omega), hw]
    exact h
  | succ d ih =>
    intro K j hj hd hK h
    have hn := ih K (j + 1) (by omega) (by omega) hK h
    have hw : wrap64 ((j : Int) + 1) = ((j + 1 : Nat) : Int) := by rw [w64 _ (by omega) (by omega)]; omega
    rw [show K + (d + 1) + 1 = (K + d + 1) + 1 by omega, carillonlaw05_QualityBest.l1, if_pos (by omega), if_pos (by omega), if_pos (by omega), if_pos (by omega), hw]
    clear hw
    obtain ⟨q, hq⟩ : ∃ q, K + d + 1 = q + 4 := ⟨K + d - 3, by omega⟩
    rw [hq] at hn ⊢
    rw [quCompare_of, rCompare_of, Option.bind_some, Option.bind_some, if_pos rfl]
    exact hn
theorem outer (l : List S26) (hl : l.length ≤ 30) (K : Nat) (hK : 100 ≤ K) (d : Nat) : ∀ i : Nat, i ≤ l.length → l.length - i = d →
    ∃ k, 100 ≤ k ∧ carillonlaw05_QualityBest.l0 k l (best l i) (i : Int) = some true := by
  induction d with
  | zero =>
    intro i hi hd
    have e : i = l.length := by omega
    subst e
    refine ⟨K + 5 + l.length + 1, by omega, ?_⟩
    rw [carillonlaw05_QualityBest.l0, if_neg (by omega), if_pos (by simp; omega), List.nil_append]
    have hb := best_from l hl K l.length 0 (by omega) (by omega)
    unfold quality_Best.f
    rw [show best l 0 = -1 from rfl, show (((0 : Nat) : Int)) = 0 from rfl] at hb
    rw [hb, Option.bind_some, if_pos rfl, awake_true (by omega)]
    rfl
  | succ d ih =>
    intro i hi hd
    obtain ⟨k, hk, h⟩ := ih (i + 1) (by omega) (by omega)
    have hr := best_range l i
    refine ⟨k + l.length + 1 + 3, by omega, ?_⟩
    have hin := inner l hl (some true) (best l (i + 1)) i (by omega) l.length k 0 (by omega) (by omega) (by omega) h
    have hp : best l (i + 1) = pick l (best l i) i := rfl
    unfold pick at hp
    rw [show k + l.length + 1 + 3 = (k + l.length + 1 + 2) + 1 by omega, carillonlaw05_QualityBest.l0, if_pos (by omega)]
    rw [show (((0 : Nat) : Int)) = 0 from rfl] at hin
    by_cases h1 : best l i < 0
    · rw [if_pos h1] at hp ⊢
      rw [show k + l.length + 1 + 2 = (k + l.length + 1 + 1) + 1 by omega, carillonlaw05_QualityBest.j1, if_pos rfl, carillonlaw05_QualityBest.j2]
      rw [hp] at hin
      exact hin
    · rw [if_neg h1] at hp ⊢
      rw [if_pos (by omega), if_pos (by omega), if_pos (by omega), rCompare_of, Option.bind_some, show k + l.length + 1 + 2 = (k + l.length + 1 + 1) + 1 by omega, carillonlaw05_QualityBest.j1]
      split at hp
      · rename_i h2
        rw [if_pos (decide_eq_true h2), carillonlaw05_QualityBest.j2]
        rw [hp] at hin
        exact hin
      · rename_i h2
        rw [if_neg (by simpa using h2), carillonlaw05_QualityBest.j2]
        rw [hp] at hin
        exact hin
theorem QualityBest : carillonlaw05_QualityBest.Pure := by
  intro l _ _ _
  by_cases hl : (l.length : Int) > 30
  · refine ⟨50, ?_⟩
    unfold carillonlaw05_QualityBest.f
    rw [if_pos hl, awake_true (Nat.le_refl _)]
    rfl
  · obtain ⟨k, _, h⟩ := outer l (by omega) 100 (by omega) l.length 0 (by omega) (by omega)
    refine ⟨k, ?_⟩
    unfold carillonlaw05_QualityBest.f
    rw [if_neg hl]
    exact h

end Go.Proofs.Ytmfahcabdkajnaa.Pure
