/- Any calls, any message answered: the exchange and the document's own answer alike, for every script. -/
import Derived.Test.YtpfjpfbhgeoadaaZzPx5
import Derived.Test.YtpfjpfbhgeoadaaZzDly
namespace Go.Proofs.Ytpfjpfbhgeoadaa.Pure
open Go.RowKit Go.Proofs.Ytpfjpfbhgeoadaa.P Go.Proofs.Ytpfjpfbhgeoadaa.Lib Go.Proofs.Ytpfjpfbhgeoadaa.Oct Go.Proofs.Ytpfjpfbhgeoadaa.Dly Go.Proofs.YtpfjpfbhgeoadaaW.PrintWords Go.Proofs.YtpfjpfbhgeoadaaW.PrintLast Go.Proofs.YtpfjpfbhgeoadaaW.PrintMore
theorem floor_of (a : Int) (h : -9223372036854775808 ≤ a ∧ a ≤ 9223372036854775807) : carillonref02_Floor.f a = some (a / 65536) := by
  unfold carillonref02_Floor.f
  rw [tm a 65536 (by omega), td a 65536 (by omega)]
  have h1 := Int.emod_nonneg a (show (65536 : Int) ≠ 0 by omega)
  have h2 := Int.emod_lt_of_pos a (show (0 : Int) < 65536 by omega)
  generalize a % 65536 = r at *
  generalize hq : a / 65536 = q at *
  by_cases hc : 0 ≤ a ∨ r = 0
  · rw [if_pos hc, if_pos hc, if_neg (by omega), w64 _ (by omega) (by omega)]
  · rw [if_neg hc, if_neg hc, if_pos (by omega), w64 (q + 1) (by omega) (by omega), w64 _ (by omega) (by omega)]
    congr 1
    omega
theorem rd_mem (l : List S36) (i : Nat) (h : i < l.length) : rd_T36 l (i : Int) ∈ l := by
  unfold rd_T36
  rw [Int.toNat_natCast, List.getD_eq_getElem?_getD, List.getElem?_eq_getElem h]
  exact List.getElem_mem h
theorem plays (k : Nat) (p q dm : Int) (l : List S36) (hw : ∀ x ∈ l, -9223372036854775808 ≤ x.f3.f3 ∧ x.f3.f3 ≤ 9223372036854775807) : ∀ (d m i : Nat) (sq at_ at2 : Int) (out sent : Bool), (sent = true → at2 = at_) → (sent = false → at_ = 0) → (sent = true → out = true) → i + d = 60 → d < m →
    carillonlaw17_DelayPlays.l1 k m l p q p q dm sq at_ out sent p q dm out sent sq at2 (i : Int) = some true := by
  intro d
  induction d with
  | zero =>
    intro m i sq at_ at2 out sent _ _ _ hi hm
    obtain ⟨m, rfl⟩ : ∃ x, m = x + 1 := ⟨m - 1, by omega⟩
    rw [carillonlaw17_DelayPlays.l1]
    by_cases hl : (i : Int) < (l.length : Int)
    · rw [if_pos hl, if_neg (by omega), awake_true]
      rfl
    · rw [if_neg hl, awake_true]
      rfl
  | succ d ih =>
    intro m i sq at_ at2 out sent g1 g2 g3 hi hm
    obtain ⟨m, rfl⟩ : ∃ x, m = x + 1 := ⟨m - 1, by omega⟩
    rw [carillonlaw17_DelayPlays.l1]
    by_cases hl : (i : Int) < (l.length : Int)
    · have he := hw _ (rd_mem l i (by omega))
      have hnx : wrap64 ((i : Int) + 1) = ((i + 1 : Nat) : Int) := by rw [w64 _ (by omega) (by omega)]; omega
      rw [if_pos hl, if_pos (by omega), if_pos (by omega)]
      generalize rd_T36 l (i : Int) = e at *
      have go : ∀ (sq' at' at2' : Int) (out' sent' : Bool), (sent' = true → at2' = at') → (sent' = false → at' = 0) → (sent' = true → out' = true) →
          carillonlaw17_DelayPlays.j2 k (carillonlaw17_DelayPlays.l1 k m) l p q p q dm sq' at' out' sent' p q dm out' sent' sq' at2' (i : Int) = some true := by
        intro sq' at' at2' out' sent' q1 q2 q3
        unfold carillonlaw17_DelayPlays.j2
        rw [hnx]
        exact ih m (i + 1) _ _ _ _ _ q1 q2 q3 (by omega) (by omega)
      clear hnx
      obtain ⟨t, ht⟩ : ∃ t, delay_Answer.f e.f3.f0 e.f3.f1 e.f3.f2 e.f3.f3 e.f3.f4.f0 e.f3.f4.f1 e.f3.f5 e.f3.f6 e.f3.f7 e.f3.f8.f0 e.f3.f8.f1 e.f3.f9 e.f3.f10 e.f3.f11.f0 e.f3.f11.f1 e.f3.f11.f2 e.f3.f12 e.f3.f13 e.f3.f14 e.f3.f15 e.f3.f16 e.f3.f17 e.f3.f18 p q e.f2 e.f1 = some t := by
        unfold delay_Answer.f stamp_May.f
        split
        · split
          · simp only [Option.bind_some]
            split <;> exact ⟨_, rfl⟩
          · exact ⟨_, rfl⟩
        · exact ⟨_, rfl⟩
      have ht2 : carillonref17_Answer.f e.f3.f0 e.f3.f1 e.f3.f2 e.f3.f3 e.f3.f4.f0 e.f3.f4.f1 e.f3.f5 e.f3.f6 e.f3.f7 e.f3.f8.f0 e.f3.f8.f1 e.f3.f9 e.f3.f10 e.f3.f11.f0 e.f3.f11.f1 e.f3.f11.f2 e.f3.f12 e.f3.f13 e.f3.f14 e.f3.f15 e.f3.f16 e.f3.f17 e.f3.f18 p q e.f2 e.f1 = some t := ht
      rw [ht, ht2, Option.bind_some, Option.bind_some, if_pos (by simp only [beq_self_eq_true, Bool.and_self]), if_pos (by simp only [beq_self_eq_true])]
      clear ht ht2 t
      unfold carillonlaw17_DelayPlays.j3
      rw [place_of _ 6 (by omega) (by omega), Option.bind_some]
      have c1 := Int.emod_nonneg e.f0 (show (6 : Int) ≠ 0 by omega)
      have c2 := Int.emod_lt_of_pos e.f0 (show (0 : Int) < 6 by omega)
      generalize e.f0 % 6 = c at *
      by_cases hc : c = 0 ∨ c = 1
      · rw [if_pos (by rcases hc with rfl | rfl <;> rfl)]
        unfold delay_Exchange_Request.f carillonref17_X_Request.f carillonref16_Mod.f
        simp only [Option.bind_some]
        rw [if_pos (by simp only [beq_self_eq_true, Bool.and_self])]
        exact go _ _ _ _ _ (fun h => by cases h) (fun _ => rfl) (fun h => by cases h)
      · have hn : ¬ (if c = 0 then decide (c = 0) else decide (c = 1)) = true := by
          rw [if_neg (by omega), decide_eq_true_eq]
          omega
        rw [if_neg hn]
        clear hn
        by_cases h2 : c = 2
        · rw [if_pos h2]
          unfold delay_Exchange_Sent.f carillonref17_X_Sent.f
          cases out with
          | false =>
            rw [if_neg (by simp), if_neg (by simp)]
            simp only [Option.bind_some]
            rw [if_pos (by simp)]
            exact go _ _ _ _ _ g1 g2 g3
          | true =>
            cases sent with
            | true =>
              rw [if_neg (by simp), if_pos rfl, if_pos rfl]
              simp only [Option.bind_some]
              rw [if_pos (by simp)]
              exact go _ _ _ _ _ g1 g2 g3
            | false =>
              have ga := g2 rfl
              subst ga
              by_cases hs : e.f1 = sq
              · rw [if_pos (by simp [hs]), if_pos rfl, if_neg (by simp), if_pos hs]
                simp only [Option.bind_some]
                rw [if_pos (by simp)]
                exact go _ _ _ _ _ (fun _ => rfl) (fun h => by cases h) (fun _ => rfl)
              · rw [if_neg (by simp; exact fun h => hs h.symm), if_pos rfl, if_neg (by simp), if_neg hs]
                simp only [Option.bind_some]
                rw [if_pos (by simp)]
                exact go _ _ _ _ _ g1 g2 g3
        · rw [if_neg h2]
          by_cases h5 : c = 5
          · rw [if_pos h5]
            unfold delay_Exchange_Clear.f carillonref17_X_Clear.f
            simp only [Option.bind_some]
            exact go _ _ _ _ _ (fun h => by cases h) (fun _ => rfl) (fun h => by cases h)
          · rw [if_neg h5]
            have resp : ∀ m0 m1 m2 m3 m4 m5 m6 m7 m8 m9 m10 m11 m12 m13 m14 m15 m16 m17 m18 m19 m20 m21 m22 : Int, (-9223372036854775808 ≤ m3 ∧ m3 ≤ 9223372036854775807) →
                ∃ (x : Int) (b : Bool) (sq' at' at2' : Int) (out' sent' : Bool), delay_Exchange_Response.f p q dm sq at_ out sent m0 m1 m2 m3 m4 m5 m6 m7 m8 m9 m10 m11 m12 m13 m14 m15 m16 m17 m18 m19 m20 m21 m22 = some (x, b, p, q, dm, sq', at', out', sent') ∧
                  carillonref17_X_Response.f p q dm out sent sq at2 m0 m1 m2 m3 m4 m5 m6 m7 m8 m9 m10 m11 m12 m13 m14 m15 m16 m17 m18 m19 m20 m21 m22 = some (x, b, p, q, dm, out', sent', sq', at2') ∧ (sent' = true → at2' = at') ∧ (sent' = false → at' = 0) ∧ (sent' = true → out' = true) := by
              intro m0 m1 m2 m3 m4 m5 m6 m7 m8 m9 m10 m11 m12 m13 m14 m15 m16 m17 m18 m19 m20 m21 m22 hm3
              unfold delay_Exchange_Response.f carillonref17_X_Response.f
              by_cases q1 : m0 = 9
              · rw [if_pos q1, if_pos q1]
                by_cases q2 : ((m9 == p) && (m10 == q)) = true
                · rw [if_pos q2, if_pos q2]
                  cases sent with
                  | false =>
                    rw [if_neg (by simp), if_neg (by simp)]
                    exact ⟨_, _, _, _, _, _, _, rfl, rfl, g1, g2, g3⟩
                  | true =>
                    rw [if_pos rfl, if_pos rfl]
                    have ga := g1 rfl
                    subst ga
                    by_cases q3 : m6 = sq
                    · rw [if_pos q3, if_pos q3, floor_of _ hm3]
                      unfold stamp_Floor.f delay_Exchange_Clear.f carillonref17_X_Clear.f
                      simp only [Option.bind_some]
                      exact ⟨_, _, _, _, _, _, _, rfl, rfl, (fun h => (Bool.noConfusion h)), (fun _ => rfl), (fun h => (Bool.noConfusion h))⟩
                    · rw [if_neg q3, if_neg q3]
                      exact ⟨_, _, _, _, _, _, _, rfl, rfl, g1, g2, g3⟩
                · rw [if_neg q2, if_neg q2]
                  exact ⟨_, _, _, _, _, _, _, rfl, rfl, g1, g2, g3⟩
              · rw [if_neg q1, if_neg q1]
                exact ⟨_, _, _, _, _, _, _, rfl, rfl, g1, g2, g3⟩
            by_cases h4 : e.f4 = true
            · rw [if_pos h4]
              obtain ⟨x, b, sq', at', at2', out', sent', r1, r2, r3, r4, r5⟩ := resp 9 e.f3.f1 e.f3.f2 e.f3.f3 e.f3.f4.f0 e.f3.f4.f1 sq e.f3.f6 e.f3.f7 p q e.f3.f9 e.f3.f10 e.f3.f11.f0 e.f3.f11.f1 e.f3.f11.f2 e.f3.f12 e.f3.f13 e.f3.f14 e.f3.f15 e.f3.f16 e.f3.f17 e.f3.f18 he
              unfold carillonlaw17_DelayPlays.j4
              rw [r1, r2]
              simp only [Option.bind_some]
              rw [if_pos trivial, if_pos (by simp)]
              exact go _ _ _ _ _ r3 r4 r5
            · rw [if_neg h4]
              obtain ⟨x, b, sq', at', at2', out', sent', r1, r2, r3, r4, r5⟩ := resp e.f3.f0 e.f3.f1 e.f3.f2 e.f3.f3 e.f3.f4.f0 e.f3.f4.f1 e.f3.f5 e.f3.f6 e.f3.f7 e.f3.f8.f0 e.f3.f8.f1 e.f3.f9 e.f3.f10 e.f3.f11.f0 e.f3.f11.f1 e.f3.f11.f2 e.f3.f12 e.f3.f13 e.f3.f14 e.f3.f15 e.f3.f16 e.f3.f17 e.f3.f18 he
              unfold carillonlaw17_DelayPlays.j4
              rw [r1, r2]
              simp only [Option.bind_some]
              rw [if_pos trivial, if_pos (by simp)]
              exact go _ _ _ _ _ r3 r4 r5
    · rw [if_neg hl, awake_true]
      rfl
theorem DelayPlays : carillonlaw17_DelayPlays.Pure := by
  intro p q dm l _ _ _ _ _ hw
  refine ⟨70, ?_⟩
  unfold carillonlaw17_DelayPlays.f delay_New.f
  simp only [Option.bind_some]
  have := plays 70 p q dm l (fun x hx => wf64 (hw x hx).2.2.2.2.2.2.1) 60 70 0 0 0 0 false false (fun h => by cases h) (fun _ => rfl) (fun h => by cases h) (by omega) (by omega)
  rw [Int.natCast_zero] at this
  exact this
end Go.Proofs.Ytpfjpfbhgeoadaa.Pure
