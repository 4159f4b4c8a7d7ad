/- A request that is answered tells the way there, by both clocks, just once, and nobody else's answer does: for all ports and all numbers. -/
import Derived.Test.YtpfjpfbhgeoadaaPx5
import Derived.Test.YtpfjpfbhgeoadaaDly
namespace Go.Proofs.Ytpfjpfbhgeoadaa.Pure
open Go.RowKit Go.Proofs.Ytpfjpfbhgeoadaa.P Go.Proofs.Ytpfjpfbhgeoadaa.Lib Go.Proofs.Ytpfjpfbhgeoadaa.Oct Go.Proofs.Ytpfjpfbhgeoadaa.Dly Go.Proofs.YtpfjpfbhgeoadaaW.PrintWords Go.Proofs.YtpfjpfbhgeoadaaW.PrintLast Go.Proofs.YtpfjpfbhgeoadaaW.PrintMore
theorem DelayRound : carillonlaw17_DelayRound.Pure := by
  intro a b c d n t r o p q _ _ _ _ _ _ _ _ _ _
  unfold carillonlaw17_DelayRound.f
  rw [place_of t _ (by omega) (by omega), place_of r _ (by omega) (by omega), place_of o _ (by omega) (by omega)]
  have t1 := Int.emod_nonneg t (show (1125899906842624 : Int) ≠ 0 by omega)
  have t2 := Int.emod_lt_of_pos t (show (0 : Int) < 1125899906842624 by omega)
  have r1 := Int.emod_nonneg r (show (1125899906842624 : Int) ≠ 0 by omega)
  have r2 := Int.emod_lt_of_pos r (show (0 : Int) < 1125899906842624 by omega)
  have o1 := Int.emod_nonneg o (show (1099511627776 : Int) ≠ 0 by omega)
  have o2 := Int.emod_lt_of_pos o (show (0 : Int) < 1099511627776 by omega)
  generalize t % 1125899906842624 = t at *
  generalize r % 1125899906842624 = r at *
  generalize o % 1099511627776 = o at *
  generalize hk : Go.bits .and .i64 n 65535 = k
  have mr := may_of r r1 (by omega)
  have w1 : wrap64 (Int.tdiv o 65536) = o / 65536 := by
    rw [Int.tdiv_eq_ediv_of_nonneg o1]
    exact w64 _ (by omega) (by omega)
  by_cases h : p = a ∧ q = b
  · obtain ⟨rfl, rfl⟩ := h
    simp [delay_New.f, delay_Exchange_Request.f, delay_Exchange_Sent.f, delay_Answer.f, delay_Exchange_Clear.f, delay_Exchange_Response.f, stamp_Floor.f, awake_true, w1, mr, hk]
  · have h' : ¬ (p = a ∧ q = b) := h
    simp [delay_New.f, delay_Exchange_Request.f, delay_Exchange_Sent.f, delay_Answer.f, delay_Exchange_Clear.f, delay_Exchange_Response.f, stamp_Floor.f, awake_true, w1, mr, hk, h']
end Go.Proofs.Ytpfjpfbhgeoadaa.Pure
