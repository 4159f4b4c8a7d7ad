/- A new request takes the place of an elder one, and its answer alone counts: for every port and all numbers. -/
import Derived.Test.YtpfjpfbhgeoadaaPx6
import Derived.Test.YtpfjpfbhgeoadaaDly
namespace Go.Proofs.Ytpfjpfbhgeoadaa.Pure
open Go.RowKit Go.Proofs.Ytpfjpfbhgeoadaa.P Go.Proofs.Ytpfjpfbhgeoadaa.Lib Go.Proofs.Ytpfjpfbhgeoadaa.Oct Go.Proofs.Ytpfjpfbhgeoadaa.Dly Go.Proofs.YtpfjpfbhgeoadaaW.PrintWords Go.Proofs.YtpfjpfbhgeoadaaW.PrintLast Go.Proofs.YtpfjpfbhgeoadaaW.PrintMore
theorem DelayNext : carillonlaw17_DelayNext.Pure := by
  intro a b n t s _ _ _ _ _
  unfold carillonlaw17_DelayNext.f
  rw [place_of n _ (by omega) (by omega), place_of t _ (by omega) (by omega), place_of s _ (by omega) (by omega)]
  have n1 := Int.emod_nonneg n (show (65535 : Int) ≠ 0 by omega)
  have n2 := Int.emod_lt_of_pos n (show (0 : Int) < 65535 by omega)
  have t1 := Int.emod_nonneg t (show (1099511627776 : Int) ≠ 0 by omega)
  have t2 := Int.emod_lt_of_pos t (show (0 : Int) < 1099511627776 by omega)
  have s1 := Int.emod_nonneg s (show (1099511627776 : Int) ≠ 0 by omega)
  have s2 := Int.emod_lt_of_pos s (show (0 : Int) < 1099511627776 by omega)
  generalize n % 65535 = x at *
  generalize t % 1099511627776 = t at *
  generalize s % 1099511627776 = s at *
  have e1 := low16_of x n1 (by omega)
  have e2 := low16_of (x + 1) (by omega) (by omega)
  have ms := may_of s s1 (by omega)
  have ne : ¬ x = x + 1 := by omega
  have w1 : wrap64 (x + 1) = x + 1 := w64 _ (by omega) (by omega)
  have w2 : wrap64 (s - t) = s - t := w64 _ (by omega) (by omega)
  simp [delay_New.f, delay_Exchange_Request.f, delay_Exchange_Sent.f, delay_Answer.f, may_of, delay_Exchange_Clear.f, delay_Exchange_Response.f, stamp_Floor.f, awake_true, w1, w2, e1, e2, ms, ne]
end Go.Proofs.Ytpfjpfbhgeoadaa.Pure
