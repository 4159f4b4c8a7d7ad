/- Two exchanges have nothing to do with one another: for all ports and all numbers. -/
import Derived.Test.YtpfjpfbhgeoadaaPx8
import Derived.Test.YtpfjpfbhgeoadaaDly
namespace Go.Proofs.Ytpfjpfbhgeoadaa.Pure
open Go.RowKit Go.Proofs.Ytpfjpfbhgeoadaa.P Go.Proofs.Ytpfjpfbhgeoadaa.Lib Go.Proofs.Ytpfjpfbhgeoadaa.Oct Go.Proofs.Ytpfjpfbhgeoadaa.Dly Go.Proofs.YtpfjpfbhgeoadaaW.PrintWords Go.Proofs.YtpfjpfbhgeoadaaW.PrintLast Go.Proofs.YtpfjpfbhgeoadaaW.PrintMore
theorem DelayApart : carillonlaw17_DelayApart.Pure := by
  intro a b c d n s t _ _ _ _ _ _ _
  unfold carillonlaw17_DelayApart.f
  rw [place_of n _ (by omega) (by omega), place_of t _ (by omega) (by omega), place_of s _ (by omega) (by omega)]
  have n1 := Int.emod_nonneg n (show (65536 : Int) ≠ 0 by omega)
  have n2 := Int.emod_lt_of_pos n (show (0 : Int) < 65536 by omega)
  have t1 := Int.emod_nonneg t (show (1099511627776 : Int) ≠ 0 by omega)
  have t2 := Int.emod_lt_of_pos t (show (0 : Int) < 1099511627776 by omega)
  have s1 := Int.emod_nonneg s (show (1099511627776 : Int) ≠ 0 by omega)
  have s2 := Int.emod_lt_of_pos s (show (0 : Int) < 1099511627776 by omega)
  generalize n % 65536 = x at *
  generalize t % 1099511627776 = t at *
  generalize s % 1099511627776 = s at *
  have e1 := low16_of x n1 (by omega)
  have m1 := may_of 2199023255552 (by omega) (by omega)
  have m2 := may_of 4398046511104 (by omega) (by omega)
  have w1 : wrap64 (2199023255552 - s) = 2199023255552 - s := w64 _ (by omega) (by omega)
  have w2 : wrap64 (4398046511104 - t) = 4398046511104 - t := w64 _ (by omega) (by omega)
  by_cases h : a = c ∧ b = d
  · simp [h, awake_true]
  · have h' : ¬ (c = a ∧ d = b) := fun q => h ⟨q.1.symm, q.2.symm⟩
    simp [delay_New.f, delay_Exchange_Request.f, delay_Exchange_Sent.f, delay_Answer.f, delay_Exchange_Clear.f, delay_Exchange_Response.f, stamp_Floor.f, awake_true, w1, w2, m1, m2, e1, h, h']
end Go.Proofs.Ytpfjpfbhgeoadaa.Pure
