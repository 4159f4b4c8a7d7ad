/- Cleared, no answer counts: for every port and every number. -/
import Derived.Test.YtpfjpfbhgeoadaaPx7
import Derived.Test.YtpfjpfbhgeoadaaDly
namespace Go.Proofs.Ytpfjpfbhgeoadaa.Pure
open Go.RowKit Go.Proofs.Ytpfjpfbhgeoadaa.P Go.Proofs.Ytpfjpfbhgeoadaa.Lib Go.Proofs.Ytpfjpfbhgeoadaa.Oct Go.Proofs.Ytpfjpfbhgeoadaa.Dly Go.Proofs.YtpfjpfbhgeoadaaW.PrintWords Go.Proofs.YtpfjpfbhgeoadaaW.PrintLast Go.Proofs.YtpfjpfbhgeoadaaW.PrintMore
theorem DelayClears : carillonlaw17_DelayClears.Pure := by
  intro a b n _ _ _
  unfold carillonlaw17_DelayClears.f
  simp [delay_New.f, delay_Exchange_Request.f, delay_Exchange_Sent.f, delay_Answer.f, may_of, delay_Exchange_Clear.f, delay_Exchange_Response.f, awake_true]
end Go.Proofs.Ytpfjpfbhgeoadaa.Pure
