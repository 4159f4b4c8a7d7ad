/- What the given program's exchanges answer, in plain words. -/
import Derived.Test.YtpfjpfbhgeoadaaZzPx0
import Derived.Test.YtpfjpfbhgeoadaaZzPx1
import Derived.Test.YtpfjpfbhgeoadaaZzPx4
import Derived.Test.YtpfjpfbhgeoadaaZzOct
namespace Go.Proofs.Ytpfjpfbhgeoadaa.Dly
open Go.RowKit Go.Proofs.Ytpfjpfbhgeoadaa.P Go.Proofs.Ytpfjpfbhgeoadaa.Lib Go.Proofs.Ytpfjpfbhgeoadaa.Oct Go.Proofs.YtpfjpfbhgeoadaaW.PrintWords Go.Proofs.YtpfjpfbhgeoadaaW.PrintLast Go.Proofs.YtpfjpfbhgeoadaaW.PrintMore
theorem awake_true : carillonlaw17_awake.f = some true := by decide +kernel
end Go.Proofs.Ytpfjpfbhgeoadaa.Dly
