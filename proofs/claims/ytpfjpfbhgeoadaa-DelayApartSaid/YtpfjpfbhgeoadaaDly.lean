/- What the given program's exchanges answer, in plain words. -/
import Derived.Test.YtpfjpfbhgeoadaaPx0
import Derived.Test.YtpfjpfbhgeoadaaPx1
import Derived.Test.YtpfjpfbhgeoadaaPx4
import Derived.Test.YtpfjpfbhgeoadaaOct
namespace Go.Proofs.Ytpfjpfbhgeoadaa.Dly
open Go.RowKit Go.Proofs.Ytpfjpfbhgeoadaa.P Go.Proofs.Ytpfjpfbhgeoadaa.Lib Go.Proofs.Ytpfjpfbhgeoadaa.Oct Go.Proofs.YtpfjpfbhgeoadaaW.PrintWords Go.Proofs.YtpfjpfbhgeoadaaW.PrintLast Go.Proofs.YtpfjpfbhgeoadaaW.PrintMore
theorem low16 (v : Int) : Go.bits .and .i64 v 65535 = v % 65536 := by
  have h := mask_of v 2 (by omega) (by omega)
  rwa [show (256 : Int) ^ 2 = 65536 by decide +kernel] at h
theorem low16_of (v : Int) (h0 : 0 ≤ v) (h1 : v ≤ 65535) : Go.bits .and .i64 v 65535 = v := by
  rw [low16]
  omega
theorem may_of (v : Int) (h0 : 0 ≤ v) (h1 : v ≤ 4000000000000000) : stamp_May.f v = some true := by
  unfold stamp_May.f
  rw [if_pos h0, decide_eq_true h1]
theorem awake_true : carillonlaw17_awake.f = some true := by decide +kernel
end Go.Proofs.Ytpfjpfbhgeoadaa.Dly
