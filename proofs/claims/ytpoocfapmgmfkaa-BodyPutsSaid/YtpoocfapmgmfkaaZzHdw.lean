/- What is told of a header's own bytes, whatever stands behind them. -/
import Derived.Test.YtpoocfapmgmfkaaZzHdr
namespace Go.Proofs.Ytpoocfapmgmfkaa.Hdr
open Go.RowKit Go.Proofs.Ytpoocfapmgmfkaa.P Go.Proofs.Ytpoocfapmgmfkaa.Lib Go.Proofs.Ytpoocfapmgmfkaa.Oct Go.Proofs.Ytpoocfapmgmfkaa.Idt Go.Proofs.Ytpoocfapmgmfkaa.Ref Go.Proofs.YtpoocfapmgmfkaaW.PrintWords Go.Proofs.YtpoocfapmgmfkaaW.PrintLast Go.Proofs.YtpoocfapmgmfkaaW.PrintMore
theorem one_cut (v : Int) : enc v 1 = [v % 256] := by simp [enc]
end Go.Proofs.Ytpoocfapmgmfkaa.Hdr
