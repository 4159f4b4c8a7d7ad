/- What is told of a header's own bytes, whatever stands behind them. -/
import Derived.Test.YtiomlbkakiienaaZzHdr
namespace Go.Proofs.Ytiomlbkakiienaa.Hdr
open Go.RowKit Go.Proofs.Ytiomlbkakiienaa.P Go.Proofs.Ytiomlbkakiienaa.Lib Go.Proofs.Ytiomlbkakiienaa.Oct Go.Proofs.Ytiomlbkakiienaa.Idt Go.Proofs.Ytiomlbkakiienaa.Ref Go.Proofs.YtiomlbkakiienaaW.PrintWords Go.Proofs.YtiomlbkakiienaaW.PrintLast Go.Proofs.YtiomlbkakiienaaW.PrintMore
theorem one_cut (v : Int) : enc v 1 = [v % 256] := by simp [enc]
end Go.Proofs.Ytiomlbkakiienaa.Hdr
