/- What is told of a header's own bytes, whatever stands behind them. -/
import Derived.Test.YtiomlbkakiienaaZzHdr
namespace Go.Proofs.Ytiomlbkakiienaa.Hdr
open Go.RowKit Go.Proofs.Ytiomlbkakiienaa.P Go.Proofs.Ytiomlbkakiienaa.Lib Go.Proofs.Ytiomlbkakiienaa.Oct Go.Proofs.Ytiomlbkakiienaa.Idt Go.Proofs.Ytiomlbkakiienaa.Ref Go.Proofs.YtiomlbkakiienaaW.PrintWords Go.Proofs.YtiomlbkakiienaaW.PrintLast Go.Proofs.YtiomlbkakiienaaW.PrintMore
theorem rd_one {l : List Int} {a x : Int} (h : has l a 1) (e : cut l a 1 = [x]) : rd l a = x := by
  have h1 := rd_cut h 0 (by omega)
  rw [show a + ((0 : Nat) : Int) = a by omega] at h1
  rw [h1]
  simp [e]
end Go.Proofs.Ytiomlbkakiienaa.Hdr
