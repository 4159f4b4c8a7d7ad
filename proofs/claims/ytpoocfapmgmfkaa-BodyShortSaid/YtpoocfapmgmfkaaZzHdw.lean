/- What is told of a header's own bytes, whatever stands behind them. -/
import Derived.Test.YtpoocfapmgmfkaaZzHdr
namespace Go.Proofs.Ytpoocfapmgmfkaa.Hdr
open Go.RowKit Go.Proofs.Ytpoocfapmgmfkaa.P Go.Proofs.Ytpoocfapmgmfkaa.Lib Go.Proofs.Ytpoocfapmgmfkaa.Oct Go.Proofs.Ytpoocfapmgmfkaa.Idt Go.Proofs.Ytpoocfapmgmfkaa.Ref Go.Proofs.YtpoocfapmgmfkaaW.PrintWords Go.Proofs.YtpoocfapmgmfkaaW.PrintLast Go.Proofs.YtpoocfapmgmfkaaW.PrintMore
theorem rd_one {l : List Int} {a x : Int} (h : has l a 1) (e : cut l a 1 = [x]) : rd l a = x := by
  have h1 := rd_cut h 0 (by omega)
  rw [show a + ((0 : Nat) : Int) = a by omega] at h1
  rw [h1]
  simp [e]
end Go.Proofs.Ytpoocfapmgmfkaa.Hdr
