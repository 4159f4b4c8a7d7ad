/- As many TLVs, identities and bytes as there may be, and one more: a closed statement. -/
import Derived.Test.YtgmiokocipmbaaaZzPx3
namespace Go.Proofs.Ytgmiokocipmbaaa.Pure
open Go.RowKit Go.Proofs.Ytgmiokocipmbaaa.P Go.Proofs.YtgmiokocipmbaaaW.PrintWords Go.Proofs.YtgmiokocipmbaaaW.PrintLast Go.Proofs.YtgmiokocipmbaaaW.PrintMore
theorem TlvLimits : carillonlaw08_TlvLimits.Pure := ⟨60, by decide +kernel⟩
end Go.Proofs.Ytgmiokocipmbaaa.Pure
