/- Each part of a quality just where its limits are: a closed statement. -/
import Derived.Test.YtmfahcabdkajnaaZzPx2
namespace Go.Proofs.Ytmfahcabdkajnaa.Pure
open Go.RowKit Go.Proofs.Ytmfahcabdkajnaa.P Go.Proofs.YtmfahcabdkajnaaW.PrintWords Go.Proofs.YtmfahcabdkajnaaW.PrintLast Go.Proofs.YtmfahcabdkajnaaW.PrintMore
theorem QualityLimits : carillonlaw05_QualityLimits.Pure := ⟨60, by decide +kernel⟩
end Go.Proofs.Ytmfahcabdkajnaa.Pure
