/- Just ten types; each with its own byte of control: a closed statement. -/
import Derived.Test.YtcflafkafbpibaaPx9
namespace Go.Proofs.Ytcflafkafbpibaa.Pure
open Go.RowKit Go.Proofs.Ytcflafkafbpibaa.P Go.Proofs.YtcflafkafbpibaaW.PrintWords Go.Proofs.YtcflafkafbpibaaW.PrintLast Go.Proofs.YtcflafkafbpibaaW.PrintMore

theorem HeaderTypes : carillonlaw06_HeaderTypes.Pure := ⟨60, by decide +kernel⟩

end Go.Proofs.Ytcflafkafbpibaa.Pure
