/- The last stamp, and the first one that is none; seconds and what is left of them: a closed statement. -/
import Derived.Test.YteahnnhekfkabaaPx8
namespace Go.Proofs.Yteahnnhekfkabaa.Pure
open Go.RowKit Go.Proofs.Yteahnnhekfkabaa.P Go.Proofs.YteahnnhekfkabaaW.PrintWords Go.Proofs.YteahnnhekfkabaaW.PrintLast Go.Proofs.YteahnnhekfkabaaW.PrintMore

theorem StampEnds : carillonlaw02_StampEnds.Pure := ⟨60, by decide +kernel⟩

end Go.Proofs.Yteahnnhekfkabaa.Pure
