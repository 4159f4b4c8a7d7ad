/- All intervals there are; those beyond are the last ones: a closed statement. -/
import Derived.Test.YteahnnhekfkabaaPx2
import Derived.Test.YteahnnhekfkabaaLib
namespace Go.Proofs.Yteahnnhekfkabaa.Pure
open Go.RowKit Go.Proofs.Yteahnnhekfkabaa.P Go.Proofs.YteahnnhekfkabaaW.PrintWords Go.Proofs.YteahnnhekfkabaaW.PrintLast Go.Proofs.Yteahnnhekfkabaa.Lib


theorem StampTable : carillonlaw02_StampTable.Pure := ⟨12, by decide +kernel⟩

end Go.Proofs.Yteahnnhekfkabaa.Pure
