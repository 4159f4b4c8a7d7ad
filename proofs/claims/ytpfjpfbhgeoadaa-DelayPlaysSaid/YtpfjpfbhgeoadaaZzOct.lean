/- What the bytes' functions of the given program answer, in plain words: numbers put and read, the highest byte first. -/
import Derived.Test.YtpfjpfbhgeoadaaZzPx0
import Derived.Test.YtpfjpfbhgeoadaaZzPx1
import Derived.Test.YtpfjpfbhgeoadaaZzLib
import Derived.Laws.BitsAllLaws
namespace Go.Proofs.Ytpfjpfbhgeoadaa.Oct
open Go.RowKit Go.Proofs.Ytpfjpfbhgeoadaa.P Go.Proofs.Ytpfjpfbhgeoadaa.Lib Go.Proofs.YtpfjpfbhgeoadaaW.PrintWords Go.Proofs.YtpfjpfbhgeoadaaW.PrintLast Go.Proofs.YtpfjpfbhgeoadaaW.PrintMore
def has (l : List Int) (a n : Int) : Prop := 0 ≤ n ∧ 0 ≤ a ∧ a + n ≤ l.length
instance (l : List Int) (a n : Int) : Decidable (has l a n) := by unfold has; infer_instance
theorem w64 (x : Int) (h : -9223372036854775808 ≤ x) (h2 : x ≤ 9223372036854775807) : wrap64 x = x := by unfold wrap64; omega
theorem place_of (a n : Int) (hn : 0 < n) (hm : n ≤ 9223372036854775807) : carillonlaw00_Place.f a n = some (a % n) := place a n hn hm
end Go.Proofs.Ytpfjpfbhgeoadaa.Oct
