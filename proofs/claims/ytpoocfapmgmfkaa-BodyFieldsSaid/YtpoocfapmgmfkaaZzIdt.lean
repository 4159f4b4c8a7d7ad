/- What the given program's functions on ports' identities answer, in plain words. -/
import Derived.Test.YtpoocfapmgmfkaaZzPx0
import Derived.Test.YtpoocfapmgmfkaaZzPx1
import Derived.Test.YtpoocfapmgmfkaaZzPx3
import Derived.Test.YtpoocfapmgmfkaaZzPx5
import Derived.Test.YtpoocfapmgmfkaaZzPx6
import Derived.Test.YtpoocfapmgmfkaaZzOct
namespace Go.Proofs.Ytpoocfapmgmfkaa.Idt
open Go.RowKit Go.Proofs.Ytpoocfapmgmfkaa.P Go.Proofs.Ytpoocfapmgmfkaa.Lib Go.Proofs.Ytpoocfapmgmfkaa.Oct Go.Proofs.YtpoocfapmgmfkaaW.PrintWords Go.Proofs.YtpoocfapmgmfkaaW.PrintLast Go.Proofs.YtpoocfapmgmfkaaW.PrintMore
theorem idPut_of (l : List Int) (c p : Int) (hl : l.length ≤ 140737488355300) : ident_Put.f l c p = some (l ++ enc c 8 ++ enc p 2) := by
  unfold ident_Put.f
  rw [putId_of l c (by omega)]
  simp only [Option.bind_some]
  rw [put2 _ p (by rw [List.length_append, enc_length]; omega)]
  rfl
end Go.Proofs.Ytpoocfapmgmfkaa.Idt
