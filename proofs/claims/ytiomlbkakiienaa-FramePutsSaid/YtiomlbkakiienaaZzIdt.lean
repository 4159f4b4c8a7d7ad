/- What the given program's functions on ports' identities answer, in plain words. -/
import Derived.Test.YtiomlbkakiienaaZzPx0
import Derived.Test.YtiomlbkakiienaaZzPx1
import Derived.Test.YtiomlbkakiienaaZzPx2
import Derived.Test.YtiomlbkakiienaaZzPx6
import Derived.Test.YtiomlbkakiienaaZzOct
import Derived.Test.YtiomlbkakiienaaZzRef
namespace Go.Proofs.Ytiomlbkakiienaa.Idt
open Go.RowKit Go.Proofs.Ytiomlbkakiienaa.P Go.Proofs.Ytiomlbkakiienaa.Lib Go.Proofs.Ytiomlbkakiienaa.Oct Go.Proofs.Ytiomlbkakiienaa.Ref Go.Proofs.YtiomlbkakiienaaW.PrintWords Go.Proofs.YtiomlbkakiienaaW.PrintLast Go.Proofs.YtiomlbkakiienaaW.PrintMore
theorem idPut_of (l : List Int) (c p : Int) (hl : l.length ≤ 140737488355300) : ident_Put.f l c p = some (l ++ enc c 8 ++ enc p 2) := by
  unfold ident_Put.f
  rw [putId_of l c (by omega)]
  simp only [Option.bind_some]
  rw [put2 _ p (by rw [List.length_append, enc_length]; omega)]
  rfl
end Go.Proofs.Ytiomlbkakiienaa.Idt
