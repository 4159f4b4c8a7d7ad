/- Functions and loops of the given program as Lean functions, and that the code comes to what they say: written by this session's own program; Lean checks it. -/
import Derived.Test.YtpoocfapmgmfkaaProg
import Derived.Below
import Derived.Deep.Draws
import Derived.Deep.AppendLies
import Derived.Maps.AppendAt
import Derived.OwnWalk
import Derived.Laws.BytesArg
import Derived.Laws.MakeOwn
import Derived.Laws.OwnMore
import Derived.Deep.OwnRows
import Derived.Tactics
import Derived.Lib.ConvBytes
import Derived.Laws.Slices
import Derived.WalkKit
import Derived.KernelRfl
import Derived.RowKit3
import Derived.Deep.LoopGhost
import Derived.Deep.QuietTactic
import Derived.BigQuiet
import Derived.WideLaws
import Derived.Deep.DeepCutAuto
import Derived.Deep.CutBlock
import Derived.Deep.RegionHeld3
import Derived.Laws.Rows
import Derived.Lib.AppendStr
import Derived.ArgAppend
import Derived.Laws.IdiomCopy
import Derived.OrdersHeld
import Derived.Laws.BitsLemmas
import Derived.RowKit
import Derived.WalkMore
import Derived.ScopeJumps
import Derived.Test.YtpoocfapmgmfkaaZzOwnB
import Derived.Test.YtpoocfapmgmfkaaZzWWords
import Derived.Test.YtpoocfapmgmfkaaZzWLast
import Derived.Test.YtpoocfapmgmfkaaZzWTab
import Derived.Test.YtpoocfapmgmfkaaZzWApart
import Derived.Test.YtpoocfapmgmfkaaZzWFoot
import Derived.Test.YtpoocfapmgmfkaaZzWKept
import Derived.Test.YtpoocfapmgmfkaaZzWShare
import Derived.Test.YtpoocfapmgmfkaaZzWN
import Derived.Laws.StructEq
import Derived.Test.YtpoocfapmgmfkaaZzWRepsOne
import Derived.Test.YtpoocfapmgmfkaaZzWInv
import Derived.Test.YtpoocfapmgmfkaaZzWGuard
import Derived.Test.YtpoocfapmgmfkaaZzWMore
namespace Go.Proofs.Ytpoocfapmgmfkaa.P
open Go.RowKit Go.Proofs.YtpoocfapmgmfkaaW.PrintWords Go.Proofs.YtpoocfapmgmfkaaW.PrintLast Go.Proofs.YtpoocfapmgmfkaaW.PrintMore
attribute [local go_sem] max2_int min2_int max_two min_two max_three min_three max_four min_four   -- for this text's walks alone
set_option linter.unusedVariables false
set_option linter.unusedSimpArgs false
def errW : Option Int → Value
  | none => .nilIface
  | some c => .iface 0 (.int .i64 c)
theorem errW_none : errW none = .nilIface := rfl
theorem errW_some (c : Int) : errW (some c) = .iface 0 (.int .i64 c) := rfl
theorem info5 : (Try.prog.info? 5).map (fun i => (i.zero, i.size, i.bytes)) = some (some (.int .u8 0), 1, 1) := by kernel_rfl
-- the values' own types
/-! #### struct type 25 -/
structure S25 where
  f0 : Int
  f1 : Int
/-! #### struct type 27 -/
structure S27 where
  f0 : Int
  f1 : Int
  f2 : Int
/-! #### struct type 29 -/
structure S29 where
  f0 : Int
  f1 : Int
  f2 : Int
  f3 : Int
  f4 : S25
  f5 : Int
  f6 : Int
  f7 : Int
  f8 : S25
  f9 : Int
  f10 : Int
  f11 : S27
  f12 : Int
  f13 : Int
  f14 : Int
  f15 : Int
  f16 : Int
  f17 : Int
  f18 : Int
end Go.Proofs.Ytpoocfapmgmfkaa.P
