/-
  No cell of these rows narrows 'for every input' (looked for: loops, veiled, ifaces, maps, wideKeys, modest, calm, conditions, laid).
  DERIVED. THE GIVEN ROWS OF THIS SEAT. 6 by the template 'for every input the law returns true; each argument reads behind the call as it read before'; 0 by the template 'total and deterministic' (their statements: YtinlfcfcpolodaaTotals.lean).
  GIVEN WITH THE SEED: the statements are not yours to turn. If you find one false, say at which input.
  Laid BY PROGRAM, IN A SANDBOX (cutbox-rows.mjs): the forced cells as the released guide's own fill.sh prints them over the translation 03ee1c27adf65833… (all of the seat's roots in one cut). By AI agents, Wed Nov 11 2026. No macro, syntax, notation, axiom, sorry.
-/
import Derived.Test.YtinlfcfcpolodaaChecked
import GoSem.Claim
import GoSem.ClaimJoined
import GoSem.ClaimMapViews
import Derived.JoinedTies
import Derived.KernelRfl
namespace Go.Proofs.Ytinlfcfcpolodaa
/- THE CELL 'sum', in the pinned program and in every row, IS THE sha256 OF THE DUMP (.gsa) THAT YtinlfcfcpolodaaProg.lean LOADS. Nothing in Lean hashes anything: it is a label: what it is worth is what the hold of that sum in a sandbox is worth. -/
noncomputable def Try.pinned : Pinned := { name := "ytinlfcfcpolodaa", sum := "03ee1c27adf65833635e364d98417cd4d9975d28e1106f2d48f3f038cd28bd4e", checked := Try.checked }
namespace Rows
def none {H : Type} : Left H := { results := [], args := [] }

/-- 'carillonlaw04.IdentMacs': WHATEVER THE INPUT: true; the input reads as it did. -/
def identMacsSpec : ChangeSpec := { name := "identMacs", fn := fun _ => fun
  | [d1, d2] => { results := [.lit (.bool true)], args := [d1, d2] }
  | _ => none }
def identMacsRow : OpenClaim := { program := "ytinlfcfcpolodaa", sum := "03ee1c27adf65833635e364d98417cd4d9975d28e1106f2d48f3f038cd28bd4e", func := "carillon/carillonlaw04.IdentMacs", spec := "identMacs", unfollowed := true, recurses := true, apart := false }
def IdentMacsSaid : Prop := identMacsRow.holds Try.pinned (OpenSpec.ofChange identMacsSpec)

/-- ITS FALSE NEIGHBOUR: 'it returns false'. Refute it at one input. -/
def identMacsWrong : ChangeSpec := { name := "identMacs", fn := fun _ => fun
  | [d1, d2] => { results := [.lit (.bool false)], args := [d1, d2] }
  | _ => none }
def IdentMacsWrongFalsely : Prop := identMacsRow.holds Try.pinned (OpenSpec.ofChange identMacsWrong)

/-- 'carillonlaw04.IdentAll': WHATEVER THE INPUT: true; the input reads as it did. -/
def identAllSpec : ChangeSpec := { name := "identAll", fn := fun _ => fun
  | [d1, d2] => { results := [.lit (.bool true)], args := [d1, d2] }
  | _ => none }
def identAllRow : OpenClaim := { program := "ytinlfcfcpolodaa", sum := "03ee1c27adf65833635e364d98417cd4d9975d28e1106f2d48f3f038cd28bd4e", func := "carillon/carillonlaw04.IdentAll", spec := "identAll", apart := false }
def IdentAllSaid : Prop := identAllRow.holds Try.pinned (OpenSpec.ofChange identAllSpec)

/-- ITS FALSE NEIGHBOUR: 'it returns false'. Refute it at one input. -/
def identAllWrong : ChangeSpec := { name := "identAll", fn := fun _ => fun
  | [d1, d2] => { results := [.lit (.bool false)], args := [d1, d2] }
  | _ => none }
def IdentAllWrongFalsely : Prop := identAllRow.holds Try.pinned (OpenSpec.ofChange identAllWrong)

/-- 'carillonlaw04.IdentBytes': WHATEVER THE INPUT: true; the input reads as it did. -/
def identBytesSpec : ChangeSpec := { name := "identBytes", fn := fun _ => fun
  | [d1, d2, d3] => { results := [.lit (.bool true)], args := [d1, d2, d3] }
  | _ => none }
def identBytesRow : OpenClaim := { program := "ytinlfcfcpolodaa", sum := "03ee1c27adf65833635e364d98417cd4d9975d28e1106f2d48f3f038cd28bd4e", func := "carillon/carillonlaw04.IdentBytes", spec := "identBytes", apart := false }
def IdentBytesSaid : Prop := identBytesRow.holds Try.pinned (OpenSpec.ofChange identBytesSpec)

/-- ITS FALSE NEIGHBOUR: 'it returns false'. Refute it at one input. -/
def identBytesWrong : ChangeSpec := { name := "identBytes", fn := fun _ => fun
  | [d1, d2, d3] => { results := [.lit (.bool false)], args := [d1, d2, d3] }
  | _ => none }
def IdentBytesWrongFalsely : Prop := identBytesRow.holds Try.pinned (OpenSpec.ofChange identBytesWrong)

/-- 'carillonlaw04.IdentOne': WHATEVER THE INPUT: true; the input reads as it did. -/
def identOneSpec : ChangeSpec := { name := "identOne", fn := fun _ => fun
  | [d1, d2] => { results := [.lit (.bool true)], args := [d1, d2] }
  | _ => none }
def identOneRow : OpenClaim := { program := "ytinlfcfcpolodaa", sum := "03ee1c27adf65833635e364d98417cd4d9975d28e1106f2d48f3f038cd28bd4e", func := "carillon/carillonlaw04.IdentOne", spec := "identOne", apart := false }
def IdentOneSaid : Prop := identOneRow.holds Try.pinned (OpenSpec.ofChange identOneSpec)

/-- ITS FALSE NEIGHBOUR: 'it returns false'. Refute it at one input. -/
def identOneWrong : ChangeSpec := { name := "identOne", fn := fun _ => fun
  | [d1, d2] => { results := [.lit (.bool false)], args := [d1, d2] }
  | _ => none }
def IdentOneWrongFalsely : Prop := identOneRow.holds Try.pinned (OpenSpec.ofChange identOneWrong)

/-- 'carillonlaw04.IdentPairs': WHATEVER THE INPUT: true; the input reads as it did. -/
def identPairsSpec : ChangeSpec := { name := "identPairs", fn := fun _ => fun
  | [d1, d2] => { results := [.lit (.bool true)], args := [d1, d2] }
  | _ => none }
def identPairsRow : OpenClaim := { program := "ytinlfcfcpolodaa", sum := "03ee1c27adf65833635e364d98417cd4d9975d28e1106f2d48f3f038cd28bd4e", func := "carillon/carillonlaw04.IdentPairs", spec := "identPairs", apart := false }
def IdentPairsSaid : Prop := identPairsRow.holds Try.pinned (OpenSpec.ofChange identPairsSpec)

/-- ITS FALSE NEIGHBOUR: 'it returns false'. Refute it at one input. -/
def identPairsWrong : ChangeSpec := { name := "identPairs", fn := fun _ => fun
  | [d1, d2] => { results := [.lit (.bool false)], args := [d1, d2] }
  | _ => none }
def IdentPairsWrongFalsely : Prop := identPairsRow.holds Try.pinned (OpenSpec.ofChange identPairsWrong)

/-- 'carillonlaw04.IdentOrder': WHATEVER THE INPUT: true; the input reads as it did. -/
def identOrderSpec : ChangeSpec := { name := "identOrder", fn := fun _ => fun
  | [d1, d2, d3] => { results := [.lit (.bool true)], args := [d1, d2, d3] }
  | _ => none }
def identOrderRow : OpenClaim := { program := "ytinlfcfcpolodaa", sum := "03ee1c27adf65833635e364d98417cd4d9975d28e1106f2d48f3f038cd28bd4e", func := "carillon/carillonlaw04.IdentOrder", spec := "identOrder", apart := false }
def IdentOrderSaid : Prop := identOrderRow.holds Try.pinned (OpenSpec.ofChange identOrderSpec)

/-- ITS FALSE NEIGHBOUR: 'it returns false'. Refute it at one input. -/
def identOrderWrong : ChangeSpec := { name := "identOrder", fn := fun _ => fun
  | [d1, d2, d3] => { results := [.lit (.bool false)], args := [d1, d2, d3] }
  | _ => none }
def IdentOrderWrongFalsely : Prop := identOrderRow.holds Try.pinned (OpenSpec.ofChange identOrderWrong)

/- THE SECOND FORM. 'bulk': how many values and letters a reading holds, each counted each time it is reached (what is shared counts as often as it is met; a slice's spare places count too). A statement '..UptoSaid' is the law's where the arguments, and the package variables that the reading takes, are together of bulk at most 1048576: NARROWER than '..Said'. Prove '..Said' where nothing that the law and all that it calls make is longer than what came in: it says more and counts as full. Else prove '..UptoSaid'. A law counts once. -/
mutual
def uptoBulk {H : Type} : DataW H → Nat
  | .lit (.string bytes) => bytes.length + 1
  | .lit _ => 1
  | .nil => 1
  | .ptr d => uptoBulk d + 1
  | .slice elems spare => uptoBulkAll elems + uptoBulkAll spare + 1
  | .agg parts => uptoBulkAll parts + 1
  | .iface _ d => uptoBulk d + 1
  | .map entries => uptoBulkEntries entries + 1
  | .held _ => 1
def uptoBulkAll {H : Type} : List (DataW H) → Nat
  | [] => 0
  | d :: r => uptoBulk d + uptoBulkAll r
def uptoBulkEntries {H : Type} : List (Lit × DataW H) → Nat
  | [] => 0
  | x :: r => uptoBulkEntry x + uptoBulkEntries r
def uptoBulkEntry {H : Type} : Lit × DataW H → Nat
  | (.string bytes, d) => bytes.length + uptoBulk d + 1
  | (_, d) => uptoBulk d + 1
 end
def uptoSmall : (H : Type) → List (DataW H) → Bool := fun _ ds => decide (uptoBulkAll ds ≤ 1048576)
def OpenSpec.upto (s : _root_.Go.ChangeSpec) : _root_.Go.OpenSpec := { _root_.Go.OpenSpec.ofChange s with cond := some uptoSmall }

/-- 'carillonlaw04.IdentMacs', WHERE WHAT IT READS IS OF BULK AT MOST 1048576: true; the input reads as it did. -/
def identMacsUptoRow : OpenClaim := { program := "ytinlfcfcpolodaa", sum := "03ee1c27adf65833635e364d98417cd4d9975d28e1106f2d48f3f038cd28bd4e", func := "carillon/carillonlaw04.IdentMacs", spec := "identMacs", unfollowed := true, recurses := true, apart := false, narrowed := true }
def IdentMacsUptoSaid : Prop := identMacsUptoRow.holds Try.pinned (OpenSpec.upto identMacsSpec)

/-- 'carillonlaw04.IdentAll', WHERE WHAT IT READS IS OF BULK AT MOST 1048576: true; the input reads as it did. -/
def identAllUptoRow : OpenClaim := { program := "ytinlfcfcpolodaa", sum := "03ee1c27adf65833635e364d98417cd4d9975d28e1106f2d48f3f038cd28bd4e", func := "carillon/carillonlaw04.IdentAll", spec := "identAll", apart := false, narrowed := true }
def IdentAllUptoSaid : Prop := identAllUptoRow.holds Try.pinned (OpenSpec.upto identAllSpec)

/-- 'carillonlaw04.IdentBytes', WHERE WHAT IT READS IS OF BULK AT MOST 1048576: true; the input reads as it did. -/
def identBytesUptoRow : OpenClaim := { program := "ytinlfcfcpolodaa", sum := "03ee1c27adf65833635e364d98417cd4d9975d28e1106f2d48f3f038cd28bd4e", func := "carillon/carillonlaw04.IdentBytes", spec := "identBytes", apart := false, narrowed := true }
def IdentBytesUptoSaid : Prop := identBytesUptoRow.holds Try.pinned (OpenSpec.upto identBytesSpec)

/-- 'carillonlaw04.IdentOne', WHERE WHAT IT READS IS OF BULK AT MOST 1048576: true; the input reads as it did. -/
def identOneUptoRow : OpenClaim := { program := "ytinlfcfcpolodaa", sum := "03ee1c27adf65833635e364d98417cd4d9975d28e1106f2d48f3f038cd28bd4e", func := "carillon/carillonlaw04.IdentOne", spec := "identOne", apart := false, narrowed := true }
def IdentOneUptoSaid : Prop := identOneUptoRow.holds Try.pinned (OpenSpec.upto identOneSpec)

/-- 'carillonlaw04.IdentPairs', WHERE WHAT IT READS IS OF BULK AT MOST 1048576: true; the input reads as it did. -/
def identPairsUptoRow : OpenClaim := { program := "ytinlfcfcpolodaa", sum := "03ee1c27adf65833635e364d98417cd4d9975d28e1106f2d48f3f038cd28bd4e", func := "carillon/carillonlaw04.IdentPairs", spec := "identPairs", apart := false, narrowed := true }
def IdentPairsUptoSaid : Prop := identPairsUptoRow.holds Try.pinned (OpenSpec.upto identPairsSpec)

/-- 'carillonlaw04.IdentOrder', WHERE WHAT IT READS IS OF BULK AT MOST 1048576: true; the input reads as it did. -/
def identOrderUptoRow : OpenClaim := { program := "ytinlfcfcpolodaa", sum := "03ee1c27adf65833635e364d98417cd4d9975d28e1106f2d48f3f038cd28bd4e", func := "carillon/carillonlaw04.IdentOrder", spec := "identOrder", apart := false, narrowed := true }
def IdentOrderUptoSaid : Prop := identOrderUptoRow.holds Try.pinned (OpenSpec.upto identOrderSpec)

end Rows
end Go.Proofs.Ytinlfcfcpolodaa
