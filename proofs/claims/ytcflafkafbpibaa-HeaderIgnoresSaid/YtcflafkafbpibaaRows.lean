/-
  No cell of these rows narrows 'for every input' (looked for: loops, veiled, ifaces, maps, wideKeys, modest, calm, conditions, laid).
  DERIVED. THE GIVEN ROWS OF THIS SEAT. 7 by the template 'for every input the law returns true; each argument reads behind the call as it read before'; 0 by the template 'total and deterministic' (their statements: YtcflafkafbpibaaTotals.lean).
  GIVEN WITH THE SEED: the statements are not yours to turn. If you find one false, say at which input.
  Laid BY PROGRAM, IN A SANDBOX (cutbox-rows.mjs): the forced cells as the released guide's own fill.sh prints them over the translation e143e5c4785b6b94… (all of the seat's roots in one cut). By AI agents, Wed Nov 11 2026. No macro, syntax, notation, axiom, sorry.
-/
import Derived.Test.YtcflafkafbpibaaChecked
import GoSem.Claim
import GoSem.ClaimJoined
import GoSem.ClaimMapViews
import Derived.JoinedTies
import Derived.KernelRfl
namespace Go.Proofs.Ytcflafkafbpibaa
/- THE CELL 'sum', in the pinned program and in every row, IS THE sha256 OF THE DUMP (.gsa) THAT YtcflafkafbpibaaProg.lean LOADS. Nothing in Lean hashes anything: it is a label: what it is worth is what the hold of that sum in a sandbox is worth. -/
noncomputable def Try.pinned : Pinned := { name := "ytcflafkafbpibaa", sum := "e143e5c4785b6b9439b955875405368e1e7368faba6d3d354583dc121bb8cc6c", checked := Try.checked }
namespace Rows
def none {H : Type} : Left H := { results := [], args := [] }

/-- 'carillonlaw06.HeaderPuts': WHATEVER THE INPUT: true; the input reads as it did. -/
def headerPutsSpec : ChangeSpec := { name := "headerPuts", fn := fun _ => fun
  | [d1, d2] => { results := [.lit (.bool true)], args := [d1, d2] }
  | _ => none }
def headerPutsRow : OpenClaim := { program := "ytcflafkafbpibaa", sum := "e143e5c4785b6b9439b955875405368e1e7368faba6d3d354583dc121bb8cc6c", func := "carillon/carillonlaw06.HeaderPuts", spec := "headerPuts", apart := false }
def HeaderPutsSaid : Prop := headerPutsRow.holds Try.pinned (OpenSpec.ofChange headerPutsSpec)

/-- ITS FALSE NEIGHBOUR: 'it returns false'. Refute it at one input. -/
def headerPutsWrong : ChangeSpec := { name := "headerPuts", fn := fun _ => fun
  | [d1, d2] => { results := [.lit (.bool false)], args := [d1, d2] }
  | _ => none }
def HeaderPutsWrongFalsely : Prop := headerPutsRow.holds Try.pinned (OpenSpec.ofChange headerPutsWrong)

/-- 'carillonlaw06.HeaderApart': WHATEVER THE INPUT: true; the input reads as it did. -/
def headerApartSpec : ChangeSpec := { name := "headerApart", fn := fun _ => fun
  | [d1, d2] => { results := [.lit (.bool true)], args := [d1, d2] }
  | _ => none }
def headerApartRow : OpenClaim := { program := "ytcflafkafbpibaa", sum := "e143e5c4785b6b9439b955875405368e1e7368faba6d3d354583dc121bb8cc6c", func := "carillon/carillonlaw06.HeaderApart", spec := "headerApart", apart := false }
def HeaderApartSaid : Prop := headerApartRow.holds Try.pinned (OpenSpec.ofChange headerApartSpec)

/-- ITS FALSE NEIGHBOUR: 'it returns false'. Refute it at one input. -/
def headerApartWrong : ChangeSpec := { name := "headerApart", fn := fun _ => fun
  | [d1, d2] => { results := [.lit (.bool false)], args := [d1, d2] }
  | _ => none }
def HeaderApartWrongFalsely : Prop := headerApartRow.holds Try.pinned (OpenSpec.ofChange headerApartWrong)

/-- 'carillonlaw06.HeaderTypes': WHATEVER THE INPUT: true; the input reads as it did. -/
def headerTypesSpec : ChangeSpec := { name := "headerTypes", fn := fun _ => fun
  | [] => { results := [.lit (.bool true)], args := [] }
  | _ => none }
def headerTypesRow : OpenClaim := { program := "ytcflafkafbpibaa", sum := "e143e5c4785b6b9439b955875405368e1e7368faba6d3d354583dc121bb8cc6c", func := "carillon/carillonlaw06.HeaderTypes", spec := "headerTypes", apart := false }
def HeaderTypesSaid : Prop := headerTypesRow.holds Try.pinned (OpenSpec.ofChange headerTypesSpec)

/-- ITS FALSE NEIGHBOUR: 'it returns false'. Refute it at one input. -/
def headerTypesWrong : ChangeSpec := { name := "headerTypes", fn := fun _ => fun
  | [] => { results := [.lit (.bool false)], args := [] }
  | _ => none }
def HeaderTypesWrongFalsely : Prop := headerTypesRow.holds Try.pinned (OpenSpec.ofChange headerTypesWrong)

/-- 'carillonlaw06.HeaderGets': WHATEVER THE INPUT: true; the input reads as it did. -/
def headerGetsSpec : ChangeSpec := { name := "headerGets", fn := fun _ => fun
  | [d] => { results := [.lit (.bool true)], args := [d] }
  | _ => none }
def headerGetsRow : OpenClaim := { program := "ytcflafkafbpibaa", sum := "e143e5c4785b6b9439b955875405368e1e7368faba6d3d354583dc121bb8cc6c", func := "carillon/carillonlaw06.HeaderGets", spec := "headerGets", apart := false }
def HeaderGetsSaid : Prop := headerGetsRow.holds Try.pinned (OpenSpec.ofChange headerGetsSpec)

/-- ITS FALSE NEIGHBOUR: 'it returns false'. Refute it at one input. -/
def headerGetsWrong : ChangeSpec := { name := "headerGets", fn := fun _ => fun
  | [d] => { results := [.lit (.bool false)], args := [d] }
  | _ => none }
def HeaderGetsWrongFalsely : Prop := headerGetsRow.holds Try.pinned (OpenSpec.ofChange headerGetsWrong)

/-- 'carillonlaw06.HeaderBack': WHATEVER THE INPUT: true; the input reads as it did. -/
def headerBackSpec : ChangeSpec := { name := "headerBack", fn := fun _ => fun
  | [d1, d2] => { results := [.lit (.bool true)], args := [d1, d2] }
  | _ => none }
def headerBackRow : OpenClaim := { program := "ytcflafkafbpibaa", sum := "e143e5c4785b6b9439b955875405368e1e7368faba6d3d354583dc121bb8cc6c", func := "carillon/carillonlaw06.HeaderBack", spec := "headerBack", apart := false }
def HeaderBackSaid : Prop := headerBackRow.holds Try.pinned (OpenSpec.ofChange headerBackSpec)

/-- ITS FALSE NEIGHBOUR: 'it returns false'. Refute it at one input. -/
def headerBackWrong : ChangeSpec := { name := "headerBack", fn := fun _ => fun
  | [d1, d2] => { results := [.lit (.bool false)], args := [d1, d2] }
  | _ => none }
def HeaderBackWrongFalsely : Prop := headerBackRow.holds Try.pinned (OpenSpec.ofChange headerBackWrong)

/-- 'carillonlaw06.HeaderLengths': WHATEVER THE INPUT: true; the input reads as it did. -/
def headerLengthsSpec : ChangeSpec := { name := "headerLengths", fn := fun _ => fun
  | [d1, d2] => { results := [.lit (.bool true)], args := [d1, d2] }
  | _ => none }
def headerLengthsRow : OpenClaim := { program := "ytcflafkafbpibaa", sum := "e143e5c4785b6b9439b955875405368e1e7368faba6d3d354583dc121bb8cc6c", func := "carillon/carillonlaw06.HeaderLengths", spec := "headerLengths", apart := false }
def HeaderLengthsSaid : Prop := headerLengthsRow.holds Try.pinned (OpenSpec.ofChange headerLengthsSpec)

/-- ITS FALSE NEIGHBOUR: 'it returns false'. Refute it at one input. -/
def headerLengthsWrong : ChangeSpec := { name := "headerLengths", fn := fun _ => fun
  | [d1, d2] => { results := [.lit (.bool false)], args := [d1, d2] }
  | _ => none }
def HeaderLengthsWrongFalsely : Prop := headerLengthsRow.holds Try.pinned (OpenSpec.ofChange headerLengthsWrong)

/-- 'carillonlaw06.HeaderIgnores': WHATEVER THE INPUT: true; the input reads as it did. -/
def headerIgnoresSpec : ChangeSpec := { name := "headerIgnores", fn := fun _ => fun
  | [d1, d2, d3, d4, d5] => { results := [.lit (.bool true)], args := [d1, d2, d3, d4, d5] }
  | _ => none }
def headerIgnoresRow : OpenClaim := { program := "ytcflafkafbpibaa", sum := "e143e5c4785b6b9439b955875405368e1e7368faba6d3d354583dc121bb8cc6c", func := "carillon/carillonlaw06.HeaderIgnores", spec := "headerIgnores", apart := false }
def HeaderIgnoresSaid : Prop := headerIgnoresRow.holds Try.pinned (OpenSpec.ofChange headerIgnoresSpec)

/-- ITS FALSE NEIGHBOUR: 'it returns false'. Refute it at one input. -/
def headerIgnoresWrong : ChangeSpec := { name := "headerIgnores", fn := fun _ => fun
  | [d1, d2, d3, d4, d5] => { results := [.lit (.bool false)], args := [d1, d2, d3, d4, d5] }
  | _ => none }
def HeaderIgnoresWrongFalsely : Prop := headerIgnoresRow.holds Try.pinned (OpenSpec.ofChange headerIgnoresWrong)

/- THE SECOND FORM. 'bulk': how many values and letters a reading holds, each counted each time it is reached (what is shared counts as often as it is met; a slice's spare places count too). A statement '..UptoSaid' is the law's where the arguments, and the package variables that the reading takes, are together of bulk at most 1048576: NARROWER than '..Said'. Prove '..Said' where nothing that the law and all that it calls make is longer than what came in: it says more and counts as full. Else prove '..UptoSaid'. A law counts once. -/
mutual
def uptoBulk {H : Type} : DataW H → Nat
  | .lit (.string bytes) => bytes.length + 1
  | .lit _ => 1
  | .nil => 1
  | .ptr d => uptoBulk d + 1
  | .slice elems spare => uptoBulkAll elems + uptoBulkAll spare + 1
  | .agg parts => uptoBulkAll parts + 1
  | .iface _ d => uptoBulk d + 1
  | .map entries => uptoBulkEntries entries + 1
  | .held _ => 1
def uptoBulkAll {H : Type} : List (DataW H) → Nat
  | [] => 0
  | d :: r => uptoBulk d + uptoBulkAll r
def uptoBulkEntries {H : Type} : List (Lit × DataW H) → Nat
  | [] => 0
  | x :: r => uptoBulkEntry x + uptoBulkEntries r
def uptoBulkEntry {H : Type} : Lit × DataW H → Nat
  | (.string bytes, d) => bytes.length + uptoBulk d + 1
  | (_, d) => uptoBulk d + 1
 end
def uptoSmall : (H : Type) → List (DataW H) → Bool := fun _ ds => decide (uptoBulkAll ds ≤ 1048576)
def OpenSpec.upto (s : _root_.Go.ChangeSpec) : _root_.Go.OpenSpec := { _root_.Go.OpenSpec.ofChange s with cond := some uptoSmall }

/-- 'carillonlaw06.HeaderPuts', WHERE WHAT IT READS IS OF BULK AT MOST 1048576: true; the input reads as it did. -/
def headerPutsUptoRow : OpenClaim := { program := "ytcflafkafbpibaa", sum := "e143e5c4785b6b9439b955875405368e1e7368faba6d3d354583dc121bb8cc6c", func := "carillon/carillonlaw06.HeaderPuts", spec := "headerPuts", apart := false, narrowed := true }
def HeaderPutsUptoSaid : Prop := headerPutsUptoRow.holds Try.pinned (OpenSpec.upto headerPutsSpec)

/-- 'carillonlaw06.HeaderApart', WHERE WHAT IT READS IS OF BULK AT MOST 1048576: true; the input reads as it did. -/
def headerApartUptoRow : OpenClaim := { program := "ytcflafkafbpibaa", sum := "e143e5c4785b6b9439b955875405368e1e7368faba6d3d354583dc121bb8cc6c", func := "carillon/carillonlaw06.HeaderApart", spec := "headerApart", apart := false, narrowed := true }
def HeaderApartUptoSaid : Prop := headerApartUptoRow.holds Try.pinned (OpenSpec.upto headerApartSpec)

/-- 'carillonlaw06.HeaderTypes', WHERE WHAT IT READS IS OF BULK AT MOST 1048576: true; the input reads as it did. -/
def headerTypesUptoRow : OpenClaim := { program := "ytcflafkafbpibaa", sum := "e143e5c4785b6b9439b955875405368e1e7368faba6d3d354583dc121bb8cc6c", func := "carillon/carillonlaw06.HeaderTypes", spec := "headerTypes", apart := false, narrowed := true }
def HeaderTypesUptoSaid : Prop := headerTypesUptoRow.holds Try.pinned (OpenSpec.upto headerTypesSpec)

/-- 'carillonlaw06.HeaderGets', WHERE WHAT IT READS IS OF BULK AT MOST 1048576: true; the input reads as it did. -/
def headerGetsUptoRow : OpenClaim := { program := "ytcflafkafbpibaa", sum := "e143e5c4785b6b9439b955875405368e1e7368faba6d3d354583dc121bb8cc6c", func := "carillon/carillonlaw06.HeaderGets", spec := "headerGets", apart := false, narrowed := true }
def HeaderGetsUptoSaid : Prop := headerGetsUptoRow.holds Try.pinned (OpenSpec.upto headerGetsSpec)

/-- 'carillonlaw06.HeaderBack', WHERE WHAT IT READS IS OF BULK AT MOST 1048576: true; the input reads as it did. -/
def headerBackUptoRow : OpenClaim := { program := "ytcflafkafbpibaa", sum := "e143e5c4785b6b9439b955875405368e1e7368faba6d3d354583dc121bb8cc6c", func := "carillon/carillonlaw06.HeaderBack", spec := "headerBack", apart := false, narrowed := true }
def HeaderBackUptoSaid : Prop := headerBackUptoRow.holds Try.pinned (OpenSpec.upto headerBackSpec)

/-- 'carillonlaw06.HeaderLengths', WHERE WHAT IT READS IS OF BULK AT MOST 1048576: true; the input reads as it did. -/
def headerLengthsUptoRow : OpenClaim := { program := "ytcflafkafbpibaa", sum := "e143e5c4785b6b9439b955875405368e1e7368faba6d3d354583dc121bb8cc6c", func := "carillon/carillonlaw06.HeaderLengths", spec := "headerLengths", apart := false, narrowed := true }
def HeaderLengthsUptoSaid : Prop := headerLengthsUptoRow.holds Try.pinned (OpenSpec.upto headerLengthsSpec)

/-- 'carillonlaw06.HeaderIgnores', WHERE WHAT IT READS IS OF BULK AT MOST 1048576: true; the input reads as it did. -/
def headerIgnoresUptoRow : OpenClaim := { program := "ytcflafkafbpibaa", sum := "e143e5c4785b6b9439b955875405368e1e7368faba6d3d354583dc121bb8cc6c", func := "carillon/carillonlaw06.HeaderIgnores", spec := "headerIgnores", apart := false, narrowed := true }
def HeaderIgnoresUptoSaid : Prop := headerIgnoresUptoRow.holds Try.pinned (OpenSpec.upto headerIgnoresSpec)

end Rows
end Go.Proofs.Ytcflafkafbpibaa
