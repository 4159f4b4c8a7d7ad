/-
  No cell of these rows narrows 'for every input' (looked for: loops, veiled, ifaces, maps, wideKeys, modest, calm, conditions, laid).
  DERIVED. THE GIVEN ROWS OF THIS SEAT. 6 by the template 'for every input the law returns true; each argument reads behind the call as it read before'; 0 by the template 'total and deterministic' (their statements: YthdigeknonamaaaTotals.lean).
  GIVEN WITH THE SEED: the statements are not yours to turn. If you find one false, say at which input.
  Laid BY PROGRAM, IN A SANDBOX (cutbox-rows.mjs): the forced cells as the released guide's own fill.sh prints them over the translation 1319cd8d7e1e8b1d… (all of the seat's roots in one cut). By AI agents, Wed Nov 11 2026. No macro, syntax, notation, axiom, sorry.
-/
import Derived.Test.YthdigeknonamaaaChecked
import GoSem.Claim
import GoSem.ClaimJoined
import GoSem.ClaimMapViews
import Derived.JoinedTies
import Derived.KernelRfl
namespace Go.Proofs.Ythdigeknonamaaa
/- THE CELL 'sum', in the pinned program and in every row, IS THE sha256 OF THE DUMP (.gsa) THAT YthdigeknonamaaaProg.lean LOADS. Nothing in Lean hashes anything: it is a label: what it is worth is what the hold of that sum in a sandbox is worth. -/
noncomputable def Try.pinned : Pinned := { name := "ythdigeknonamaaa", sum := "1319cd8d7e1e8b1d1cf011a4854eac2b0def35c89df1f5ac4eadce0b1bde258f", checked := Try.checked }
namespace Rows
def none {H : Type} : Left H := { results := [], args := [] }

/-- 'carillonlaw01.OctetsOrder': WHATEVER THE INPUT: true; the input reads as it did. -/
def octetsOrderSpec : ChangeSpec := { name := "octetsOrder", fn := fun _ => fun
  | [d1, d2, d3] => { results := [.lit (.bool true)], args := [d1, d2, d3] }
  | _ => none }
def octetsOrderRow : OpenClaim := { program := "ythdigeknonamaaa", sum := "1319cd8d7e1e8b1d1cf011a4854eac2b0def35c89df1f5ac4eadce0b1bde258f", func := "carillon/carillonlaw01.OctetsOrder", spec := "octetsOrder", apart := false }
def OctetsOrderSaid : Prop := octetsOrderRow.holds Try.pinned (OpenSpec.ofChange octetsOrderSpec)

/-- ITS FALSE NEIGHBOUR: 'it returns false'. Refute it at one input. -/
def octetsOrderWrong : ChangeSpec := { name := "octetsOrder", fn := fun _ => fun
  | [d1, d2, d3] => { results := [.lit (.bool false)], args := [d1, d2, d3] }
  | _ => none }
def OctetsOrderWrongFalsely : Prop := octetsOrderRow.holds Try.pinned (OpenSpec.ofChange octetsOrderWrong)

/-- 'carillonlaw01.OctetsSigns': WHATEVER THE INPUT: true; the input reads as it did. -/
def octetsSignsSpec : ChangeSpec := { name := "octetsSigns", fn := fun _ => fun
  | [d1, d2] => { results := [.lit (.bool true)], args := [d1, d2] }
  | _ => none }
def octetsSignsRow : OpenClaim := { program := "ythdigeknonamaaa", sum := "1319cd8d7e1e8b1d1cf011a4854eac2b0def35c89df1f5ac4eadce0b1bde258f", func := "carillon/carillonlaw01.OctetsSigns", spec := "octetsSigns", apart := false }
def OctetsSignsSaid : Prop := octetsSignsRow.holds Try.pinned (OpenSpec.ofChange octetsSignsSpec)

/-- ITS FALSE NEIGHBOUR: 'it returns false'. Refute it at one input. -/
def octetsSignsWrong : ChangeSpec := { name := "octetsSigns", fn := fun _ => fun
  | [d1, d2] => { results := [.lit (.bool false)], args := [d1, d2] }
  | _ => none }
def OctetsSignsWrongFalsely : Prop := octetsSignsRow.holds Try.pinned (OpenSpec.ofChange octetsSignsWrong)

/-- 'carillonlaw01.OctetsPuts': WHATEVER THE INPUT: true; the input reads as it did. -/
def octetsPutsSpec : ChangeSpec := { name := "octetsPuts", fn := fun _ => fun
  | [d1, d2, d3, d4] => { results := [.lit (.bool true)], args := [d1, d2, d3, d4] }
  | _ => none }
def octetsPutsRow : OpenClaim := { program := "ythdigeknonamaaa", sum := "1319cd8d7e1e8b1d1cf011a4854eac2b0def35c89df1f5ac4eadce0b1bde258f", func := "carillon/carillonlaw01.OctetsPuts", spec := "octetsPuts", apart := false }
def OctetsPutsSaid : Prop := octetsPutsRow.holds Try.pinned (OpenSpec.ofChange octetsPutsSpec)

/-- ITS FALSE NEIGHBOUR: 'it returns false'. Refute it at one input. -/
def octetsPutsWrong : ChangeSpec := { name := "octetsPuts", fn := fun _ => fun
  | [d1, d2, d3, d4] => { results := [.lit (.bool false)], args := [d1, d2, d3, d4] }
  | _ => none }
def OctetsPutsWrongFalsely : Prop := octetsPutsRow.holds Try.pinned (OpenSpec.ofChange octetsPutsWrong)

/-- 'carillonlaw01.OctetsMany': WHATEVER THE INPUT: true; the input reads as it did. -/
def octetsManySpec : ChangeSpec := { name := "octetsMany", fn := fun _ => fun
  | [d1, d2] => { results := [.lit (.bool true)], args := [d1, d2] }
  | _ => none }
def octetsManyRow : OpenClaim := { program := "ythdigeknonamaaa", sum := "1319cd8d7e1e8b1d1cf011a4854eac2b0def35c89df1f5ac4eadce0b1bde258f", func := "carillon/carillonlaw01.OctetsMany", spec := "octetsMany", apart := false }
def OctetsManySaid : Prop := octetsManyRow.holds Try.pinned (OpenSpec.ofChange octetsManySpec)

/-- ITS FALSE NEIGHBOUR: 'it returns false'. Refute it at one input. -/
def octetsManyWrong : ChangeSpec := { name := "octetsMany", fn := fun _ => fun
  | [d1, d2] => { results := [.lit (.bool false)], args := [d1, d2] }
  | _ => none }
def OctetsManyWrongFalsely : Prop := octetsManyRow.holds Try.pinned (OpenSpec.ofChange octetsManyWrong)

/-- 'carillonlaw01.OctetsBack': WHATEVER THE INPUT: true; the input reads as it did. -/
def octetsBackSpec : ChangeSpec := { name := "octetsBack", fn := fun _ => fun
  | [d1, d2, d3] => { results := [.lit (.bool true)], args := [d1, d2, d3] }
  | _ => none }
def octetsBackRow : OpenClaim := { program := "ythdigeknonamaaa", sum := "1319cd8d7e1e8b1d1cf011a4854eac2b0def35c89df1f5ac4eadce0b1bde258f", func := "carillon/carillonlaw01.OctetsBack", spec := "octetsBack", apart := false }
def OctetsBackSaid : Prop := octetsBackRow.holds Try.pinned (OpenSpec.ofChange octetsBackSpec)

/-- ITS FALSE NEIGHBOUR: 'it returns false'. Refute it at one input. -/
def octetsBackWrong : ChangeSpec := { name := "octetsBack", fn := fun _ => fun
  | [d1, d2, d3] => { results := [.lit (.bool false)], args := [d1, d2, d3] }
  | _ => none }
def OctetsBackWrongFalsely : Prop := octetsBackRow.holds Try.pinned (OpenSpec.ofChange octetsBackWrong)

/-- 'carillonlaw01.OctetsZeros': WHATEVER THE INPUT: true; the input reads as it did. -/
def octetsZerosSpec : ChangeSpec := { name := "octetsZeros", fn := fun _ => fun
  | [d1, d2, d3] => { results := [.lit (.bool true)], args := [d1, d2, d3] }
  | _ => none }
def octetsZerosRow : OpenClaim := { program := "ythdigeknonamaaa", sum := "1319cd8d7e1e8b1d1cf011a4854eac2b0def35c89df1f5ac4eadce0b1bde258f", func := "carillon/carillonlaw01.OctetsZeros", spec := "octetsZeros", apart := false }
def OctetsZerosSaid : Prop := octetsZerosRow.holds Try.pinned (OpenSpec.ofChange octetsZerosSpec)

/-- ITS FALSE NEIGHBOUR: 'it returns false'. Refute it at one input. -/
def octetsZerosWrong : ChangeSpec := { name := "octetsZeros", fn := fun _ => fun
  | [d1, d2, d3] => { results := [.lit (.bool false)], args := [d1, d2, d3] }
  | _ => none }
def OctetsZerosWrongFalsely : Prop := octetsZerosRow.holds Try.pinned (OpenSpec.ofChange octetsZerosWrong)

/- THE SECOND FORM. 'bulk': how many values and letters a reading holds, each counted each time it is reached (what is shared counts as often as it is met; a slice's spare places count too). A statement '..UptoSaid' is the law's where the arguments, and the package variables that the reading takes, are together of bulk at most 1048576: NARROWER than '..Said'. Prove '..Said' where nothing that the law and all that it calls make is longer than what came in: it says more and counts as full. Else prove '..UptoSaid'. A law counts once. -/
mutual
def uptoBulk {H : Type} : DataW H → Nat
  | .lit (.string bytes) => bytes.length + 1
  | .lit _ => 1
  | .nil => 1
  | .ptr d => uptoBulk d + 1
  | .slice elems spare => uptoBulkAll elems + uptoBulkAll spare + 1
  | .agg parts => uptoBulkAll parts + 1
  | .iface _ d => uptoBulk d + 1
  | .map entries => uptoBulkEntries entries + 1
  | .held _ => 1
def uptoBulkAll {H : Type} : List (DataW H) → Nat
  | [] => 0
  | d :: r => uptoBulk d + uptoBulkAll r
def uptoBulkEntries {H : Type} : List (Lit × DataW H) → Nat
  | [] => 0
  | x :: r => uptoBulkEntry x + uptoBulkEntries r
def uptoBulkEntry {H : Type} : Lit × DataW H → Nat
  | (.string bytes, d) => bytes.length + uptoBulk d + 1
  | (_, d) => uptoBulk d + 1
 end
def uptoSmall : (H : Type) → List (DataW H) → Bool := fun _ ds => decide (uptoBulkAll ds ≤ 1048576)
def OpenSpec.upto (s : _root_.Go.ChangeSpec) : _root_.Go.OpenSpec := { _root_.Go.OpenSpec.ofChange s with cond := some uptoSmall }

/-- 'carillonlaw01.OctetsOrder', WHERE WHAT IT READS IS OF BULK AT MOST 1048576: true; the input reads as it did. -/
def octetsOrderUptoRow : OpenClaim := { program := "ythdigeknonamaaa", sum := "1319cd8d7e1e8b1d1cf011a4854eac2b0def35c89df1f5ac4eadce0b1bde258f", func := "carillon/carillonlaw01.OctetsOrder", spec := "octetsOrder", apart := false, narrowed := true }
def OctetsOrderUptoSaid : Prop := octetsOrderUptoRow.holds Try.pinned (OpenSpec.upto octetsOrderSpec)

/-- 'carillonlaw01.OctetsSigns', WHERE WHAT IT READS IS OF BULK AT MOST 1048576: true; the input reads as it did. -/
def octetsSignsUptoRow : OpenClaim := { program := "ythdigeknonamaaa", sum := "1319cd8d7e1e8b1d1cf011a4854eac2b0def35c89df1f5ac4eadce0b1bde258f", func := "carillon/carillonlaw01.OctetsSigns", spec := "octetsSigns", apart := false, narrowed := true }
def OctetsSignsUptoSaid : Prop := octetsSignsUptoRow.holds Try.pinned (OpenSpec.upto octetsSignsSpec)

/-- 'carillonlaw01.OctetsPuts', WHERE WHAT IT READS IS OF BULK AT MOST 1048576: true; the input reads as it did. -/
def octetsPutsUptoRow : OpenClaim := { program := "ythdigeknonamaaa", sum := "1319cd8d7e1e8b1d1cf011a4854eac2b0def35c89df1f5ac4eadce0b1bde258f", func := "carillon/carillonlaw01.OctetsPuts", spec := "octetsPuts", apart := false, narrowed := true }
def OctetsPutsUptoSaid : Prop := octetsPutsUptoRow.holds Try.pinned (OpenSpec.upto octetsPutsSpec)

/-- 'carillonlaw01.OctetsMany', WHERE WHAT IT READS IS OF BULK AT MOST 1048576: true; the input reads as it did. -/
def octetsManyUptoRow : OpenClaim := { program := "ythdigeknonamaaa", sum := "1319cd8d7e1e8b1d1cf011a4854eac2b0def35c89df1f5ac4eadce0b1bde258f", func := "carillon/carillonlaw01.OctetsMany", spec := "octetsMany", apart := false, narrowed := true }
def OctetsManyUptoSaid : Prop := octetsManyUptoRow.holds Try.pinned (OpenSpec.upto octetsManySpec)

/-- 'carillonlaw01.OctetsBack', WHERE WHAT IT READS IS OF BULK AT MOST 1048576: true; the input reads as it did. -/
def octetsBackUptoRow : OpenClaim := { program := "ythdigeknonamaaa", sum := "1319cd8d7e1e8b1d1cf011a4854eac2b0def35c89df1f5ac4eadce0b1bde258f", func := "carillon/carillonlaw01.OctetsBack", spec := "octetsBack", apart := false, narrowed := true }
def OctetsBackUptoSaid : Prop := octetsBackUptoRow.holds Try.pinned (OpenSpec.upto octetsBackSpec)

/-- 'carillonlaw01.OctetsZeros', WHERE WHAT IT READS IS OF BULK AT MOST 1048576: true; the input reads as it did. -/
def octetsZerosUptoRow : OpenClaim := { program := "ythdigeknonamaaa", sum := "1319cd8d7e1e8b1d1cf011a4854eac2b0def35c89df1f5ac4eadce0b1bde258f", func := "carillon/carillonlaw01.OctetsZeros", spec := "octetsZeros", apart := false, narrowed := true }
def OctetsZerosUptoSaid : Prop := octetsZerosUptoRow.holds Try.pinned (OpenSpec.upto octetsZerosSpec)

end Rows
end Go.Proofs.Ythdigeknonamaaa
