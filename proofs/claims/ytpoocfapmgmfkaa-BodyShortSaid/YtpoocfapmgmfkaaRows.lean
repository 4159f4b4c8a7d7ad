/-
  No cell of these rows narrows 'for every input' (looked for: loops, veiled, ifaces, maps, wideKeys, modest, calm, conditions, laid).
  DERIVED. THE GIVEN ROWS OF THIS SEAT. 5 by the template 'for every input the law returns true; each argument reads behind the call as it read before'; 0 by the template 'total and deterministic' (their statements: YtpoocfapmgmfkaaTotals.lean).
  GIVEN WITH THE SEED: the statements are not yours to turn. If you find one false, say at which input.
  Laid BY PROGRAM, IN A SANDBOX (cutbox-rows.mjs): the forced cells as the released guide's own fill.sh prints them over the translation 49a054fcc86525b8… (all of the seat's roots in one cut). By AI agents, Wed Nov 11 2026. No macro, syntax, notation, axiom, sorry.
-/
import Derived.Test.YtpoocfapmgmfkaaChecked
import GoSem.Claim
import GoSem.ClaimJoined
import GoSem.ClaimMapViews
import Derived.JoinedTies
import Derived.KernelRfl
namespace Go.Proofs.Ytpoocfapmgmfkaa
/- THE CELL 'sum', in the pinned program and in every row, IS THE sha256 OF THE DUMP (.gsa) THAT YtpoocfapmgmfkaaProg.lean LOADS. Nothing in Lean hashes anything: it is a label: what it is worth is what the hold of that sum in a sandbox is worth. -/
noncomputable def Try.pinned : Pinned := { name := "ytpoocfapmgmfkaa", sum := "49a054fcc86525b8a4414ff1c49e69a8aa2d0588ae43f610068cebcc21751628", checked := Try.checked }
namespace Rows
def none {H : Type} : Left H := { results := [], args := [] }

/-- 'carillonlaw07.BodyPuts': WHATEVER THE INPUT: true; the input reads as it did. -/
def bodyPutsSpec : ChangeSpec := { name := "bodyPuts", fn := fun _ => fun
  | [d1, d2] => { results := [.lit (.bool true)], args := [d1, d2] }
  | _ => none }
def bodyPutsRow : OpenClaim := { program := "ytpoocfapmgmfkaa", sum := "49a054fcc86525b8a4414ff1c49e69a8aa2d0588ae43f610068cebcc21751628", func := "carillon/carillonlaw07.BodyPuts", spec := "bodyPuts", apart := false }
def BodyPutsSaid : Prop := bodyPutsRow.holds Try.pinned (OpenSpec.ofChange bodyPutsSpec)

/-- ITS FALSE NEIGHBOUR: 'it returns false'. Refute it at one input. -/
def bodyPutsWrong : ChangeSpec := { name := "bodyPuts", fn := fun _ => fun
  | [d1, d2] => { results := [.lit (.bool false)], args := [d1, d2] }
  | _ => none }
def BodyPutsWrongFalsely : Prop := bodyPutsRow.holds Try.pinned (OpenSpec.ofChange bodyPutsWrong)

/-- 'carillonlaw07.BodyFields': WHATEVER THE INPUT: true; the input reads as it did. -/
def bodyFieldsSpec : ChangeSpec := { name := "bodyFields", fn := fun _ => fun
  | [d1, d2] => { results := [.lit (.bool true)], args := [d1, d2] }
  | _ => none }
def bodyFieldsRow : OpenClaim := { program := "ytpoocfapmgmfkaa", sum := "49a054fcc86525b8a4414ff1c49e69a8aa2d0588ae43f610068cebcc21751628", func := "carillon/carillonlaw07.BodyFields", spec := "bodyFields", apart := false }
def BodyFieldsSaid : Prop := bodyFieldsRow.holds Try.pinned (OpenSpec.ofChange bodyFieldsSpec)

/-- ITS FALSE NEIGHBOUR: 'it returns false'. Refute it at one input. -/
def bodyFieldsWrong : ChangeSpec := { name := "bodyFields", fn := fun _ => fun
  | [d1, d2] => { results := [.lit (.bool false)], args := [d1, d2] }
  | _ => none }
def BodyFieldsWrongFalsely : Prop := bodyFieldsRow.holds Try.pinned (OpenSpec.ofChange bodyFieldsWrong)

/-- 'carillonlaw07.BodyLens': WHATEVER THE INPUT: true; the input reads as it did. -/
def bodyLensSpec : ChangeSpec := { name := "bodyLens", fn := fun _ => fun
  | [] => { results := [.lit (.bool true)], args := [] }
  | _ => none }
def bodyLensRow : OpenClaim := { program := "ytpoocfapmgmfkaa", sum := "49a054fcc86525b8a4414ff1c49e69a8aa2d0588ae43f610068cebcc21751628", func := "carillon/carillonlaw07.BodyLens", spec := "bodyLens", apart := false }
def BodyLensSaid : Prop := bodyLensRow.holds Try.pinned (OpenSpec.ofChange bodyLensSpec)

/-- ITS FALSE NEIGHBOUR: 'it returns false'. Refute it at one input. -/
def bodyLensWrong : ChangeSpec := { name := "bodyLens", fn := fun _ => fun
  | [] => { results := [.lit (.bool false)], args := [] }
  | _ => none }
def BodyLensWrongFalsely : Prop := bodyLensRow.holds Try.pinned (OpenSpec.ofChange bodyLensWrong)

/-- 'carillonlaw07.BodyBack': WHATEVER THE INPUT: true; the input reads as it did. -/
def bodyBackSpec : ChangeSpec := { name := "bodyBack", fn := fun _ => fun
  | [d1, d2] => { results := [.lit (.bool true)], args := [d1, d2] }
  | _ => none }
def bodyBackRow : OpenClaim := { program := "ytpoocfapmgmfkaa", sum := "49a054fcc86525b8a4414ff1c49e69a8aa2d0588ae43f610068cebcc21751628", func := "carillon/carillonlaw07.BodyBack", spec := "bodyBack", apart := false }
def BodyBackSaid : Prop := bodyBackRow.holds Try.pinned (OpenSpec.ofChange bodyBackSpec)

/-- ITS FALSE NEIGHBOUR: 'it returns false'. Refute it at one input. -/
def bodyBackWrong : ChangeSpec := { name := "bodyBack", fn := fun _ => fun
  | [d1, d2] => { results := [.lit (.bool false)], args := [d1, d2] }
  | _ => none }
def BodyBackWrongFalsely : Prop := bodyBackRow.holds Try.pinned (OpenSpec.ofChange bodyBackWrong)

/-- 'carillonlaw07.BodyShort': WHATEVER THE INPUT: true; the input reads as it did. -/
def bodyShortSpec : ChangeSpec := { name := "bodyShort", fn := fun _ => fun
  | [d1, d2] => { results := [.lit (.bool true)], args := [d1, d2] }
  | _ => none }
def bodyShortRow : OpenClaim := { program := "ytpoocfapmgmfkaa", sum := "49a054fcc86525b8a4414ff1c49e69a8aa2d0588ae43f610068cebcc21751628", func := "carillon/carillonlaw07.BodyShort", spec := "bodyShort", apart := false }
def BodyShortSaid : Prop := bodyShortRow.holds Try.pinned (OpenSpec.ofChange bodyShortSpec)

/-- ITS FALSE NEIGHBOUR: 'it returns false'. Refute it at one input. -/
def bodyShortWrong : ChangeSpec := { name := "bodyShort", fn := fun _ => fun
  | [d1, d2] => { results := [.lit (.bool false)], args := [d1, d2] }
  | _ => none }
def BodyShortWrongFalsely : Prop := bodyShortRow.holds Try.pinned (OpenSpec.ofChange bodyShortWrong)

/- THE SECOND FORM. 'bulk': how many values and letters a reading holds, each counted each time it is reached (what is shared counts as often as it is met; a slice's spare places count too). A statement '..UptoSaid' is the law's where the arguments, and the package variables that the reading takes, are together of bulk at most 1048576: NARROWER than '..Said'. Prove '..Said' where nothing that the law and all that it calls make is longer than what came in: it says more and counts as full. Else prove '..UptoSaid'. A law counts once. -/
mutual
def uptoBulk {H : Type} : DataW H → Nat
  | .lit (.string bytes) => bytes.length + 1
  | .lit _ => 1
  | .nil => 1
  | .ptr d => uptoBulk d + 1
  | .slice elems spare => uptoBulkAll elems + uptoBulkAll spare + 1
  | .agg parts => uptoBulkAll parts + 1
  | .iface _ d => uptoBulk d + 1
  | .map entries => uptoBulkEntries entries + 1
  | .held _ => 1
def uptoBulkAll {H : Type} : List (DataW H) → Nat
  | [] => 0
  | d :: r => uptoBulk d + uptoBulkAll r
def uptoBulkEntries {H : Type} : List (Lit × DataW H) → Nat
  | [] => 0
  | x :: r => uptoBulkEntry x + uptoBulkEntries r
def uptoBulkEntry {H : Type} : Lit × DataW H → Nat
  | (.string bytes, d) => bytes.length + uptoBulk d + 1
  | (_, d) => uptoBulk d + 1
 end
def uptoSmall : (H : Type) → List (DataW H) → Bool := fun _ ds => decide (uptoBulkAll ds ≤ 1048576)
def OpenSpec.upto (s : _root_.Go.ChangeSpec) : _root_.Go.OpenSpec := { _root_.Go.OpenSpec.ofChange s with cond := some uptoSmall }

/-- 'carillonlaw07.BodyPuts', WHERE WHAT IT READS IS OF BULK AT MOST 1048576: true; the input reads as it did. -/
def bodyPutsUptoRow : OpenClaim := { program := "ytpoocfapmgmfkaa", sum := "49a054fcc86525b8a4414ff1c49e69a8aa2d0588ae43f610068cebcc21751628", func := "carillon/carillonlaw07.BodyPuts", spec := "bodyPuts", apart := false, narrowed := true }
def BodyPutsUptoSaid : Prop := bodyPutsUptoRow.holds Try.pinned (OpenSpec.upto bodyPutsSpec)

/-- 'carillonlaw07.BodyFields', WHERE WHAT IT READS IS OF BULK AT MOST 1048576: true; the input reads as it did. -/
def bodyFieldsUptoRow : OpenClaim := { program := "ytpoocfapmgmfkaa", sum := "49a054fcc86525b8a4414ff1c49e69a8aa2d0588ae43f610068cebcc21751628", func := "carillon/carillonlaw07.BodyFields", spec := "bodyFields", apart := false, narrowed := true }
def BodyFieldsUptoSaid : Prop := bodyFieldsUptoRow.holds Try.pinned (OpenSpec.upto bodyFieldsSpec)

/-- 'carillonlaw07.BodyLens', WHERE WHAT IT READS IS OF BULK AT MOST 1048576: true; the input reads as it did. -/
def bodyLensUptoRow : OpenClaim := { program := "ytpoocfapmgmfkaa", sum := "49a054fcc86525b8a4414ff1c49e69a8aa2d0588ae43f610068cebcc21751628", func := "carillon/carillonlaw07.BodyLens", spec := "bodyLens", apart := false, narrowed := true }
def BodyLensUptoSaid : Prop := bodyLensUptoRow.holds Try.pinned (OpenSpec.upto bodyLensSpec)

/-- 'carillonlaw07.BodyBack', WHERE WHAT IT READS IS OF BULK AT MOST 1048576: true; the input reads as it did. -/
def bodyBackUptoRow : OpenClaim := { program := "ytpoocfapmgmfkaa", sum := "49a054fcc86525b8a4414ff1c49e69a8aa2d0588ae43f610068cebcc21751628", func := "carillon/carillonlaw07.BodyBack", spec := "bodyBack", apart := false, narrowed := true }
def BodyBackUptoSaid : Prop := bodyBackUptoRow.holds Try.pinned (OpenSpec.upto bodyBackSpec)

/-- 'carillonlaw07.BodyShort', WHERE WHAT IT READS IS OF BULK AT MOST 1048576: true; the input reads as it did. -/
def bodyShortUptoRow : OpenClaim := { program := "ytpoocfapmgmfkaa", sum := "49a054fcc86525b8a4414ff1c49e69a8aa2d0588ae43f610068cebcc21751628", func := "carillon/carillonlaw07.BodyShort", spec := "bodyShort", apart := false, narrowed := true }
def BodyShortUptoSaid : Prop := bodyShortUptoRow.holds Try.pinned (OpenSpec.upto bodyShortSpec)

end Rows
end Go.Proofs.Ytpoocfapmgmfkaa
