/-
  No cell of these rows narrows 'for every input' (looked for: loops, veiled, ifaces, maps, wideKeys, modest, calm, conditions, laid).
  DERIVED. THE GIVEN ROWS OF THIS SEAT. 9 by the template 'for every input the law returns true; each argument reads behind the call as it read before'; 0 by the template 'total and deterministic' (their statements: YteahnnhekfkabaaTotals.lean).
  GIVEN WITH THE SEED: the statements are not yours to turn. If you find one false, say at which input.
  Laid BY PROGRAM, IN A SANDBOX (cutbox-rows.mjs): the forced cells as the released guide's own fill.sh prints them over the translation a3ca1ea1828f89bf… (all of the seat's roots in one cut). By AI agents, Wed Nov 11 2026. No macro, syntax, notation, axiom, sorry.
-/
import Derived.Test.YteahnnhekfkabaaChecked
import GoSem.Claim
import GoSem.ClaimJoined
import GoSem.ClaimMapViews
import Derived.JoinedTies
import Derived.KernelRfl
namespace Go.Proofs.Yteahnnhekfkabaa
/- THE CELL 'sum', in the pinned program and in every row, IS THE sha256 OF THE DUMP (.gsa) THAT YteahnnhekfkabaaProg.lean LOADS. Nothing in Lean hashes anything: it is a label: what it is worth is what the hold of that sum in a sandbox is worth. -/
noncomputable def Try.pinned : Pinned := { name := "yteahnnhekfkabaa", sum := "a3ca1ea1828f89bf5a6a693d1f7da06689061d3e316db5adb7382f51bd095da7", checked := Try.checked }
namespace Rows
def none {H : Type} : Left H := { results := [], args := [] }

/-- 'carillonlaw02.StampFloors': WHATEVER THE INPUT: true; the input reads as it did. -/
def stampFloorsSpec : ChangeSpec := { name := "stampFloors", fn := fun _ => fun
  | [d] => { results := [.lit (.bool true)], args := [d] }
  | _ => none }
def stampFloorsRow : OpenClaim := { program := "yteahnnhekfkabaa", sum := "a3ca1ea1828f89bf5a6a693d1f7da06689061d3e316db5adb7382f51bd095da7", func := "carillon/carillonlaw02.StampFloors", spec := "stampFloors", apart := false }
def StampFloorsSaid : Prop := stampFloorsRow.holds Try.pinned (OpenSpec.ofChange stampFloorsSpec)

/-- ITS FALSE NEIGHBOUR: 'it returns false'. Refute it at one input. -/
def stampFloorsWrong : ChangeSpec := { name := "stampFloors", fn := fun _ => fun
  | [d] => { results := [.lit (.bool false)], args := [d] }
  | _ => none }
def StampFloorsWrongFalsely : Prop := stampFloorsRow.holds Try.pinned (OpenSpec.ofChange stampFloorsWrong)

/-- 'carillonlaw02.StampTwice': WHATEVER THE INPUT: true; the input reads as it did. -/
def stampTwiceSpec : ChangeSpec := { name := "stampTwice", fn := fun _ => fun
  | [d] => { results := [.lit (.bool true)], args := [d] }
  | _ => none }
def stampTwiceRow : OpenClaim := { program := "yteahnnhekfkabaa", sum := "a3ca1ea1828f89bf5a6a693d1f7da06689061d3e316db5adb7382f51bd095da7", func := "carillon/carillonlaw02.StampTwice", spec := "stampTwice", apart := false }
def StampTwiceSaid : Prop := stampTwiceRow.holds Try.pinned (OpenSpec.ofChange stampTwiceSpec)

/-- ITS FALSE NEIGHBOUR: 'it returns false'. Refute it at one input. -/
def stampTwiceWrong : ChangeSpec := { name := "stampTwice", fn := fun _ => fun
  | [d] => { results := [.lit (.bool false)], args := [d] }
  | _ => none }
def StampTwiceWrongFalsely : Prop := stampTwiceRow.holds Try.pinned (OpenSpec.ofChange stampTwiceWrong)

/-- 'carillonlaw02.StampTable': WHATEVER THE INPUT: true; the input reads as it did. -/
def stampTableSpec : ChangeSpec := { name := "stampTable", fn := fun _ => fun
  | [] => { results := [.lit (.bool true)], args := [] }
  | _ => none }
def stampTableRow : OpenClaim := { program := "yteahnnhekfkabaa", sum := "a3ca1ea1828f89bf5a6a693d1f7da06689061d3e316db5adb7382f51bd095da7", func := "carillon/carillonlaw02.StampTable", spec := "stampTable", apart := false }
def StampTableSaid : Prop := stampTableRow.holds Try.pinned (OpenSpec.ofChange stampTableSpec)

/-- ITS FALSE NEIGHBOUR: 'it returns false'. Refute it at one input. -/
def stampTableWrong : ChangeSpec := { name := "stampTable", fn := fun _ => fun
  | [] => { results := [.lit (.bool false)], args := [] }
  | _ => none }
def StampTableWrongFalsely : Prop := stampTableRow.holds Try.pinned (OpenSpec.ofChange stampTableWrong)

/-- 'carillonlaw02.StampNumbers': WHATEVER THE INPUT: true; the input reads as it did. -/
def stampNumbersSpec : ChangeSpec := { name := "stampNumbers", fn := fun _ => fun
  | [d1, d2] => { results := [.lit (.bool true)], args := [d1, d2] }
  | _ => none }
def stampNumbersRow : OpenClaim := { program := "yteahnnhekfkabaa", sum := "a3ca1ea1828f89bf5a6a693d1f7da06689061d3e316db5adb7382f51bd095da7", func := "carillon/carillonlaw02.StampNumbers", spec := "stampNumbers", apart := false }
def StampNumbersSaid : Prop := stampNumbersRow.holds Try.pinned (OpenSpec.ofChange stampNumbersSpec)

/-- ITS FALSE NEIGHBOUR: 'it returns false'. Refute it at one input. -/
def stampNumbersWrong : ChangeSpec := { name := "stampNumbers", fn := fun _ => fun
  | [d1, d2] => { results := [.lit (.bool false)], args := [d1, d2] }
  | _ => none }
def StampNumbersWrongFalsely : Prop := stampNumbersRow.holds Try.pinned (OpenSpec.ofChange stampNumbersWrong)

/-- 'carillonlaw02.StampSums': WHATEVER THE INPUT: true; the input reads as it did. -/
def stampSumsSpec : ChangeSpec := { name := "stampSums", fn := fun _ => fun
  | [d1, d2] => { results := [.lit (.bool true)], args := [d1, d2] }
  | _ => none }
def stampSumsRow : OpenClaim := { program := "yteahnnhekfkabaa", sum := "a3ca1ea1828f89bf5a6a693d1f7da06689061d3e316db5adb7382f51bd095da7", func := "carillon/carillonlaw02.StampSums", spec := "stampSums", apart := false }
def StampSumsSaid : Prop := stampSumsRow.holds Try.pinned (OpenSpec.ofChange stampSumsSpec)

/-- ITS FALSE NEIGHBOUR: 'it returns false'. Refute it at one input. -/
def stampSumsWrong : ChangeSpec := { name := "stampSums", fn := fun _ => fun
  | [d1, d2] => { results := [.lit (.bool false)], args := [d1, d2] }
  | _ => none }
def StampSumsWrongFalsely : Prop := stampSumsRow.holds Try.pinned (OpenSpec.ofChange stampSumsWrong)

/-- 'carillonlaw02.StampSeconds': WHATEVER THE INPUT: true; the input reads as it did. -/
def stampSecondsSpec : ChangeSpec := { name := "stampSeconds", fn := fun _ => fun
  | [d1, d2] => { results := [.lit (.bool true)], args := [d1, d2] }
  | _ => none }
def stampSecondsRow : OpenClaim := { program := "yteahnnhekfkabaa", sum := "a3ca1ea1828f89bf5a6a693d1f7da06689061d3e316db5adb7382f51bd095da7", func := "carillon/carillonlaw02.StampSeconds", spec := "stampSeconds", apart := false }
def StampSecondsSaid : Prop := stampSecondsRow.holds Try.pinned (OpenSpec.ofChange stampSecondsSpec)

/-- ITS FALSE NEIGHBOUR: 'it returns false'. Refute it at one input. -/
def stampSecondsWrong : ChangeSpec := { name := "stampSeconds", fn := fun _ => fun
  | [d1, d2] => { results := [.lit (.bool false)], args := [d1, d2] }
  | _ => none }
def StampSecondsWrongFalsely : Prop := stampSecondsRow.holds Try.pinned (OpenSpec.ofChange stampSecondsWrong)

/-- 'carillonlaw02.StampBytes': WHATEVER THE INPUT: true; the input reads as it did. -/
def stampBytesSpec : ChangeSpec := { name := "stampBytes", fn := fun _ => fun
  | [d1, d2, d3] => { results := [.lit (.bool true)], args := [d1, d2, d3] }
  | _ => none }
def stampBytesRow : OpenClaim := { program := "yteahnnhekfkabaa", sum := "a3ca1ea1828f89bf5a6a693d1f7da06689061d3e316db5adb7382f51bd095da7", func := "carillon/carillonlaw02.StampBytes", spec := "stampBytes", apart := false }
def StampBytesSaid : Prop := stampBytesRow.holds Try.pinned (OpenSpec.ofChange stampBytesSpec)

/-- ITS FALSE NEIGHBOUR: 'it returns false'. Refute it at one input. -/
def stampBytesWrong : ChangeSpec := { name := "stampBytes", fn := fun _ => fun
  | [d1, d2, d3] => { results := [.lit (.bool false)], args := [d1, d2, d3] }
  | _ => none }
def StampBytesWrongFalsely : Prop := stampBytesRow.holds Try.pinned (OpenSpec.ofChange stampBytesWrong)

/-- 'carillonlaw02.StampBack': WHATEVER THE INPUT: true; the input reads as it did. -/
def stampBackSpec : ChangeSpec := { name := "stampBack", fn := fun _ => fun
  | [d1, d2] => { results := [.lit (.bool true)], args := [d1, d2] }
  | _ => none }
def stampBackRow : OpenClaim := { program := "yteahnnhekfkabaa", sum := "a3ca1ea1828f89bf5a6a693d1f7da06689061d3e316db5adb7382f51bd095da7", func := "carillon/carillonlaw02.StampBack", spec := "stampBack", apart := false }
def StampBackSaid : Prop := stampBackRow.holds Try.pinned (OpenSpec.ofChange stampBackSpec)

/-- ITS FALSE NEIGHBOUR: 'it returns false'. Refute it at one input. -/
def stampBackWrong : ChangeSpec := { name := "stampBack", fn := fun _ => fun
  | [d1, d2] => { results := [.lit (.bool false)], args := [d1, d2] }
  | _ => none }
def StampBackWrongFalsely : Prop := stampBackRow.holds Try.pinned (OpenSpec.ofChange stampBackWrong)

/-- 'carillonlaw02.StampEnds': WHATEVER THE INPUT: true; the input reads as it did. -/
def stampEndsSpec : ChangeSpec := { name := "stampEnds", fn := fun _ => fun
  | [] => { results := [.lit (.bool true)], args := [] }
  | _ => none }
def stampEndsRow : OpenClaim := { program := "yteahnnhekfkabaa", sum := "a3ca1ea1828f89bf5a6a693d1f7da06689061d3e316db5adb7382f51bd095da7", func := "carillon/carillonlaw02.StampEnds", spec := "stampEnds", apart := false }
def StampEndsSaid : Prop := stampEndsRow.holds Try.pinned (OpenSpec.ofChange stampEndsSpec)

/-- ITS FALSE NEIGHBOUR: 'it returns false'. Refute it at one input. -/
def stampEndsWrong : ChangeSpec := { name := "stampEnds", fn := fun _ => fun
  | [] => { results := [.lit (.bool false)], args := [] }
  | _ => none }
def StampEndsWrongFalsely : Prop := stampEndsRow.holds Try.pinned (OpenSpec.ofChange stampEndsWrong)

/- THE SECOND FORM. 'bulk': how many values and letters a reading holds, each counted each time it is reached (what is shared counts as often as it is met; a slice's spare places count too). A statement '..UptoSaid' is the law's where the arguments, and the package variables that the reading takes, are together of bulk at most 1048576: NARROWER than '..Said'. Prove '..Said' where nothing that the law and all that it calls make is longer than what came in: it says more and counts as full. Else prove '..UptoSaid'. A law counts once. -/
mutual
def uptoBulk {H : Type} : DataW H → Nat
  | .lit (.string bytes) => bytes.length + 1
  | .lit _ => 1
  | .nil => 1
  | .ptr d => uptoBulk d + 1
  | .slice elems spare => uptoBulkAll elems + uptoBulkAll spare + 1
  | .agg parts => uptoBulkAll parts + 1
  | .iface _ d => uptoBulk d + 1
  | .map entries => uptoBulkEntries entries + 1
  | .held _ => 1
def uptoBulkAll {H : Type} : List (DataW H) → Nat
  | [] => 0
  | d :: r => uptoBulk d + uptoBulkAll r
def uptoBulkEntries {H : Type} : List (Lit × DataW H) → Nat
  | [] => 0
  | x :: r => uptoBulkEntry x + uptoBulkEntries r
def uptoBulkEntry {H : Type} : Lit × DataW H → Nat
  | (.string bytes, d) => bytes.length + uptoBulk d + 1
  | (_, d) => uptoBulk d + 1
 end
def uptoSmall : (H : Type) → List (DataW H) → Bool := fun _ ds => decide (uptoBulkAll ds ≤ 1048576)
def OpenSpec.upto (s : _root_.Go.ChangeSpec) : _root_.Go.OpenSpec := { _root_.Go.OpenSpec.ofChange s with cond := some uptoSmall }

/-- 'carillonlaw02.StampFloors', WHERE WHAT IT READS IS OF BULK AT MOST 1048576: true; the input reads as it did. -/
def stampFloorsUptoRow : OpenClaim := { program := "yteahnnhekfkabaa", sum := "a3ca1ea1828f89bf5a6a693d1f7da06689061d3e316db5adb7382f51bd095da7", func := "carillon/carillonlaw02.StampFloors", spec := "stampFloors", apart := false, narrowed := true }
def StampFloorsUptoSaid : Prop := stampFloorsUptoRow.holds Try.pinned (OpenSpec.upto stampFloorsSpec)

/-- 'carillonlaw02.StampTwice', WHERE WHAT IT READS IS OF BULK AT MOST 1048576: true; the input reads as it did. -/
def stampTwiceUptoRow : OpenClaim := { program := "yteahnnhekfkabaa", sum := "a3ca1ea1828f89bf5a6a693d1f7da06689061d3e316db5adb7382f51bd095da7", func := "carillon/carillonlaw02.StampTwice", spec := "stampTwice", apart := false, narrowed := true }
def StampTwiceUptoSaid : Prop := stampTwiceUptoRow.holds Try.pinned (OpenSpec.upto stampTwiceSpec)

/-- 'carillonlaw02.StampTable', WHERE WHAT IT READS IS OF BULK AT MOST 1048576: true; the input reads as it did. -/
def stampTableUptoRow : OpenClaim := { program := "yteahnnhekfkabaa", sum := "a3ca1ea1828f89bf5a6a693d1f7da06689061d3e316db5adb7382f51bd095da7", func := "carillon/carillonlaw02.StampTable", spec := "stampTable", apart := false, narrowed := true }
def StampTableUptoSaid : Prop := stampTableUptoRow.holds Try.pinned (OpenSpec.upto stampTableSpec)

/-- 'carillonlaw02.StampNumbers', WHERE WHAT IT READS IS OF BULK AT MOST 1048576: true; the input reads as it did. -/
def stampNumbersUptoRow : OpenClaim := { program := "yteahnnhekfkabaa", sum := "a3ca1ea1828f89bf5a6a693d1f7da06689061d3e316db5adb7382f51bd095da7", func := "carillon/carillonlaw02.StampNumbers", spec := "stampNumbers", apart := false, narrowed := true }
def StampNumbersUptoSaid : Prop := stampNumbersUptoRow.holds Try.pinned (OpenSpec.upto stampNumbersSpec)

/-- 'carillonlaw02.StampSums', WHERE WHAT IT READS IS OF BULK AT MOST 1048576: true; the input reads as it did. -/
def stampSumsUptoRow : OpenClaim := { program := "yteahnnhekfkabaa", sum := "a3ca1ea1828f89bf5a6a693d1f7da06689061d3e316db5adb7382f51bd095da7", func := "carillon/carillonlaw02.StampSums", spec := "stampSums", apart := false, narrowed := true }
def StampSumsUptoSaid : Prop := stampSumsUptoRow.holds Try.pinned (OpenSpec.upto stampSumsSpec)

/-- 'carillonlaw02.StampSeconds', WHERE WHAT IT READS IS OF BULK AT MOST 1048576: true; the input reads as it did. -/
def stampSecondsUptoRow : OpenClaim := { program := "yteahnnhekfkabaa", sum := "a3ca1ea1828f89bf5a6a693d1f7da06689061d3e316db5adb7382f51bd095da7", func := "carillon/carillonlaw02.StampSeconds", spec := "stampSeconds", apart := false, narrowed := true }
def StampSecondsUptoSaid : Prop := stampSecondsUptoRow.holds Try.pinned (OpenSpec.upto stampSecondsSpec)

/-- 'carillonlaw02.StampBytes', WHERE WHAT IT READS IS OF BULK AT MOST 1048576: true; the input reads as it did. -/
def stampBytesUptoRow : OpenClaim := { program := "yteahnnhekfkabaa", sum := "a3ca1ea1828f89bf5a6a693d1f7da06689061d3e316db5adb7382f51bd095da7", func := "carillon/carillonlaw02.StampBytes", spec := "stampBytes", apart := false, narrowed := true }
def StampBytesUptoSaid : Prop := stampBytesUptoRow.holds Try.pinned (OpenSpec.upto stampBytesSpec)

/-- 'carillonlaw02.StampBack', WHERE WHAT IT READS IS OF BULK AT MOST 1048576: true; the input reads as it did. -/
def stampBackUptoRow : OpenClaim := { program := "yteahnnhekfkabaa", sum := "a3ca1ea1828f89bf5a6a693d1f7da06689061d3e316db5adb7382f51bd095da7", func := "carillon/carillonlaw02.StampBack", spec := "stampBack", apart := false, narrowed := true }
def StampBackUptoSaid : Prop := stampBackUptoRow.holds Try.pinned (OpenSpec.upto stampBackSpec)

/-- 'carillonlaw02.StampEnds', WHERE WHAT IT READS IS OF BULK AT MOST 1048576: true; the input reads as it did. -/
def stampEndsUptoRow : OpenClaim := { program := "yteahnnhekfkabaa", sum := "a3ca1ea1828f89bf5a6a693d1f7da06689061d3e316db5adb7382f51bd095da7", func := "carillon/carillonlaw02.StampEnds", spec := "stampEnds", apart := false, narrowed := true }
def StampEndsUptoSaid : Prop := stampEndsUptoRow.holds Try.pinned (OpenSpec.upto stampEndsSpec)

end Rows
end Go.Proofs.Yteahnnhekfkabaa
