/-
  No cell of these rows narrows 'for every input' (looked for: loops, veiled, ifaces, maps, wideKeys, modest, calm, conditions, laid).
  DERIVED. THE GIVEN ROWS OF THIS SEAT. 7 by the template 'for every input the law returns true; each argument reads behind the call as it read before'; 0 by the template 'total and deterministic' (their statements: YtgmiokocipmbaaaTotals.lean).
  GIVEN WITH THE SEED: the statements are not yours to turn. If you find one false, say at which input.
  Laid BY PROGRAM, IN A SANDBOX (cutbox-rows.mjs): the forced cells as the released guide's own fill.sh prints them over the translation eba7b086022db416… (all of the seat's roots in one cut). By AI agents, Wed Nov 11 2026. No macro, syntax, notation, axiom, sorry.
-/
import Derived.Test.YtgmiokocipmbaaaChecked
import GoSem.Claim
import GoSem.ClaimJoined
import GoSem.ClaimMapViews
import Derived.JoinedTies
import Derived.KernelRfl
namespace Go.Proofs.Ytgmiokocipmbaaa
/- THE CELL 'sum', in the pinned program and in every row, IS THE sha256 OF THE DUMP (.gsa) THAT YtgmiokocipmbaaaProg.lean LOADS. Nothing in Lean hashes anything: it is a label: what it is worth is what the hold of that sum in a sandbox is worth. -/
noncomputable def Try.pinned : Pinned := { name := "ytgmiokocipmbaaa", sum := "eba7b086022db416ad601d487bb4f3b712b6ef3e52f03fc681a82d0586eb1a77", checked := Try.checked }
namespace Rows
def none {H : Type} : Left H := { results := [], args := [] }

/-- 'carillonlaw08.TlvFinds': WHATEVER THE INPUT: true; the input reads as it did. -/
def tlvFindsSpec : ChangeSpec := { name := "tlvFinds", fn := fun _ => fun
  | [d1, d2] => { results := [.lit (.bool true)], args := [d1, d2] }
  | _ => none }
def tlvFindsRow : OpenClaim := { program := "ytgmiokocipmbaaa", sum := "eba7b086022db416ad601d487bb4f3b712b6ef3e52f03fc681a82d0586eb1a77", func := "carillon/carillonlaw08.TlvFinds", spec := "tlvFinds", apart := false }
def TlvFindsSaid : Prop := tlvFindsRow.holds Try.pinned (OpenSpec.ofChange tlvFindsSpec)

/-- ITS FALSE NEIGHBOUR: 'it returns false'. Refute it at one input. -/
def tlvFindsWrong : ChangeSpec := { name := "tlvFinds", fn := fun _ => fun
  | [d1, d2] => { results := [.lit (.bool false)], args := [d1, d2] }
  | _ => none }
def TlvFindsWrongFalsely : Prop := tlvFindsRow.holds Try.pinned (OpenSpec.ofChange tlvFindsWrong)

/-- 'carillonlaw08.TlvPuts': WHATEVER THE INPUT: true; the input reads as it did. -/
def tlvPutsSpec : ChangeSpec := { name := "tlvPuts", fn := fun _ => fun
  | [d1, d2, d3] => { results := [.lit (.bool true)], args := [d1, d2, d3] }
  | _ => none }
def tlvPutsRow : OpenClaim := { program := "ytgmiokocipmbaaa", sum := "eba7b086022db416ad601d487bb4f3b712b6ef3e52f03fc681a82d0586eb1a77", func := "carillon/carillonlaw08.TlvPuts", spec := "tlvPuts", apart := false }
def TlvPutsSaid : Prop := tlvPutsRow.holds Try.pinned (OpenSpec.ofChange tlvPutsSpec)

/-- ITS FALSE NEIGHBOUR: 'it returns false'. Refute it at one input. -/
def tlvPutsWrong : ChangeSpec := { name := "tlvPuts", fn := fun _ => fun
  | [d1, d2, d3] => { results := [.lit (.bool false)], args := [d1, d2, d3] }
  | _ => none }
def TlvPutsWrongFalsely : Prop := tlvPutsRow.holds Try.pinned (OpenSpec.ofChange tlvPutsWrong)

/-- 'carillonlaw08.TlvGets': WHATEVER THE INPUT: true; the input reads as it did. -/
def tlvGetsSpec : ChangeSpec := { name := "tlvGets", fn := fun _ => fun
  | [d1, d2] => { results := [.lit (.bool true)], args := [d1, d2] }
  | _ => none }
def tlvGetsRow : OpenClaim := { program := "ytgmiokocipmbaaa", sum := "eba7b086022db416ad601d487bb4f3b712b6ef3e52f03fc681a82d0586eb1a77", func := "carillon/carillonlaw08.TlvGets", spec := "tlvGets", apart := false }
def TlvGetsSaid : Prop := tlvGetsRow.holds Try.pinned (OpenSpec.ofChange tlvGetsSpec)

/-- ITS FALSE NEIGHBOUR: 'it returns false'. Refute it at one input. -/
def tlvGetsWrong : ChangeSpec := { name := "tlvGets", fn := fun _ => fun
  | [d1, d2] => { results := [.lit (.bool false)], args := [d1, d2] }
  | _ => none }
def TlvGetsWrongFalsely : Prop := tlvGetsRow.holds Try.pinned (OpenSpec.ofChange tlvGetsWrong)

/-- 'carillonlaw08.TlvCuts': WHATEVER THE INPUT: true; the input reads as it did. -/
def tlvCutsSpec : ChangeSpec := { name := "tlvCuts", fn := fun _ => fun
  | [d1, d2] => { results := [.lit (.bool true)], args := [d1, d2] }
  | _ => none }
def tlvCutsRow : OpenClaim := { program := "ytgmiokocipmbaaa", sum := "eba7b086022db416ad601d487bb4f3b712b6ef3e52f03fc681a82d0586eb1a77", func := "carillon/carillonlaw08.TlvCuts", spec := "tlvCuts", apart := false }
def TlvCutsSaid : Prop := tlvCutsRow.holds Try.pinned (OpenSpec.ofChange tlvCutsSpec)

/-- ITS FALSE NEIGHBOUR: 'it returns false'. Refute it at one input. -/
def tlvCutsWrong : ChangeSpec := { name := "tlvCuts", fn := fun _ => fun
  | [d1, d2] => { results := [.lit (.bool false)], args := [d1, d2] }
  | _ => none }
def TlvCutsWrongFalsely : Prop := tlvCutsRow.holds Try.pinned (OpenSpec.ofChange tlvCutsWrong)

/-- 'carillonlaw08.TlvLimits': WHATEVER THE INPUT: true; the input reads as it did. -/
def tlvLimitsSpec : ChangeSpec := { name := "tlvLimits", fn := fun _ => fun
  | [] => { results := [.lit (.bool true)], args := [] }
  | _ => none }
def tlvLimitsRow : OpenClaim := { program := "ytgmiokocipmbaaa", sum := "eba7b086022db416ad601d487bb4f3b712b6ef3e52f03fc681a82d0586eb1a77", func := "carillon/carillonlaw08.TlvLimits", spec := "tlvLimits", apart := false }
def TlvLimitsSaid : Prop := tlvLimitsRow.holds Try.pinned (OpenSpec.ofChange tlvLimitsSpec)

/-- ITS FALSE NEIGHBOUR: 'it returns false'. Refute it at one input. -/
def tlvLimitsWrong : ChangeSpec := { name := "tlvLimits", fn := fun _ => fun
  | [] => { results := [.lit (.bool false)], args := [] }
  | _ => none }
def TlvLimitsWrongFalsely : Prop := tlvLimitsRow.holds Try.pinned (OpenSpec.ofChange tlvLimitsWrong)

/-- 'carillonlaw08.TlvKinds': WHATEVER THE INPUT: true; the input reads as it did. -/
def tlvKindsSpec : ChangeSpec := { name := "tlvKinds", fn := fun _ => fun
  | [d1, d2, d3, d4, d5] => { results := [.lit (.bool true)], args := [d1, d2, d3, d4, d5] }
  | _ => none }
def tlvKindsRow : OpenClaim := { program := "ytgmiokocipmbaaa", sum := "eba7b086022db416ad601d487bb4f3b712b6ef3e52f03fc681a82d0586eb1a77", func := "carillon/carillonlaw08.TlvKinds", spec := "tlvKinds", apart := false }
def TlvKindsSaid : Prop := tlvKindsRow.holds Try.pinned (OpenSpec.ofChange tlvKindsSpec)

/-- ITS FALSE NEIGHBOUR: 'it returns false'. Refute it at one input. -/
def tlvKindsWrong : ChangeSpec := { name := "tlvKinds", fn := fun _ => fun
  | [d1, d2, d3, d4, d5] => { results := [.lit (.bool false)], args := [d1, d2, d3, d4, d5] }
  | _ => none }
def TlvKindsWrongFalsely : Prop := tlvKindsRow.holds Try.pinned (OpenSpec.ofChange tlvKindsWrong)

/-- 'carillonlaw08.TlvBack': WHATEVER THE INPUT: true; the input reads as it did. -/
def tlvBackSpec : ChangeSpec := { name := "tlvBack", fn := fun _ => fun
  | [d1, d2, d3, d4, d5] => { results := [.lit (.bool true)], args := [d1, d2, d3, d4, d5] }
  | _ => none }
def tlvBackRow : OpenClaim := { program := "ytgmiokocipmbaaa", sum := "eba7b086022db416ad601d487bb4f3b712b6ef3e52f03fc681a82d0586eb1a77", func := "carillon/carillonlaw08.TlvBack", spec := "tlvBack", apart := false }
def TlvBackSaid : Prop := tlvBackRow.holds Try.pinned (OpenSpec.ofChange tlvBackSpec)

/-- ITS FALSE NEIGHBOUR: 'it returns false'. Refute it at one input. -/
def tlvBackWrong : ChangeSpec := { name := "tlvBack", fn := fun _ => fun
  | [d1, d2, d3, d4, d5] => { results := [.lit (.bool false)], args := [d1, d2, d3, d4, d5] }
  | _ => none }
def TlvBackWrongFalsely : Prop := tlvBackRow.holds Try.pinned (OpenSpec.ofChange tlvBackWrong)

/- THE SECOND FORM. 'bulk': how many values and letters a reading holds, each counted each time it is reached (what is shared counts as often as it is met; a slice's spare places count too). A statement '..UptoSaid' is the law's where the arguments, and the package variables that the reading takes, are together of bulk at most 1048576: NARROWER than '..Said'. Prove '..Said' where nothing that the law and all that it calls make is longer than what came in: it says more and counts as full. Else prove '..UptoSaid'. A law counts once. -/
mutual
def uptoBulk {H : Type} : DataW H → Nat
  | .lit (.string bytes) => bytes.length + 1
  | .lit _ => 1
  | .nil => 1
  | .ptr d => uptoBulk d + 1
  | .slice elems spare => uptoBulkAll elems + uptoBulkAll spare + 1
  | .agg parts => uptoBulkAll parts + 1
  | .iface _ d => uptoBulk d + 1
  | .map entries => uptoBulkEntries entries + 1
  | .held _ => 1
def uptoBulkAll {H : Type} : List (DataW H) → Nat
  | [] => 0
  | d :: r => uptoBulk d + uptoBulkAll r
def uptoBulkEntries {H : Type} : List (Lit × DataW H) → Nat
  | [] => 0
  | x :: r => uptoBulkEntry x + uptoBulkEntries r
def uptoBulkEntry {H : Type} : Lit × DataW H → Nat
  | (.string bytes, d) => bytes.length + uptoBulk d + 1
  | (_, d) => uptoBulk d + 1
 end
def uptoSmall : (H : Type) → List (DataW H) → Bool := fun _ ds => decide (uptoBulkAll ds ≤ 1048576)
def OpenSpec.upto (s : _root_.Go.ChangeSpec) : _root_.Go.OpenSpec := { _root_.Go.OpenSpec.ofChange s with cond := some uptoSmall }

/-- 'carillonlaw08.TlvFinds', WHERE WHAT IT READS IS OF BULK AT MOST 1048576: true; the input reads as it did. -/
def tlvFindsUptoRow : OpenClaim := { program := "ytgmiokocipmbaaa", sum := "eba7b086022db416ad601d487bb4f3b712b6ef3e52f03fc681a82d0586eb1a77", func := "carillon/carillonlaw08.TlvFinds", spec := "tlvFinds", apart := false, narrowed := true }
def TlvFindsUptoSaid : Prop := tlvFindsUptoRow.holds Try.pinned (OpenSpec.upto tlvFindsSpec)

/-- 'carillonlaw08.TlvPuts', WHERE WHAT IT READS IS OF BULK AT MOST 1048576: true; the input reads as it did. -/
def tlvPutsUptoRow : OpenClaim := { program := "ytgmiokocipmbaaa", sum := "eba7b086022db416ad601d487bb4f3b712b6ef3e52f03fc681a82d0586eb1a77", func := "carillon/carillonlaw08.TlvPuts", spec := "tlvPuts", apart := false, narrowed := true }
def TlvPutsUptoSaid : Prop := tlvPutsUptoRow.holds Try.pinned (OpenSpec.upto tlvPutsSpec)

/-- 'carillonlaw08.TlvGets', WHERE WHAT IT READS IS OF BULK AT MOST 1048576: true; the input reads as it did. -/
def tlvGetsUptoRow : OpenClaim := { program := "ytgmiokocipmbaaa", sum := "eba7b086022db416ad601d487bb4f3b712b6ef3e52f03fc681a82d0586eb1a77", func := "carillon/carillonlaw08.TlvGets", spec := "tlvGets", apart := false, narrowed := true }
def TlvGetsUptoSaid : Prop := tlvGetsUptoRow.holds Try.pinned (OpenSpec.upto tlvGetsSpec)

/-- 'carillonlaw08.TlvCuts', WHERE WHAT IT READS IS OF BULK AT MOST 1048576: true; the input reads as it did. -/
def tlvCutsUptoRow : OpenClaim := { program := "ytgmiokocipmbaaa", sum := "eba7b086022db416ad601d487bb4f3b712b6ef3e52f03fc681a82d0586eb1a77", func := "carillon/carillonlaw08.TlvCuts", spec := "tlvCuts", apart := false, narrowed := true }
def TlvCutsUptoSaid : Prop := tlvCutsUptoRow.holds Try.pinned (OpenSpec.upto tlvCutsSpec)

/-- 'carillonlaw08.TlvLimits', WHERE WHAT IT READS IS OF BULK AT MOST 1048576: true; the input reads as it did. -/
def tlvLimitsUptoRow : OpenClaim := { program := "ytgmiokocipmbaaa", sum := "eba7b086022db416ad601d487bb4f3b712b6ef3e52f03fc681a82d0586eb1a77", func := "carillon/carillonlaw08.TlvLimits", spec := "tlvLimits", apart := false, narrowed := true }
def TlvLimitsUptoSaid : Prop := tlvLimitsUptoRow.holds Try.pinned (OpenSpec.upto tlvLimitsSpec)

/-- 'carillonlaw08.TlvKinds', WHERE WHAT IT READS IS OF BULK AT MOST 1048576: true; the input reads as it did. -/
def tlvKindsUptoRow : OpenClaim := { program := "ytgmiokocipmbaaa", sum := "eba7b086022db416ad601d487bb4f3b712b6ef3e52f03fc681a82d0586eb1a77", func := "carillon/carillonlaw08.TlvKinds", spec := "tlvKinds", apart := false, narrowed := true }
def TlvKindsUptoSaid : Prop := tlvKindsUptoRow.holds Try.pinned (OpenSpec.upto tlvKindsSpec)

/-- 'carillonlaw08.TlvBack', WHERE WHAT IT READS IS OF BULK AT MOST 1048576: true; the input reads as it did. -/
def tlvBackUptoRow : OpenClaim := { program := "ytgmiokocipmbaaa", sum := "eba7b086022db416ad601d487bb4f3b712b6ef3e52f03fc681a82d0586eb1a77", func := "carillon/carillonlaw08.TlvBack", spec := "tlvBack", apart := false, narrowed := true }
def TlvBackUptoSaid : Prop := tlvBackUptoRow.holds Try.pinned (OpenSpec.upto tlvBackSpec)

end Rows
end Go.Proofs.Ytgmiokocipmbaaa
