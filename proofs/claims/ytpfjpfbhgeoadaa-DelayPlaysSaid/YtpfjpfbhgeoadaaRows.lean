/-
  No cell of these rows narrows 'for every input' (looked for: loops, veiled, ifaces, maps, wideKeys, modest, calm, conditions, laid).
  DERIVED. THE GIVEN ROWS OF THIS SEAT. 5 by the template 'for every input the law returns true; each argument reads behind the call as it read before'; 0 by the template 'total and deterministic' (their statements: YtpfjpfbhgeoadaaTotals.lean).
  GIVEN WITH THE SEED: the statements are not yours to turn. If you find one false, say at which input.
  Laid BY PROGRAM, IN A SANDBOX (cutbox-rows.mjs): the forced cells as the released guide's own fill.sh prints them over the translation 67e9b155862b2bee… (all of the seat's roots in one cut). By AI agents, Wed Nov 11 2026. No macro, syntax, notation, axiom, sorry.
-/
import Derived.Test.YtpfjpfbhgeoadaaChecked
import GoSem.Claim
import GoSem.ClaimJoined
import GoSem.ClaimMapViews
import Derived.JoinedTies
import Derived.KernelRfl
namespace Go.Proofs.Ytpfjpfbhgeoadaa
/- THE CELL 'sum', in the pinned program and in every row, IS THE sha256 OF THE DUMP (.gsa) THAT YtpfjpfbhgeoadaaProg.lean LOADS. Nothing in Lean hashes anything: it is a label: what it is worth is what the hold of that sum in a sandbox is worth. -/
noncomputable def Try.pinned : Pinned := { name := "ytpfjpfbhgeoadaa", sum := "67e9b155862b2beee509f271481cfd8af36cb17ee5d3b3151776e70b0108cad8", checked := Try.checked }
namespace Rows
def none {H : Type} : Left H := { results := [], args := [] }

/-- 'carillonlaw17.DelayPlays': WHATEVER THE INPUT: true; the input reads as it did. -/
def delayPlaysSpec : ChangeSpec := { name := "delayPlays", fn := fun _ => fun
  | [d1, d2, d3] => { results := [.lit (.bool true)], args := [d1, d2, d3] }
  | _ => none }
def delayPlaysRow : OpenClaim := { program := "ytpfjpfbhgeoadaa", sum := "67e9b155862b2beee509f271481cfd8af36cb17ee5d3b3151776e70b0108cad8", func := "carillon/carillonlaw17.DelayPlays", spec := "delayPlays", apart := false }
def DelayPlaysSaid : Prop := delayPlaysRow.holds Try.pinned (OpenSpec.ofChange delayPlaysSpec)

/-- ITS FALSE NEIGHBOUR: 'it returns false'. Refute it at one input. -/
def delayPlaysWrong : ChangeSpec := { name := "delayPlays", fn := fun _ => fun
  | [d1, d2, d3] => { results := [.lit (.bool false)], args := [d1, d2, d3] }
  | _ => none }
def DelayPlaysWrongFalsely : Prop := delayPlaysRow.holds Try.pinned (OpenSpec.ofChange delayPlaysWrong)

/-- 'carillonlaw17.DelayRound': WHATEVER THE INPUT: true; the input reads as it did. -/
def delayRoundSpec : ChangeSpec := { name := "delayRound", fn := fun _ => fun
  | [d1, d2, d3, d4, d5, d6, d7] => { results := [.lit (.bool true)], args := [d1, d2, d3, d4, d5, d6, d7] }
  | _ => none }
def delayRoundRow : OpenClaim := { program := "ytpfjpfbhgeoadaa", sum := "67e9b155862b2beee509f271481cfd8af36cb17ee5d3b3151776e70b0108cad8", func := "carillon/carillonlaw17.DelayRound", spec := "delayRound", apart := false }
def DelayRoundSaid : Prop := delayRoundRow.holds Try.pinned (OpenSpec.ofChange delayRoundSpec)

/-- ITS FALSE NEIGHBOUR: 'it returns false'. Refute it at one input. -/
def delayRoundWrong : ChangeSpec := { name := "delayRound", fn := fun _ => fun
  | [d1, d2, d3, d4, d5, d6, d7] => { results := [.lit (.bool false)], args := [d1, d2, d3, d4, d5, d6, d7] }
  | _ => none }
def DelayRoundWrongFalsely : Prop := delayRoundRow.holds Try.pinned (OpenSpec.ofChange delayRoundWrong)

/-- 'carillonlaw17.DelayNext': WHATEVER THE INPUT: true; the input reads as it did. -/
def delayNextSpec : ChangeSpec := { name := "delayNext", fn := fun _ => fun
  | [d1, d2, d3, d4] => { results := [.lit (.bool true)], args := [d1, d2, d3, d4] }
  | _ => none }
def delayNextRow : OpenClaim := { program := "ytpfjpfbhgeoadaa", sum := "67e9b155862b2beee509f271481cfd8af36cb17ee5d3b3151776e70b0108cad8", func := "carillon/carillonlaw17.DelayNext", spec := "delayNext", apart := false }
def DelayNextSaid : Prop := delayNextRow.holds Try.pinned (OpenSpec.ofChange delayNextSpec)

/-- ITS FALSE NEIGHBOUR: 'it returns false'. Refute it at one input. -/
def delayNextWrong : ChangeSpec := { name := "delayNext", fn := fun _ => fun
  | [d1, d2, d3, d4] => { results := [.lit (.bool false)], args := [d1, d2, d3, d4] }
  | _ => none }
def DelayNextWrongFalsely : Prop := delayNextRow.holds Try.pinned (OpenSpec.ofChange delayNextWrong)

/-- 'carillonlaw17.DelayClears': WHATEVER THE INPUT: true; the input reads as it did. -/
def delayClearsSpec : ChangeSpec := { name := "delayClears", fn := fun _ => fun
  | [d1, d2] => { results := [.lit (.bool true)], args := [d1, d2] }
  | _ => none }
def delayClearsRow : OpenClaim := { program := "ytpfjpfbhgeoadaa", sum := "67e9b155862b2beee509f271481cfd8af36cb17ee5d3b3151776e70b0108cad8", func := "carillon/carillonlaw17.DelayClears", spec := "delayClears", apart := false }
def DelayClearsSaid : Prop := delayClearsRow.holds Try.pinned (OpenSpec.ofChange delayClearsSpec)

/-- ITS FALSE NEIGHBOUR: 'it returns false'. Refute it at one input. -/
def delayClearsWrong : ChangeSpec := { name := "delayClears", fn := fun _ => fun
  | [d1, d2] => { results := [.lit (.bool false)], args := [d1, d2] }
  | _ => none }
def DelayClearsWrongFalsely : Prop := delayClearsRow.holds Try.pinned (OpenSpec.ofChange delayClearsWrong)

/-- 'carillonlaw17.DelayApart': WHATEVER THE INPUT: true; the input reads as it did. -/
def delayApartSpec : ChangeSpec := { name := "delayApart", fn := fun _ => fun
  | [d1, d2, d3, d4, d5] => { results := [.lit (.bool true)], args := [d1, d2, d3, d4, d5] }
  | _ => none }
def delayApartRow : OpenClaim := { program := "ytpfjpfbhgeoadaa", sum := "67e9b155862b2beee509f271481cfd8af36cb17ee5d3b3151776e70b0108cad8", func := "carillon/carillonlaw17.DelayApart", spec := "delayApart", apart := false }
def DelayApartSaid : Prop := delayApartRow.holds Try.pinned (OpenSpec.ofChange delayApartSpec)

/-- ITS FALSE NEIGHBOUR: 'it returns false'. Refute it at one input. -/
def delayApartWrong : ChangeSpec := { name := "delayApart", fn := fun _ => fun
  | [d1, d2, d3, d4, d5] => { results := [.lit (.bool false)], args := [d1, d2, d3, d4, d5] }
  | _ => none }
def DelayApartWrongFalsely : Prop := delayApartRow.holds Try.pinned (OpenSpec.ofChange delayApartWrong)

/- THE SECOND FORM. 'bulk': how many values and letters a reading holds, each counted each time it is reached (what is shared counts as often as it is met; a slice's spare places count too). A statement '..UptoSaid' is the law's where the arguments, and the package variables that the reading takes, are together of bulk at most 1048576: NARROWER than '..Said'. Prove '..Said' where nothing that the law and all that it calls make is longer than what came in: it says more and counts as full. Else prove '..UptoSaid'. A law counts once. -/
mutual
def uptoBulk {H : Type} : DataW H → Nat
  | .lit (.string bytes) => bytes.length + 1
  | .lit _ => 1
  | .nil => 1
  | .ptr d => uptoBulk d + 1
  | .slice elems spare => uptoBulkAll elems + uptoBulkAll spare + 1
  | .agg parts => uptoBulkAll parts + 1
  | .iface _ d => uptoBulk d + 1
  | .map entries => uptoBulkEntries entries + 1
  | .held _ => 1
def uptoBulkAll {H : Type} : List (DataW H) → Nat
  | [] => 0
  | d :: r => uptoBulk d + uptoBulkAll r
def uptoBulkEntries {H : Type} : List (Lit × DataW H) → Nat
  | [] => 0
  | x :: r => uptoBulkEntry x + uptoBulkEntries r
def uptoBulkEntry {H : Type} : Lit × DataW H → Nat
  | (.string bytes, d) => bytes.length + uptoBulk d + 1
  | (_, d) => uptoBulk d + 1
 end
def uptoSmall : (H : Type) → List (DataW H) → Bool := fun _ ds => decide (uptoBulkAll ds ≤ 1048576)
def OpenSpec.upto (s : _root_.Go.ChangeSpec) : _root_.Go.OpenSpec := { _root_.Go.OpenSpec.ofChange s with cond := some uptoSmall }

/-- 'carillonlaw17.DelayPlays', WHERE WHAT IT READS IS OF BULK AT MOST 1048576: true; the input reads as it did. -/
def delayPlaysUptoRow : OpenClaim := { program := "ytpfjpfbhgeoadaa", sum := "67e9b155862b2beee509f271481cfd8af36cb17ee5d3b3151776e70b0108cad8", func := "carillon/carillonlaw17.DelayPlays", spec := "delayPlays", apart := false, narrowed := true }
def DelayPlaysUptoSaid : Prop := delayPlaysUptoRow.holds Try.pinned (OpenSpec.upto delayPlaysSpec)

/-- 'carillonlaw17.DelayRound', WHERE WHAT IT READS IS OF BULK AT MOST 1048576: true; the input reads as it did. -/
def delayRoundUptoRow : OpenClaim := { program := "ytpfjpfbhgeoadaa", sum := "67e9b155862b2beee509f271481cfd8af36cb17ee5d3b3151776e70b0108cad8", func := "carillon/carillonlaw17.DelayRound", spec := "delayRound", apart := false, narrowed := true }
def DelayRoundUptoSaid : Prop := delayRoundUptoRow.holds Try.pinned (OpenSpec.upto delayRoundSpec)

/-- 'carillonlaw17.DelayNext', WHERE WHAT IT READS IS OF BULK AT MOST 1048576: true; the input reads as it did. -/
def delayNextUptoRow : OpenClaim := { program := "ytpfjpfbhgeoadaa", sum := "67e9b155862b2beee509f271481cfd8af36cb17ee5d3b3151776e70b0108cad8", func := "carillon/carillonlaw17.DelayNext", spec := "delayNext", apart := false, narrowed := true }
def DelayNextUptoSaid : Prop := delayNextUptoRow.holds Try.pinned (OpenSpec.upto delayNextSpec)

/-- 'carillonlaw17.DelayClears', WHERE WHAT IT READS IS OF BULK AT MOST 1048576: true; the input reads as it did. -/
def delayClearsUptoRow : OpenClaim := { program := "ytpfjpfbhgeoadaa", sum := "67e9b155862b2beee509f271481cfd8af36cb17ee5d3b3151776e70b0108cad8", func := "carillon/carillonlaw17.DelayClears", spec := "delayClears", apart := false, narrowed := true }
def DelayClearsUptoSaid : Prop := delayClearsUptoRow.holds Try.pinned (OpenSpec.upto delayClearsSpec)

/-- 'carillonlaw17.DelayApart', WHERE WHAT IT READS IS OF BULK AT MOST 1048576: true; the input reads as it did. -/
def delayApartUptoRow : OpenClaim := { program := "ytpfjpfbhgeoadaa", sum := "67e9b155862b2beee509f271481cfd8af36cb17ee5d3b3151776e70b0108cad8", func := "carillon/carillonlaw17.DelayApart", spec := "delayApart", apart := false, narrowed := true }
def DelayApartUptoSaid : Prop := delayApartUptoRow.holds Try.pinned (OpenSpec.upto delayApartSpec)

end Rows
end Go.Proofs.Ytpfjpfbhgeoadaa
