/-
  No cell of these rows narrows 'for every input' (looked for: loops, veiled, ifaces, maps, wideKeys, modest, calm, conditions, laid).
  DERIVED. THE GIVEN ROWS OF THIS SEAT. 6 by the template 'for every input the law returns true; each argument reads behind the call as it read before'; 0 by the template 'total and deterministic' (their statements: YtmfahcabdkajnaaTotals.lean).
  GIVEN WITH THE SEED: the statements are not yours to turn. If you find one false, say at which input.
  Laid BY PROGRAM, IN A SANDBOX (cutbox-rows.mjs): the forced cells as the released guide's own fill.sh prints them over the translation e3dd0bb75fbe306b… (all of the seat's roots in one cut). By AI agents, Wed Nov 11 2026. No macro, syntax, notation, axiom, sorry.
-/
import Derived.Test.YtmfahcabdkajnaaChecked
import GoSem.Claim
import GoSem.ClaimJoined
import GoSem.ClaimMapViews
import Derived.JoinedTies
import Derived.KernelRfl
namespace Go.Proofs.Ytmfahcabdkajnaa
/- THE CELL 'sum', in the pinned program and in every row, IS THE sha256 OF THE DUMP (.gsa) THAT YtmfahcabdkajnaaProg.lean LOADS. Nothing in Lean hashes anything: it is a label: what it is worth is what the hold of that sum in a sandbox is worth. -/
noncomputable def Try.pinned : Pinned := { name := "ytmfahcabdkajnaa", sum := "e3dd0bb75fbe306b614db6d9f653a7337e446354322efa6a7393f3919606607e", checked := Try.checked }
namespace Rows
def none {H : Type} : Left H := { results := [], args := [] }

/-- 'carillonlaw05.QualityBest': WHATEVER THE INPUT: true; the input reads as it did. -/
def qualityBestSpec : ChangeSpec := { name := "qualityBest", fn := fun _ => fun
  | [d] => { results := [.lit (.bool true)], args := [d] }
  | _ => none }
def qualityBestRow : OpenClaim := { program := "ytmfahcabdkajnaa", sum := "e3dd0bb75fbe306b614db6d9f653a7337e446354322efa6a7393f3919606607e", func := "carillon/carillonlaw05.QualityBest", spec := "qualityBest", apart := false }
def QualityBestSaid : Prop := qualityBestRow.holds Try.pinned (OpenSpec.ofChange qualityBestSpec)

/-- ITS FALSE NEIGHBOUR: 'it returns false'. Refute it at one input. -/
def qualityBestWrong : ChangeSpec := { name := "qualityBest", fn := fun _ => fun
  | [d] => { results := [.lit (.bool false)], args := [d] }
  | _ => none }
def QualityBestWrongFalsely : Prop := qualityBestRow.holds Try.pinned (OpenSpec.ofChange qualityBestWrong)

/-- 'carillonlaw05.QualityParts': WHATEVER THE INPUT: true; the input reads as it did. -/
def qualityPartsSpec : ChangeSpec := { name := "qualityParts", fn := fun _ => fun
  | [d1, d2] => { results := [.lit (.bool true)], args := [d1, d2] }
  | _ => none }
def qualityPartsRow : OpenClaim := { program := "ytmfahcabdkajnaa", sum := "e3dd0bb75fbe306b614db6d9f653a7337e446354322efa6a7393f3919606607e", func := "carillon/carillonlaw05.QualityParts", spec := "qualityParts", apart := false }
def QualityPartsSaid : Prop := qualityPartsRow.holds Try.pinned (OpenSpec.ofChange qualityPartsSpec)

/-- ITS FALSE NEIGHBOUR: 'it returns false'. Refute it at one input. -/
def qualityPartsWrong : ChangeSpec := { name := "qualityParts", fn := fun _ => fun
  | [d1, d2] => { results := [.lit (.bool false)], args := [d1, d2] }
  | _ => none }
def QualityPartsWrongFalsely : Prop := qualityPartsRow.holds Try.pinned (OpenSpec.ofChange qualityPartsWrong)

/-- 'carillonlaw05.QualityFirst': WHATEVER THE INPUT: true; the input reads as it did. -/
def qualityFirstSpec : ChangeSpec := { name := "qualityFirst", fn := fun _ => fun
  | [d] => { results := [.lit (.bool true)], args := [d] }
  | _ => none }
def qualityFirstRow : OpenClaim := { program := "ytmfahcabdkajnaa", sum := "e3dd0bb75fbe306b614db6d9f653a7337e446354322efa6a7393f3919606607e", func := "carillon/carillonlaw05.QualityFirst", spec := "qualityFirst", apart := false }
def QualityFirstSaid : Prop := qualityFirstRow.holds Try.pinned (OpenSpec.ofChange qualityFirstSpec)

/-- ITS FALSE NEIGHBOUR: 'it returns false'. Refute it at one input. -/
def qualityFirstWrong : ChangeSpec := { name := "qualityFirst", fn := fun _ => fun
  | [d] => { results := [.lit (.bool false)], args := [d] }
  | _ => none }
def QualityFirstWrongFalsely : Prop := qualityFirstRow.holds Try.pinned (OpenSpec.ofChange qualityFirstWrong)

/-- 'carillonlaw05.QualityOrder': WHATEVER THE INPUT: true; the input reads as it did. -/
def qualityOrderSpec : ChangeSpec := { name := "qualityOrder", fn := fun _ => fun
  | [d1, d2, d3] => { results := [.lit (.bool true)], args := [d1, d2, d3] }
  | _ => none }
def qualityOrderRow : OpenClaim := { program := "ytmfahcabdkajnaa", sum := "e3dd0bb75fbe306b614db6d9f653a7337e446354322efa6a7393f3919606607e", func := "carillon/carillonlaw05.QualityOrder", spec := "qualityOrder", apart := false }
def QualityOrderSaid : Prop := qualityOrderRow.holds Try.pinned (OpenSpec.ofChange qualityOrderSpec)

/-- ITS FALSE NEIGHBOUR: 'it returns false'. Refute it at one input. -/
def qualityOrderWrong : ChangeSpec := { name := "qualityOrder", fn := fun _ => fun
  | [d1, d2, d3] => { results := [.lit (.bool false)], args := [d1, d2, d3] }
  | _ => none }
def QualityOrderWrongFalsely : Prop := qualityOrderRow.holds Try.pinned (OpenSpec.ofChange qualityOrderWrong)

/-- 'carillonlaw05.QualityLimits': WHATEVER THE INPUT: true; the input reads as it did. -/
def qualityLimitsSpec : ChangeSpec := { name := "qualityLimits", fn := fun _ => fun
  | [] => { results := [.lit (.bool true)], args := [] }
  | _ => none }
def qualityLimitsRow : OpenClaim := { program := "ytmfahcabdkajnaa", sum := "e3dd0bb75fbe306b614db6d9f653a7337e446354322efa6a7393f3919606607e", func := "carillon/carillonlaw05.QualityLimits", spec := "qualityLimits", apart := false }
def QualityLimitsSaid : Prop := qualityLimitsRow.holds Try.pinned (OpenSpec.ofChange qualityLimitsSpec)

/-- ITS FALSE NEIGHBOUR: 'it returns false'. Refute it at one input. -/
def qualityLimitsWrong : ChangeSpec := { name := "qualityLimits", fn := fun _ => fun
  | [] => { results := [.lit (.bool false)], args := [] }
  | _ => none }
def QualityLimitsWrongFalsely : Prop := qualityLimitsRow.holds Try.pinned (OpenSpec.ofChange qualityLimitsWrong)

/-- 'carillonlaw05.QualityBytes': WHATEVER THE INPUT: true; the input reads as it did. -/
def qualityBytesSpec : ChangeSpec := { name := "qualityBytes", fn := fun _ => fun
  | [d1, d2, d3] => { results := [.lit (.bool true)], args := [d1, d2, d3] }
  | _ => none }
def qualityBytesRow : OpenClaim := { program := "ytmfahcabdkajnaa", sum := "e3dd0bb75fbe306b614db6d9f653a7337e446354322efa6a7393f3919606607e", func := "carillon/carillonlaw05.QualityBytes", spec := "qualityBytes", apart := false }
def QualityBytesSaid : Prop := qualityBytesRow.holds Try.pinned (OpenSpec.ofChange qualityBytesSpec)

/-- ITS FALSE NEIGHBOUR: 'it returns false'. Refute it at one input. -/
def qualityBytesWrong : ChangeSpec := { name := "qualityBytes", fn := fun _ => fun
  | [d1, d2, d3] => { results := [.lit (.bool false)], args := [d1, d2, d3] }
  | _ => none }
def QualityBytesWrongFalsely : Prop := qualityBytesRow.holds Try.pinned (OpenSpec.ofChange qualityBytesWrong)

/- THE SECOND FORM. 'bulk': how many values and letters a reading holds, each counted each time it is reached (what is shared counts as often as it is met; a slice's spare places count too). A statement '..UptoSaid' is the law's where the arguments, and the package variables that the reading takes, are together of bulk at most 1048576: NARROWER than '..Said'. Prove '..Said' where nothing that the law and all that it calls make is longer than what came in: it says more and counts as full. Else prove '..UptoSaid'. A law counts once. -/
mutual
def uptoBulk {H : Type} : DataW H → Nat
  | .lit (.string bytes) => bytes.length + 1
  | .lit _ => 1
  | .nil => 1
  | .ptr d => uptoBulk d + 1
  | .slice elems spare => uptoBulkAll elems + uptoBulkAll spare + 1
  | .agg parts => uptoBulkAll parts + 1
  | .iface _ d => uptoBulk d + 1
  | .map entries => uptoBulkEntries entries + 1
  | .held _ => 1
def uptoBulkAll {H : Type} : List (DataW H) → Nat
  | [] => 0
  | d :: r => uptoBulk d + uptoBulkAll r
def uptoBulkEntries {H : Type} : List (Lit × DataW H) → Nat
  | [] => 0
  | x :: r => uptoBulkEntry x + uptoBulkEntries r
def uptoBulkEntry {H : Type} : Lit × DataW H → Nat
  | (.string bytes, d) => bytes.length + uptoBulk d + 1
  | (_, d) => uptoBulk d + 1
 end
def uptoSmall : (H : Type) → List (DataW H) → Bool := fun _ ds => decide (uptoBulkAll ds ≤ 1048576)
def OpenSpec.upto (s : _root_.Go.ChangeSpec) : _root_.Go.OpenSpec := { _root_.Go.OpenSpec.ofChange s with cond := some uptoSmall }

/-- 'carillonlaw05.QualityBest', WHERE WHAT IT READS IS OF BULK AT MOST 1048576: true; the input reads as it did. -/
def qualityBestUptoRow : OpenClaim := { program := "ytmfahcabdkajnaa", sum := "e3dd0bb75fbe306b614db6d9f653a7337e446354322efa6a7393f3919606607e", func := "carillon/carillonlaw05.QualityBest", spec := "qualityBest", apart := false, narrowed := true }
def QualityBestUptoSaid : Prop := qualityBestUptoRow.holds Try.pinned (OpenSpec.upto qualityBestSpec)

/-- 'carillonlaw05.QualityParts', WHERE WHAT IT READS IS OF BULK AT MOST 1048576: true; the input reads as it did. -/
def qualityPartsUptoRow : OpenClaim := { program := "ytmfahcabdkajnaa", sum := "e3dd0bb75fbe306b614db6d9f653a7337e446354322efa6a7393f3919606607e", func := "carillon/carillonlaw05.QualityParts", spec := "qualityParts", apart := false, narrowed := true }
def QualityPartsUptoSaid : Prop := qualityPartsUptoRow.holds Try.pinned (OpenSpec.upto qualityPartsSpec)

/-- 'carillonlaw05.QualityFirst', WHERE WHAT IT READS IS OF BULK AT MOST 1048576: true; the input reads as it did. -/
def qualityFirstUptoRow : OpenClaim := { program := "ytmfahcabdkajnaa", sum := "e3dd0bb75fbe306b614db6d9f653a7337e446354322efa6a7393f3919606607e", func := "carillon/carillonlaw05.QualityFirst", spec := "qualityFirst", apart := false, narrowed := true }
def QualityFirstUptoSaid : Prop := qualityFirstUptoRow.holds Try.pinned (OpenSpec.upto qualityFirstSpec)

/-- 'carillonlaw05.QualityOrder', WHERE WHAT IT READS IS OF BULK AT MOST 1048576: true; the input reads as it did. -/
def qualityOrderUptoRow : OpenClaim := { program := "ytmfahcabdkajnaa", sum := "e3dd0bb75fbe306b614db6d9f653a7337e446354322efa6a7393f3919606607e", func := "carillon/carillonlaw05.QualityOrder", spec := "qualityOrder", apart := false, narrowed := true }
def QualityOrderUptoSaid : Prop := qualityOrderUptoRow.holds Try.pinned (OpenSpec.upto qualityOrderSpec)

/-- 'carillonlaw05.QualityLimits', WHERE WHAT IT READS IS OF BULK AT MOST 1048576: true; the input reads as it did. -/
def qualityLimitsUptoRow : OpenClaim := { program := "ytmfahcabdkajnaa", sum := "e3dd0bb75fbe306b614db6d9f653a7337e446354322efa6a7393f3919606607e", func := "carillon/carillonlaw05.QualityLimits", spec := "qualityLimits", apart := false, narrowed := true }
def QualityLimitsUptoSaid : Prop := qualityLimitsUptoRow.holds Try.pinned (OpenSpec.upto qualityLimitsSpec)

/-- 'carillonlaw05.QualityBytes', WHERE WHAT IT READS IS OF BULK AT MOST 1048576: true; the input reads as it did. -/
def qualityBytesUptoRow : OpenClaim := { program := "ytmfahcabdkajnaa", sum := "e3dd0bb75fbe306b614db6d9f653a7337e446354322efa6a7393f3919606607e", func := "carillon/carillonlaw05.QualityBytes", spec := "qualityBytes", apart := false, narrowed := true }
def QualityBytesUptoSaid : Prop := qualityBytesUptoRow.holds Try.pinned (OpenSpec.upto qualityBytesSpec)

end Rows
end Go.Proofs.Ytmfahcabdkajnaa
