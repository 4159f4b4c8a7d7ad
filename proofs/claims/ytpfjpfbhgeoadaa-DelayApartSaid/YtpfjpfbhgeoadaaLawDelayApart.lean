/- The law carillonlaw17.DelayApart of the given program answers true for every input that its statement lets in, and leaves its arguments as they were: the row of the statement DelayApartSaid, without a condition of ours. -/
import Derived.Test.YtpfjpfbhgeoadaaRows
import Derived.Test.YtpfjpfbhgeoadaaPx8
import Derived.Test.YtpfjpfbhgeoadaaPureDelayApart
import Derived.WalkKit
import Derived.ProofKit
import Derived.OpenShut
import Derived.ShutString
import Derived.ChangeOld
import Derived.Below
import Derived.SizedLaws
import Derived.Deep.Slices
import Derived.Deep.Fields
import Derived.ChangeSame
import Derived.Test.YtpfjpfbhgeoadaaWSized
namespace Go.Proofs.Ytpfjpfbhgeoadaa.delayApart
open Go.ChangeShapes Go.WideShapes Go.ChangeAt Go.RowKit Go.Proofs.Ytpfjpfbhgeoadaa.P Go.Proofs.YtpfjpfbhgeoadaaW.PrintWords
open Go.ChangeMaps (open_string shut_string)
set_option linter.unusedVariables false
set_option linter.unusedSimpArgs false
theorem own : ownKnob Try.prog.godebug = none := by kernel_rfl
theorem laidOut : laidOutB Try.prog = true := by kernel_rfl
theorem open24 {H : Type} {enc : TypeId × Value → H} {w : World} {base : Nat} {spare : Nat → Bool} {held : Bool} {fuel : Nat} {cs : List Value} {x : DataW H × List MemPlace} (h : DataW.trod enc Try.prog w base spare held fuel 24 cs = some x) :
    ∃ (a0 : Int) (a1 : Int), cs = [.int .u64 a0, .int .i64 a1] ∧ (Lit.int .u64 a0).wf = true ∧ (Lit.int .i64 a1).wf = true := by
  obtain ⟨xs, n, _, _, hl0, hn, hg⟩ := DataW.trod_struct Try.underlying24 h
  have hl : cs.length = 2 := hl0.trans (by kernel_rfl)
  have hn2 : xs.length = 2 := hn
  clear hl0 hn h
  match cs, hl with
  | [c0, c1], _ =>
    have g0 : DataW.trod enc Try.prog w base spare held n 22 [c0] = some (xs[0]'(by omega)) := by
      have hC : Try.prog.cellsOf 22 = 1 := by kernel_rfl
      have z : DataW.trod enc Try.prog w base spare held n 22 (([c0, c1].drop 0).take (Try.prog.cellsOf 22)) = xs[0]? := hg 0 _ rfl
      rw [List.getElem?_eq_getElem (by omega : 0 < xs.length), hC] at z
      exact z
    obtain ⟨b0, e0, _, w0⟩ := DataW.trod_int Try.underlying22 g0
    injection e0 with q0_0 e0
    clear g0
    have g1 : DataW.trod enc Try.prog w base spare held n 3 [c1] = some (xs[1]'(by omega)) := by
      have hC : Try.prog.cellsOf 3 = 1 := by kernel_rfl
      have z : DataW.trod enc Try.prog w base spare held n 3 (([c0, c1].drop 1).take (Try.prog.cellsOf 3)) = xs[1]? := hg 1 _ rfl
      rw [List.getElem?_eq_getElem (by omega : 1 < xs.length), hC] at z
      exact z
    obtain ⟨b1, e1, _, w1⟩ := DataW.trod_int Try.underlying3 g1
    injection e1 with q1_0 e1
    clear g1
    clear hg
    subst q0_0
    subst q1_0
    exact ⟨b0, b1, rfl, w0, w1⟩
set_option maxRecDepth 100000 in
theorem lifted (os : Os) (started : os.Started) (H : Type) (enc : TypeId × Value → H) :
    ReturnsInHanded {} Try.checked os 7 .any (Rows.delayApartSpec.pre6 enc Try.prog Try.f7 Rows.delayApartRow.domain false) (Rows.delayApartSpec.post enc Try.prog Try.f7 false true false false) := by
  refine returnsInHanded_of_change_sized (C := Try.checked) own started (by kernel_rfl) Try.func7
    (ChangeSpec.witness6 (enc := enc) (C := Try.checked) false ⟨#[], #[.agg #[.int .u64 0, .int .i64 0], .agg #[.int .u64 0, .int .i64 0], .int .i64 0, .int .i64 0, .int .i64 0], []⟩ 8 (by kernel_rfl) (by kernel_rfl) (by kernel_rfl) (by kernel_rfl)) ?_
  intro W base args ds gs before hval0 hW hcnd hsz0 _
  have hsz : (DataW.weightsEach Try.prog (Try.f7.params.toList ++ Rows.delayApartSpec.plain.varTypes Try.prog) (ds ++ gs)).all (· ≤ reachBytes) = true := hsz0
  have hval : ∀ (j : Nat) t v, Try.f7.params[j]? = some t → args[j]? = some v → Value.okWide Try.prog W .any base t v := hval0
  have hW' := hW
  obtain ⟨p, q, hA0, hV, rfl, hfz, hnd⟩ := hW
  have hA : DataW.TrodAll enc Try.prog W 0 (fun _ => true) true Try.f7.params.toList args.toList ds p := hA0
  rw [Try.params7] at hA hval hsz
  obtain ⟨v0, vs0, d0, ds0, p0, q0, hargs, rfl, rfl, h0, r0⟩ := trodAll_cons hA
  obtain ⟨v1, vs1, d1, ds1, p1, q1, rfl, rfl, rfl, h1, r1⟩ := trodAll_cons r0
  obtain ⟨v2, vs2, d2, ds2, p2, q2, rfl, rfl, rfl, h2, r2⟩ := trodAll_cons r1
  obtain ⟨v3, vs3, d3, ds3, p3, q3, rfl, rfl, rfl, h3, r3⟩ := trodAll_cons r2
  obtain ⟨v4, vs4, d4, ds4, p4, q4, rfl, rfl, rfl, h4, r4⟩ := trodAll_cons r3
  obtain ⟨rfl, rfl, rfl⟩ := trodAll_nil r4
  obtain rfl : args = #[v0, v1, v2, v3, v4] := by cases args; simp_all
  obtain ⟨rfl, rfl⟩ := trodVars_none hV
  obtain ⟨cs0, rfl, _⟩ := okWide_struct Try.underlying24 (hval 0 24 v0 rfl rfl)
  have k0 := h0
  have lt0 : ∀ x ∈ p0, x.block < W.heap.size := by obtain ⟨m, hm⟩ := k0; exact DataW.trod_lt m _ _ _ hm
  obtain ⟨a0_0, a0_1, rfl, w0_0, w0_1⟩ : ∃ (a0_0 : Int) (a0_1 : Int), cs0 = #[.int .u64 a0_0, .int .i64 a0_1] ∧ (Lit.int .u64 a0_0).wf = true ∧ (Lit.int .i64 a0_1).wf = true := by
    obtain ⟨fuel, hf⟩ := h0
    obtain ⟨a0_0, a0_1, hcs, w0_0, w0_1⟩ := open24 hf
    exact ⟨a0_0, a0_1, Array.toList_inj.1 hcs, w0_0, w0_1⟩
  obtain ⟨cs1, rfl, _⟩ := okWide_struct Try.underlying24 (hval 1 24 v1 rfl rfl)
  have k1 := h1
  have lt1 : ∀ x ∈ p1, x.block < W.heap.size := by obtain ⟨m, hm⟩ := k1; exact DataW.trod_lt m _ _ _ hm
  obtain ⟨a1_0, a1_1, rfl, w1_0, w1_1⟩ : ∃ (a1_0 : Int) (a1_1 : Int), cs1 = #[.int .u64 a1_0, .int .i64 a1_1] ∧ (Lit.int .u64 a1_0).wf = true ∧ (Lit.int .i64 a1_1).wf = true := by
    obtain ⟨fuel, hf⟩ := h1
    obtain ⟨a1_0, a1_1, hcs, w1_0, w1_1⟩ := open24 hf
    exact ⟨a1_0, a1_1, Array.toList_inj.1 hcs, w1_0, w1_1⟩
  obtain ⟨a2, rfl, rfl, rfl, w2⟩ := open_int Try.underlying3 (hval 2 3 v2 rfl rfl) h2
  obtain ⟨a3, rfl, rfl, rfl, w3⟩ := open_int Try.underlying3 (hval 3 3 v3 rfl rfl) h3
  obtain ⟨a4, rfl, rfl, rfl, w4⟩ := open_int Try.underlying3 (hval 4 3 v4 rfl rfl) h4
  clear hA0 hval0 hsz0 hsz
  refine (carillonlaw17_DelayApart.walk Pure.DelayApart a0_0 a0_1 a1_0 a1_1 a2 a3 a4 W w0_0 w0_1 w1_0 w1_1 w2 w3 w4).mono fun e W' ⟨he, bel⟩ => ?_
  subst he
  exact ⟨_, rfl, _, _, _, [], _, [], hW', trodAll_mk1 (shut_bool Try.underlying4 _), (trodAll_cons_mk (Below.trod laidOut (by kernel_rfl) (of_decide_eq_true (by kernel_rfl)) k0 bel lt0) (trodAll_cons_mk (Below.trod laidOut (by kernel_rfl) (of_decide_eq_true (by kernel_rfl)) k1 bel lt1) (trodAll_cons_mk (shut_int Try.underlying3 w2) (trodAll_cons_mk (shut_int Try.underlying3 w3) (trodAll_cons_mk (shut_int Try.underlying3 w4) trodAll_mk0))))), rfl, bel.frame _, fun h => by cases h⟩
theorem over : Rows.delayApartRow.holds Try.pinned (OpenSpec.ofChange Rows.delayApartSpec) :=
  OpenClaim.holds_of_wide 7 Try.f7 rfl rfl rfl rfl rfl rfl rfl ⟨rfl, rfl, rfl, rfl, rfl⟩ rfl rfl rfl rfl rfl (by kernel_rfl) Try.func7 (by kernel_rfl)
    (of_decide_eq_true (by kernel_rfl)) (by unfold Func.isWrapper; first | (rw [if_pos (by decide +kernel)]; kernel_rfl) | (rw [if_neg (by decide +kernel)]; exact ⟨rfl, rfl⟩))
    (fun os started H enc _ => lifted os started H enc)
theorem proved : Rows.DelayApartSaid := over
#print axioms proved
end Go.Proofs.Ytpfjpfbhgeoadaa.delayApart
namespace Go.Proofs.Ytpfjpfbhgeoadaa
/-- The row, under a short name, for the claim. -/
theorem delayApart_holds : Rows.DelayApartSaid := delayApart.proved
end Go.Proofs.Ytpfjpfbhgeoadaa
