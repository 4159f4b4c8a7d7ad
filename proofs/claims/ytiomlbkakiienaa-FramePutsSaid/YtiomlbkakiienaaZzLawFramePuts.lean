/- The law carillonlaw09.FramePuts of the given program answers true for every input that its statement lets in, and leaves its arguments as they were: the row of the statement FramePutsSaid, without a condition of ours. -/
import Derived.Test.YtiomlbkakiienaaRows
import Derived.Test.YtiomlbkakiienaaZzPx10
import Derived.Test.YtiomlbkakiienaaZzPureFramePuts
import Derived.WalkKit
import Derived.ProofKit
import Derived.OpenShut
import Derived.ShutString
import Derived.ChangeOld
import Derived.Below
import Derived.SizedLaws
import Derived.Deep.Slices
import Derived.Deep.Fields
import Derived.ChangeSame
import Derived.ChangeSlices
namespace Go.Proofs.Ytiomlbkakiienaa.framePuts
open Go.ChangeShapes Go.WideShapes Go.ChangeAt Go.RowKit Go.Proofs.Ytiomlbkakiienaa.P Go.Proofs.YtiomlbkakiienaaW.PrintWords
open Go.ChangeMaps (open_string shut_string)
set_option linter.unusedVariables false
set_option linter.unusedSimpArgs false
theorem own : ownKnob Try.prog.godebug = none := by kernel_rfl
theorem laidOut : laidOutB Try.prog = true := by kernel_rfl
theorem open24 {H : Type} {enc : TypeId × Value → H} {w : World} {base : Nat} {spare : Nat → Bool} {held : Bool} {fuel : Nat} {cs : List Value} {x : DataW H × List MemPlace} (h : DataW.trod enc Try.prog w base spare held fuel 24 cs = some x) :
    ∃ (a0 : Int) (a1 : Int), cs = [.int .u64 a0, .int .i64 a1] ∧ (Lit.int .u64 a0).wf = true ∧ (Lit.int .i64 a1).wf = true := by
  obtain ⟨xs, n, _, _, hl0, hn, hg⟩ := DataW.trod_struct Try.underlying24 h
  have hl : cs.length = 2 := hl0.trans (by kernel_rfl)
  have hn2 : xs.length = 2 := hn
  clear hl0 hn h
  match cs, hl with
  | [c0, c1], _ =>
    have g0 : DataW.trod enc Try.prog w base spare held n 22 [c0] = some (xs[0]'(by omega)) := by
      have hC : Try.prog.cellsOf 22 = 1 := by kernel_rfl
      have z : DataW.trod enc Try.prog w base spare held n 22 (([c0, c1].drop 0).take (Try.prog.cellsOf 22)) = xs[0]? := hg 0 _ rfl
      rw [List.getElem?_eq_getElem (by omega : 0 < xs.length), hC] at z
      exact z
    obtain ⟨b0, e0, _, w0⟩ := DataW.trod_int Try.underlying22 g0
    injection e0 with q0_0 e0
    clear g0
    have g1 : DataW.trod enc Try.prog w base spare held n 3 [c1] = some (xs[1]'(by omega)) := by
      have hC : Try.prog.cellsOf 3 = 1 := by kernel_rfl
      have z : DataW.trod enc Try.prog w base spare held n 3 (([c0, c1].drop 1).take (Try.prog.cellsOf 3)) = xs[1]? := hg 1 _ rfl
      rw [List.getElem?_eq_getElem (by omega : 1 < xs.length), hC] at z
      exact z
    obtain ⟨b1, e1, _, w1⟩ := DataW.trod_int Try.underlying3 g1
    injection e1 with q1_0 e1
    clear g1
    clear hg
    subst q0_0
    subst q1_0
    exact ⟨b0, b1, rfl, w0, w1⟩
theorem open26 {H : Type} {enc : TypeId × Value → H} {w : World} {base : Nat} {spare : Nat → Bool} {held : Bool} {fuel : Nat} {cs : List Value} {x : DataW H × List MemPlace} (h : DataW.trod enc Try.prog w base spare held fuel 26 cs = some x) :
    ∃ (a0 : Int) (a1 : Int) (a2 : Int), cs = [.int .i64 a0, .int .i64 a1, .int .i64 a2] ∧ (Lit.int .i64 a0).wf = true ∧ (Lit.int .i64 a1).wf = true ∧ (Lit.int .i64 a2).wf = true := by
  obtain ⟨xs, n, _, _, hl0, hn, hg⟩ := DataW.trod_struct Try.underlying26 h
  have hl : cs.length = 3 := hl0.trans (by kernel_rfl)
  have hn2 : xs.length = 3 := hn
  clear hl0 hn h
  match cs, hl with
  | [c0, c1, c2], _ =>
    have g0 : DataW.trod enc Try.prog w base spare held n 3 [c0] = some (xs[0]'(by omega)) := by
      have hC : Try.prog.cellsOf 3 = 1 := by kernel_rfl
      have z : DataW.trod enc Try.prog w base spare held n 3 (([c0, c1, c2].drop 0).take (Try.prog.cellsOf 3)) = xs[0]? := hg 0 _ rfl
      rw [List.getElem?_eq_getElem (by omega : 0 < xs.length), hC] at z
      exact z
    obtain ⟨b0, e0, _, w0⟩ := DataW.trod_int Try.underlying3 g0
    injection e0 with q0_0 e0
    clear g0
    have g1 : DataW.trod enc Try.prog w base spare held n 3 [c1] = some (xs[1]'(by omega)) := by
      have hC : Try.prog.cellsOf 3 = 1 := by kernel_rfl
      have z : DataW.trod enc Try.prog w base spare held n 3 (([c0, c1, c2].drop 1).take (Try.prog.cellsOf 3)) = xs[1]? := hg 1 _ rfl
      rw [List.getElem?_eq_getElem (by omega : 1 < xs.length), hC] at z
      exact z
    obtain ⟨b1, e1, _, w1⟩ := DataW.trod_int Try.underlying3 g1
    injection e1 with q1_0 e1
    clear g1
    have g2 : DataW.trod enc Try.prog w base spare held n 3 [c2] = some (xs[2]'(by omega)) := by
      have hC : Try.prog.cellsOf 3 = 1 := by kernel_rfl
      have z : DataW.trod enc Try.prog w base spare held n 3 (([c0, c1, c2].drop 2).take (Try.prog.cellsOf 3)) = xs[2]? := hg 2 _ rfl
      rw [List.getElem?_eq_getElem (by omega : 2 < xs.length), hC] at z
      exact z
    obtain ⟨b2, e2, _, w2⟩ := DataW.trod_int Try.underlying3 g2
    injection e2 with q2_0 e2
    clear g2
    clear hg
    subst q0_0
    subst q1_0
    subst q2_0
    exact ⟨b0, b1, b2, rfl, w0, w1, w2⟩
theorem open28 {H : Type} {enc : TypeId × Value → H} {w : World} {base : Nat} {spare : Nat → Bool} {held : Bool} {fuel : Nat} {cs : List Value} {x : DataW H × List MemPlace} (h : DataW.trod enc Try.prog w base spare held fuel 28 cs = some x) :
    ∃ (a0 : Int) (a1 : Int) (a2 : Int) (a3 : Int) (a4 : Int) (a5 : Int) (a6 : Int) (a7 : Int) (a8 : Int) (a9 : Int) (a10 : Int) (a11 : Int) (a12 : Int) (a13 : Int) (a14 : Int) (a15 : Int) (a16 : Int) (a17 : Int) (a18 : Int) (a19 : Int) (a20 : Int) (a21 : Int) (a22 : Int), cs = [.int .i64 a0, .int .i64 a1, .int .i64 a2, .int .i64 a3, .int .u64 a4, .int .i64 a5, .int .i64 a6, .int .i64 a7, .int .i64 a8, .int .u64 a9, .int .i64 a10, .int .i64 a11, .int .i64 a12, .int .i64 a13, .int .i64 a14, .int .i64 a15, .int .i64 a16, .int .u64 a17, .int .i64 a18, .int .i64 a19, .int .i64 a20, .int .i64 a21, .int .i64 a22] ∧ (Lit.int .i64 a0).wf = true ∧ (Lit.int .i64 a1).wf = true ∧ (Lit.int .i64 a2).wf = true ∧ (Lit.int .i64 a3).wf = true ∧ (Lit.int .u64 a4).wf = true ∧ (Lit.int .i64 a5).wf = true ∧ (Lit.int .i64 a6).wf = true ∧ (Lit.int .i64 a7).wf = true ∧ (Lit.int .i64 a8).wf = true ∧ (Lit.int .u64 a9).wf = true ∧ (Lit.int .i64 a10).wf = true ∧ (Lit.int .i64 a11).wf = true ∧ (Lit.int .i64 a12).wf = true ∧ (Lit.int .i64 a13).wf = true ∧ (Lit.int .i64 a14).wf = true ∧ (Lit.int .i64 a15).wf = true ∧ (Lit.int .i64 a16).wf = true ∧ (Lit.int .u64 a17).wf = true ∧ (Lit.int .i64 a18).wf = true ∧ (Lit.int .i64 a19).wf = true ∧ (Lit.int .i64 a20).wf = true ∧ (Lit.int .i64 a21).wf = true ∧ (Lit.int .i64 a22).wf = true := by
  obtain ⟨xs, n, _, _, hl0, hn, hg⟩ := DataW.trod_struct Try.underlying28 h
  have hl : cs.length = 23 := hl0.trans (by kernel_rfl)
  have hn2 : xs.length = 19 := hn
  clear hl0 hn h
  match cs, hl with
  | [c0, c1, c2, c3, c4, c5, c6, c7, c8, c9, c10, c11, c12, c13, c14, c15, c16, c17, c18, c19, c20, c21, c22], _ =>
    have g0 : DataW.trod enc Try.prog w base spare held n 3 [c0] = some (xs[0]'(by omega)) := by
      have hC : Try.prog.cellsOf 3 = 1 := by kernel_rfl
      have z : DataW.trod enc Try.prog w base spare held n 3 (([c0, c1, c2, c3, c4, c5, c6, c7, c8, c9, c10, c11, c12, c13, c14, c15, c16, c17, c18, c19, c20, c21, c22].drop 0).take (Try.prog.cellsOf 3)) = xs[0]? := hg 0 _ rfl
      rw [List.getElem?_eq_getElem (by omega : 0 < xs.length), hC] at z
      exact z
    obtain ⟨b0, e0, _, w0⟩ := DataW.trod_int Try.underlying3 g0
    injection e0 with q0_0 e0
    clear g0
    have g1 : DataW.trod enc Try.prog w base spare held n 3 [c1] = some (xs[1]'(by omega)) := by
      have hC : Try.prog.cellsOf 3 = 1 := by kernel_rfl
      have z : DataW.trod enc Try.prog w base spare held n 3 (([c0, c1, c2, c3, c4, c5, c6, c7, c8, c9, c10, c11, c12, c13, c14, c15, c16, c17, c18, c19, c20, c21, c22].drop 1).take (Try.prog.cellsOf 3)) = xs[1]? := hg 1 _ rfl
      rw [List.getElem?_eq_getElem (by omega : 1 < xs.length), hC] at z
      exact z
    obtain ⟨b1, e1, _, w1⟩ := DataW.trod_int Try.underlying3 g1
    injection e1 with q1_0 e1
    clear g1
    have g2 : DataW.trod enc Try.prog w base spare held n 3 [c2] = some (xs[2]'(by omega)) := by
      have hC : Try.prog.cellsOf 3 = 1 := by kernel_rfl
      have z : DataW.trod enc Try.prog w base spare held n 3 (([c0, c1, c2, c3, c4, c5, c6, c7, c8, c9, c10, c11, c12, c13, c14, c15, c16, c17, c18, c19, c20, c21, c22].drop 2).take (Try.prog.cellsOf 3)) = xs[2]? := hg 2 _ rfl
      rw [List.getElem?_eq_getElem (by omega : 2 < xs.length), hC] at z
      exact z
    obtain ⟨b2, e2, _, w2⟩ := DataW.trod_int Try.underlying3 g2
    injection e2 with q2_0 e2
    clear g2
    have g3 : DataW.trod enc Try.prog w base spare held n 3 [c3] = some (xs[3]'(by omega)) := by
      have hC : Try.prog.cellsOf 3 = 1 := by kernel_rfl
      have z : DataW.trod enc Try.prog w base spare held n 3 (([c0, c1, c2, c3, c4, c5, c6, c7, c8, c9, c10, c11, c12, c13, c14, c15, c16, c17, c18, c19, c20, c21, c22].drop 3).take (Try.prog.cellsOf 3)) = xs[3]? := hg 3 _ rfl
      rw [List.getElem?_eq_getElem (by omega : 3 < xs.length), hC] at z
      exact z
    obtain ⟨b3, e3, _, w3⟩ := DataW.trod_int Try.underlying3 g3
    injection e3 with q3_0 e3
    clear g3
    have g4 : DataW.trod enc Try.prog w base spare held n 24 [c4, c5] = some (xs[4]'(by omega)) := by
      have hC : Try.prog.cellsOf 24 = 2 := by kernel_rfl
      have z : DataW.trod enc Try.prog w base spare held n 24 (([c0, c1, c2, c3, c4, c5, c6, c7, c8, c9, c10, c11, c12, c13, c14, c15, c16, c17, c18, c19, c20, c21, c22].drop 4).take (Try.prog.cellsOf 24)) = xs[4]? := hg 4 _ rfl
      rw [List.getElem?_eq_getElem (by omega : 4 < xs.length), hC] at z
      exact z
    obtain ⟨b4, b5, e4, w4, w5⟩ := open24 g4
    simp only [List.cons.injEq, and_true] at e4
    clear g4
    have g5 : DataW.trod enc Try.prog w base spare held n 3 [c6] = some (xs[5]'(by omega)) := by
      have hC : Try.prog.cellsOf 3 = 1 := by kernel_rfl
      have z : DataW.trod enc Try.prog w base spare held n 3 (([c0, c1, c2, c3, c4, c5, c6, c7, c8, c9, c10, c11, c12, c13, c14, c15, c16, c17, c18, c19, c20, c21, c22].drop 6).take (Try.prog.cellsOf 3)) = xs[5]? := hg 5 _ rfl
      rw [List.getElem?_eq_getElem (by omega : 5 < xs.length), hC] at z
      exact z
    obtain ⟨b6, e5, _, w6⟩ := DataW.trod_int Try.underlying3 g5
    injection e5 with q5_0 e5
    clear g5
    have g6 : DataW.trod enc Try.prog w base spare held n 3 [c7] = some (xs[6]'(by omega)) := by
      have hC : Try.prog.cellsOf 3 = 1 := by kernel_rfl
      have z : DataW.trod enc Try.prog w base spare held n 3 (([c0, c1, c2, c3, c4, c5, c6, c7, c8, c9, c10, c11, c12, c13, c14, c15, c16, c17, c18, c19, c20, c21, c22].drop 7).take (Try.prog.cellsOf 3)) = xs[6]? := hg 6 _ rfl
      rw [List.getElem?_eq_getElem (by omega : 6 < xs.length), hC] at z
      exact z
    obtain ⟨b7, e6, _, w7⟩ := DataW.trod_int Try.underlying3 g6
    injection e6 with q6_0 e6
    clear g6
    have g7 : DataW.trod enc Try.prog w base spare held n 3 [c8] = some (xs[7]'(by omega)) := by
      have hC : Try.prog.cellsOf 3 = 1 := by kernel_rfl
      have z : DataW.trod enc Try.prog w base spare held n 3 (([c0, c1, c2, c3, c4, c5, c6, c7, c8, c9, c10, c11, c12, c13, c14, c15, c16, c17, c18, c19, c20, c21, c22].drop 8).take (Try.prog.cellsOf 3)) = xs[7]? := hg 7 _ rfl
      rw [List.getElem?_eq_getElem (by omega : 7 < xs.length), hC] at z
      exact z
    obtain ⟨b8, e7, _, w8⟩ := DataW.trod_int Try.underlying3 g7
    injection e7 with q7_0 e7
    clear g7
    have g8 : DataW.trod enc Try.prog w base spare held n 24 [c9, c10] = some (xs[8]'(by omega)) := by
      have hC : Try.prog.cellsOf 24 = 2 := by kernel_rfl
      have z : DataW.trod enc Try.prog w base spare held n 24 (([c0, c1, c2, c3, c4, c5, c6, c7, c8, c9, c10, c11, c12, c13, c14, c15, c16, c17, c18, c19, c20, c21, c22].drop 9).take (Try.prog.cellsOf 24)) = xs[8]? := hg 8 _ rfl
      rw [List.getElem?_eq_getElem (by omega : 8 < xs.length), hC] at z
      exact z
    obtain ⟨b9, b10, e8, w9, w10⟩ := open24 g8
    simp only [List.cons.injEq, and_true] at e8
    clear g8
    have g9 : DataW.trod enc Try.prog w base spare held n 3 [c11] = some (xs[9]'(by omega)) := by
      have hC : Try.prog.cellsOf 3 = 1 := by kernel_rfl
      have z : DataW.trod enc Try.prog w base spare held n 3 (([c0, c1, c2, c3, c4, c5, c6, c7, c8, c9, c10, c11, c12, c13, c14, c15, c16, c17, c18, c19, c20, c21, c22].drop 11).take (Try.prog.cellsOf 3)) = xs[9]? := hg 9 _ rfl
      rw [List.getElem?_eq_getElem (by omega : 9 < xs.length), hC] at z
      exact z
    obtain ⟨b11, e9, _, w11⟩ := DataW.trod_int Try.underlying3 g9
    injection e9 with q9_0 e9
    clear g9
    have g10 : DataW.trod enc Try.prog w base spare held n 3 [c12] = some (xs[10]'(by omega)) := by
      have hC : Try.prog.cellsOf 3 = 1 := by kernel_rfl
      have z : DataW.trod enc Try.prog w base spare held n 3 (([c0, c1, c2, c3, c4, c5, c6, c7, c8, c9, c10, c11, c12, c13, c14, c15, c16, c17, c18, c19, c20, c21, c22].drop 12).take (Try.prog.cellsOf 3)) = xs[10]? := hg 10 _ rfl
      rw [List.getElem?_eq_getElem (by omega : 10 < xs.length), hC] at z
      exact z
    obtain ⟨b12, e10, _, w12⟩ := DataW.trod_int Try.underlying3 g10
    injection e10 with q10_0 e10
    clear g10
    have g11 : DataW.trod enc Try.prog w base spare held n 26 [c13, c14, c15] = some (xs[11]'(by omega)) := by
      have hC : Try.prog.cellsOf 26 = 3 := by kernel_rfl
      have z : DataW.trod enc Try.prog w base spare held n 26 (([c0, c1, c2, c3, c4, c5, c6, c7, c8, c9, c10, c11, c12, c13, c14, c15, c16, c17, c18, c19, c20, c21, c22].drop 13).take (Try.prog.cellsOf 26)) = xs[11]? := hg 11 _ rfl
      rw [List.getElem?_eq_getElem (by omega : 11 < xs.length), hC] at z
      exact z
    obtain ⟨b13, b14, b15, e11, w13, w14, w15⟩ := open26 g11
    simp only [List.cons.injEq, and_true] at e11
    clear g11
    have g12 : DataW.trod enc Try.prog w base spare held n 3 [c16] = some (xs[12]'(by omega)) := by
      have hC : Try.prog.cellsOf 3 = 1 := by kernel_rfl
      have z : DataW.trod enc Try.prog w base spare held n 3 (([c0, c1, c2, c3, c4, c5, c6, c7, c8, c9, c10, c11, c12, c13, c14, c15, c16, c17, c18, c19, c20, c21, c22].drop 16).take (Try.prog.cellsOf 3)) = xs[12]? := hg 12 _ rfl
      rw [List.getElem?_eq_getElem (by omega : 12 < xs.length), hC] at z
      exact z
    obtain ⟨b16, e12, _, w16⟩ := DataW.trod_int Try.underlying3 g12
    injection e12 with q12_0 e12
    clear g12
    have g13 : DataW.trod enc Try.prog w base spare held n 22 [c17] = some (xs[13]'(by omega)) := by
      have hC : Try.prog.cellsOf 22 = 1 := by kernel_rfl
      have z : DataW.trod enc Try.prog w base spare held n 22 (([c0, c1, c2, c3, c4, c5, c6, c7, c8, c9, c10, c11, c12, c13, c14, c15, c16, c17, c18, c19, c20, c21, c22].drop 17).take (Try.prog.cellsOf 22)) = xs[13]? := hg 13 _ rfl
      rw [List.getElem?_eq_getElem (by omega : 13 < xs.length), hC] at z
      exact z
    obtain ⟨b17, e13, _, w17⟩ := DataW.trod_int Try.underlying22 g13
    injection e13 with q13_0 e13
    clear g13
    have g14 : DataW.trod enc Try.prog w base spare held n 3 [c18] = some (xs[14]'(by omega)) := by
      have hC : Try.prog.cellsOf 3 = 1 := by kernel_rfl
      have z : DataW.trod enc Try.prog w base spare held n 3 (([c0, c1, c2, c3, c4, c5, c6, c7, c8, c9, c10, c11, c12, c13, c14, c15, c16, c17, c18, c19, c20, c21, c22].drop 18).take (Try.prog.cellsOf 3)) = xs[14]? := hg 14 _ rfl
      rw [List.getElem?_eq_getElem (by omega : 14 < xs.length), hC] at z
      exact z
    obtain ⟨b18, e14, _, w18⟩ := DataW.trod_int Try.underlying3 g14
    injection e14 with q14_0 e14
    clear g14
    have g15 : DataW.trod enc Try.prog w base spare held n 3 [c19] = some (xs[15]'(by omega)) := by
      have hC : Try.prog.cellsOf 3 = 1 := by kernel_rfl
      have z : DataW.trod enc Try.prog w base spare held n 3 (([c0, c1, c2, c3, c4, c5, c6, c7, c8, c9, c10, c11, c12, c13, c14, c15, c16, c17, c18, c19, c20, c21, c22].drop 19).take (Try.prog.cellsOf 3)) = xs[15]? := hg 15 _ rfl
      rw [List.getElem?_eq_getElem (by omega : 15 < xs.length), hC] at z
      exact z
    obtain ⟨b19, e15, _, w19⟩ := DataW.trod_int Try.underlying3 g15
    injection e15 with q15_0 e15
    clear g15
    have g16 : DataW.trod enc Try.prog w base spare held n 3 [c20] = some (xs[16]'(by omega)) := by
      have hC : Try.prog.cellsOf 3 = 1 := by kernel_rfl
      have z : DataW.trod enc Try.prog w base spare held n 3 (([c0, c1, c2, c3, c4, c5, c6, c7, c8, c9, c10, c11, c12, c13, c14, c15, c16, c17, c18, c19, c20, c21, c22].drop 20).take (Try.prog.cellsOf 3)) = xs[16]? := hg 16 _ rfl
      rw [List.getElem?_eq_getElem (by omega : 16 < xs.length), hC] at z
      exact z
    obtain ⟨b20, e16, _, w20⟩ := DataW.trod_int Try.underlying3 g16
    injection e16 with q16_0 e16
    clear g16
    have g17 : DataW.trod enc Try.prog w base spare held n 3 [c21] = some (xs[17]'(by omega)) := by
      have hC : Try.prog.cellsOf 3 = 1 := by kernel_rfl
      have z : DataW.trod enc Try.prog w base spare held n 3 (([c0, c1, c2, c3, c4, c5, c6, c7, c8, c9, c10, c11, c12, c13, c14, c15, c16, c17, c18, c19, c20, c21, c22].drop 21).take (Try.prog.cellsOf 3)) = xs[17]? := hg 17 _ rfl
      rw [List.getElem?_eq_getElem (by omega : 17 < xs.length), hC] at z
      exact z
    obtain ⟨b21, e17, _, w21⟩ := DataW.trod_int Try.underlying3 g17
    injection e17 with q17_0 e17
    clear g17
    have g18 : DataW.trod enc Try.prog w base spare held n 3 [c22] = some (xs[18]'(by omega)) := by
      have hC : Try.prog.cellsOf 3 = 1 := by kernel_rfl
      have z : DataW.trod enc Try.prog w base spare held n 3 (([c0, c1, c2, c3, c4, c5, c6, c7, c8, c9, c10, c11, c12, c13, c14, c15, c16, c17, c18, c19, c20, c21, c22].drop 22).take (Try.prog.cellsOf 3)) = xs[18]? := hg 18 _ rfl
      rw [List.getElem?_eq_getElem (by omega : 18 < xs.length), hC] at z
      exact z
    obtain ⟨b22, e18, _, w22⟩ := DataW.trod_int Try.underlying3 g18
    injection e18 with q18_0 e18
    clear g18
    clear hg
    subst q0_0
    subst q1_0
    subst q2_0
    subst q3_0
    obtain ⟨rfl, rfl⟩ := e4
    subst q5_0
    subst q6_0
    subst q7_0
    obtain ⟨rfl, rfl⟩ := e8
    subst q9_0
    subst q10_0
    obtain ⟨rfl, rfl, rfl⟩ := e11
    subst q12_0
    subst q13_0
    subst q14_0
    subst q15_0
    subst q16_0
    subst q17_0
    subst q18_0
    exact ⟨b0, b1, b2, b3, b4, b5, b6, b7, b8, b9, b10, b11, b12, b13, b14, b15, b16, b17, b18, b19, b20, b21, b22, rfl, w0, w1, w2, w3, w4, w5, w6, w7, w8, w9, w10, w11, w12, w13, w14, w15, w16, w17, w18, w19, w20, w21, w22⟩
theorem open43 {H : Type} {enc : TypeId × Value → H} {w : World} {base : Nat} {spare : Nat → Bool} {held : Bool} {fuel : Nat} {cs : List Value} {x : DataW H × List MemPlace} (h : DataW.trod enc Try.prog w base spare held fuel 43 cs = some x) :
    ∃ (a0 : Int) (a1 : ByteArray), cs = [.int .i64 a0, .string a1] ∧ (Lit.int .i64 a0).wf = true ∧ a1.size ≤ 9223372036854775807 := by
  obtain ⟨xs, n, _, _, hl0, hn, hg⟩ := DataW.trod_struct Try.underlying43 h
  have hl : cs.length = 2 := hl0.trans (by kernel_rfl)
  have hn2 : xs.length = 2 := hn
  clear hl0 hn h
  match cs, hl with
  | [c0, c1], _ =>
    have g0 : DataW.trod enc Try.prog w base spare held n 3 [c0] = some (xs[0]'(by omega)) := by
      have hC : Try.prog.cellsOf 3 = 1 := by kernel_rfl
      have z : DataW.trod enc Try.prog w base spare held n 3 (([c0, c1].drop 0).take (Try.prog.cellsOf 3)) = xs[0]? := hg 0 _ rfl
      rw [List.getElem?_eq_getElem (by omega : 0 < xs.length), hC] at z
      exact z
    obtain ⟨b0, e0, _, w0⟩ := DataW.trod_int Try.underlying3 g0
    injection e0 with q0_0 e0
    clear g0
    have g1 : DataW.trod enc Try.prog w base spare held n 9 [c1] = some (xs[1]'(by omega)) := by
      have hC : Try.prog.cellsOf 9 = 1 := by kernel_rfl
      have z : DataW.trod enc Try.prog w base spare held n 9 (([c0, c1].drop 1).take (Try.prog.cellsOf 9)) = xs[1]? := hg 1 _ rfl
      rw [List.getElem?_eq_getElem (by omega : 1 < xs.length), hC] at z
      exact z
    obtain ⟨b1, e1, _, w1⟩ := DataW.trod_string Try.underlying9 g1
    injection e1 with q1_0 e1
    clear g1
    clear hg
    subst q0_0
    subst q1_0
    exact ⟨b0, b1, rfl, w0, (by simpa [maxLen] using w1)⟩
theorem pickAll {α : Type} {R : Nat → α → Prop} : ∀ (n : Nat), (∀ i, i < n → ∃ x, R i x) → ∃ l : List α, l.length = n ∧ ∀ j p, l[j]? = some p → R j p
  | 0, _ => ⟨[], rfl, fun j p h => by simp at h⟩
  | n + 1, h => by
    obtain ⟨l, hl, hr⟩ := pickAll n (fun i hi => h i (by omega))
    obtain ⟨x, hx⟩ := h n (by omega)
    refine ⟨l ++ [x], by simp [hl], fun j p hj => ?_⟩
    by_cases hlt : j < n
    · rw [List.getElem?_append_left (by omega)] at hj
      exact hr j p hj
    · have hj2 := (List.getElem?_eq_some_iff.1 hj).1
      simp [hl] at hj2
      obtain rfl : j = n := by omega
      rw [List.getElem?_append_right (by omega), hl] at hj
      simp at hj
      subst hj
      exact hx
theorem rowOf43 {H : Type} {enc : TypeId × Value → H} {W : World} {base : Nat} {spare : Nat → Bool} {held : Bool} {t : TypeId} {a : Option Addr} {len cap : Nat} {d : DataW H} {ps : List MemPlace} {ts : List TypeId} {ds : List (DataW H)} {j : Nat}
    (hsz : (DataW.weightsEach Try.prog ts ds).all (· ≤ reachBytes) = true) (ht : ts[j]? = some t) (hd : ds[j]? = some d) (hu : Try.prog.underlying t = some (.slice 43))
    (h : DataW.Trod enc Try.prog W base spare held t (.slice a len cap) d ps) :
    ∃ l : List S43, len = l.length ∧ Kd.C k43 W a l.length l ∧ l.length ≤ cap ∧ l.length ≤ maxLen ∧ l.length * 24 ≤ 140737488351232 ∧ (∀ x ∈ l, (Lit.int .i64 x.f0).wf = true ∧ x.f1.size ≤ 9223372036854775807) := by
  obtain ⟨fuel, hf⟩ := h
  have hC : Try.prog.cellsOf 43 = 2 := by kernel_rfl
  have hB : Try.prog.bytesOf 43 = 24 := by kernel_rfl
  rcases Go.Deep.open_slice hu hf with ⟨hcs, _⟩ | ⟨ad, len', cap', m, n, D, Pl, hcs, hb, hl, hm, hmm, hx, hi⟩
  · simp [Value.cells] at hcs
    obtain ⟨rfl, rfl, rfl⟩ := hcs
    exact ⟨[], rfl, ⟨rfl, by simp, fun h0 => absurd h0 (by simp)⟩, Nat.le_refl _, by simp [maxLen], by simp, by simp⟩
  · simp [Value.cells] at hcs
    obtain ⟨rfl, rfl, rfl⟩ := hcs
    have hlm : len ≤ m := by
      rw [hmm]
      split
      · exact hl
      · exact Nat.le_refl _
    have hel : ∀ i, i < len → ∃ x : S43, (∃ c : List Value, c.length = 2 ∧ k43.K W x c ∧ ∀ (i' : Nat) (u : Value), c[i']? = some u → W.cell? (ad.add (i * 2 + i')) = some u) ∧ ((Lit.int .i64 x.f0).wf = true ∧ x.f1.size ≤ 9223372036854775807) := by
      intro i hil
      obtain ⟨cs', hc, ht'⟩ := hi i (by omega)
      rw [hC] at hc
      obtain ⟨_, hcl, hat⟩ := World.cells?_some hc
      obtain ⟨a0, a1, hcs, w0, w1⟩ := open43 ht'
      subst hcs
      refine ⟨(⟨a0, a1⟩ : S43), ⟨_, rfl, k43_mk W _, fun i' u hu => ?_⟩, ⟨w0, w1⟩⟩
      have hil2 : i' < 2 := by
        have := (List.getElem?_eq_some_iff.1 hu).1
        simpa using this
      rw [← Go.Deep.add_add]
      exact (hat i' hil2).trans hu
    obtain ⟨l, hll, hlx⟩ := pickAll len hel
    refine ⟨l, hll.symm, ⟨hll.symm ▸ rfl, ?_, fun _ => ⟨ad, rfl, fun j p hj => (hlx j p hj).1⟩⟩, by omega, by omega, ?_, fun x hx => ?_⟩
    · have : maxLen = 9223372036854775807 := rfl
      omega
    · obtain ⟨hx, _⟩ := Prod.mk.inj hx
      subst hx
      have z := sized_slice hsz ht hd hu
      rw [hB] at z
      have : ((List.range len).map D).length = len := by simp
      rw [this] at z
      have r : reachBytes = 140737488351232 := by decide
      rw [← r, hll]
      refine Nat.le_trans (Nat.mul_le_mul_right _ ?_) z
      omega
    · obtain ⟨j, hj⟩ := List.getElem?_of_mem hx
      exact (hlx j x hj).2
set_option maxRecDepth 100000 in
theorem lifted (os : Os) (started : os.Started) (H : Type) (enc : TypeId × Value → H) :
    ReturnsInHanded {} Try.checked os 3 .any (Rows.framePutsSpec.pre6 enc Try.prog Try.f3 Rows.framePutsRow.domain false) (Rows.framePutsSpec.post enc Try.prog Try.f3 false true false false) := by
  refine returnsInHanded_of_change_sized (C := Try.checked) own started (by kernel_rfl) Try.func3
    (ChangeSpec.witness6 (enc := enc) (C := Try.checked) false ⟨#[], #[.agg #[.int .i64 0, .int .i64 0, .int .i64 0, .int .i64 0, .int .u64 0, .int .i64 0, .int .i64 0, .int .i64 0, .int .i64 0, .int .u64 0, .int .i64 0, .int .i64 0, .int .i64 0, .int .i64 0, .int .i64 0, .int .i64 0, .int .i64 0, .int .u64 0, .int .i64 0, .int .i64 0, .int .i64 0, .int .i64 0, .int .i64 0], .slice none 0 0], []⟩ 8 (by kernel_rfl) (by kernel_rfl) (by kernel_rfl) (by kernel_rfl)) ?_
  intro W base args ds gs before hval0 hW hcnd hsz0 _
  have hsz : (DataW.weightsEach Try.prog (Try.f3.params.toList ++ Rows.framePutsSpec.plain.varTypes Try.prog) (ds ++ gs)).all (· ≤ reachBytes) = true := hsz0
  have hval : ∀ (j : Nat) t v, Try.f3.params[j]? = some t → args[j]? = some v → Value.okWide Try.prog W .any base t v := hval0
  have hW' := hW
  obtain ⟨p, q, hA0, hV, rfl, hfz, hnd⟩ := hW
  have hA : DataW.TrodAll enc Try.prog W 0 (fun _ => true) true Try.f3.params.toList args.toList ds p := hA0
  rw [Try.params3] at hA hval hsz
  obtain ⟨v0, vs0, d0, ds0, p0, q0, hargs, rfl, rfl, h0, r0⟩ := trodAll_cons hA
  obtain ⟨v1, vs1, d1, ds1, p1, q1, rfl, rfl, rfl, h1, r1⟩ := trodAll_cons r0
  obtain ⟨rfl, rfl, rfl⟩ := trodAll_nil r1
  obtain rfl : args = #[v0, v1] := by cases args; simp_all
  obtain ⟨rfl, rfl⟩ := trodVars_none hV
  obtain ⟨cs0, rfl, _⟩ := okWide_struct Try.underlying28 (hval 0 28 v0 rfl rfl)
  have k0 := h0
  have lt0 : ∀ x ∈ p0, x.block < W.heap.size := by obtain ⟨m, hm⟩ := k0; exact DataW.trod_lt m _ _ _ hm
  obtain ⟨a0_0, a0_1, a0_2, a0_3, a0_4, a0_5, a0_6, a0_7, a0_8, a0_9, a0_10, a0_11, a0_12, a0_13, a0_14, a0_15, a0_16, a0_17, a0_18, a0_19, a0_20, a0_21, a0_22, rfl, w0_0, w0_1, w0_2, w0_3, w0_4, w0_5, w0_6, w0_7, w0_8, w0_9, w0_10, w0_11, w0_12, w0_13, w0_14, w0_15, w0_16, w0_17, w0_18, w0_19, w0_20, w0_21, w0_22⟩ : ∃ (a0_0 : Int) (a0_1 : Int) (a0_2 : Int) (a0_3 : Int) (a0_4 : Int) (a0_5 : Int) (a0_6 : Int) (a0_7 : Int) (a0_8 : Int) (a0_9 : Int) (a0_10 : Int) (a0_11 : Int) (a0_12 : Int) (a0_13 : Int) (a0_14 : Int) (a0_15 : Int) (a0_16 : Int) (a0_17 : Int) (a0_18 : Int) (a0_19 : Int) (a0_20 : Int) (a0_21 : Int) (a0_22 : Int), cs0 = #[.int .i64 a0_0, .int .i64 a0_1, .int .i64 a0_2, .int .i64 a0_3, .int .u64 a0_4, .int .i64 a0_5, .int .i64 a0_6, .int .i64 a0_7, .int .i64 a0_8, .int .u64 a0_9, .int .i64 a0_10, .int .i64 a0_11, .int .i64 a0_12, .int .i64 a0_13, .int .i64 a0_14, .int .i64 a0_15, .int .i64 a0_16, .int .u64 a0_17, .int .i64 a0_18, .int .i64 a0_19, .int .i64 a0_20, .int .i64 a0_21, .int .i64 a0_22] ∧ (Lit.int .i64 a0_0).wf = true ∧ (Lit.int .i64 a0_1).wf = true ∧ (Lit.int .i64 a0_2).wf = true ∧ (Lit.int .i64 a0_3).wf = true ∧ (Lit.int .u64 a0_4).wf = true ∧ (Lit.int .i64 a0_5).wf = true ∧ (Lit.int .i64 a0_6).wf = true ∧ (Lit.int .i64 a0_7).wf = true ∧ (Lit.int .i64 a0_8).wf = true ∧ (Lit.int .u64 a0_9).wf = true ∧ (Lit.int .i64 a0_10).wf = true ∧ (Lit.int .i64 a0_11).wf = true ∧ (Lit.int .i64 a0_12).wf = true ∧ (Lit.int .i64 a0_13).wf = true ∧ (Lit.int .i64 a0_14).wf = true ∧ (Lit.int .i64 a0_15).wf = true ∧ (Lit.int .i64 a0_16).wf = true ∧ (Lit.int .u64 a0_17).wf = true ∧ (Lit.int .i64 a0_18).wf = true ∧ (Lit.int .i64 a0_19).wf = true ∧ (Lit.int .i64 a0_20).wf = true ∧ (Lit.int .i64 a0_21).wf = true ∧ (Lit.int .i64 a0_22).wf = true := by
    obtain ⟨fuel, hf⟩ := h0
    obtain ⟨a0_0, a0_1, a0_2, a0_3, a0_4, a0_5, a0_6, a0_7, a0_8, a0_9, a0_10, a0_11, a0_12, a0_13, a0_14, a0_15, a0_16, a0_17, a0_18, a0_19, a0_20, a0_21, a0_22, hcs, w0_0, w0_1, w0_2, w0_3, w0_4, w0_5, w0_6, w0_7, w0_8, w0_9, w0_10, w0_11, w0_12, w0_13, w0_14, w0_15, w0_16, w0_17, w0_18, w0_19, w0_20, w0_21, w0_22⟩ := open28 hf
    exact ⟨a0_0, a0_1, a0_2, a0_3, a0_4, a0_5, a0_6, a0_7, a0_8, a0_9, a0_10, a0_11, a0_12, a0_13, a0_14, a0_15, a0_16, a0_17, a0_18, a0_19, a0_20, a0_21, a0_22, Array.toList_inj.1 hcs, w0_0, w0_1, w0_2, w0_3, w0_4, w0_5, w0_6, w0_7, w0_8, w0_9, w0_10, w0_11, w0_12, w0_13, w0_14, w0_15, w0_16, w0_17, w0_18, w0_19, w0_20, w0_21, w0_22⟩
  obtain ⟨a1, len1, cap1, rfl⟩ := okWide_slice Try.underlying29 (hval 1 29 v1 rfl rfl)
  have k1 := h1
  have lt1 : ∀ x ∈ p1, x.block < W.heap.size := by obtain ⟨m, hm⟩ := k1; exact DataW.trod_lt m _ _ _ hm
  obtain ⟨l1, rfl, hr1, hc1, hm1, y1, hw1⟩ := rowOf43 hsz (j := 1) rfl rfl Try.underlying29 h1
  clear hA0 hval0 hsz0 hsz
  refine (carillonlaw09_FramePuts.walk Pure.FramePuts a0_0 a0_1 a0_2 a0_3 a0_4 a0_5 a0_6 a0_7 a0_8 a0_9 a0_10 a0_11 a0_12 a0_13 a0_14 a0_15 a0_16 a0_17 a0_18 a0_19 a0_20 a0_21 a0_22 a1 cap1 l1 W w0_0 w0_1 w0_2 w0_3 w0_4 w0_5 w0_6 w0_7 w0_8 w0_9 w0_10 w0_11 w0_12 w0_13 w0_14 w0_15 w0_16 w0_17 w0_18 w0_19 w0_20 w0_21 w0_22 hr1 hc1 hm1 y1 hw1).mono fun e W' ⟨he, bel⟩ => ?_
  subst he
  exact ⟨_, rfl, _, _, _, [], _, [], hW', trodAll_mk1 (shut_bool Try.underlying4 _), (trodAll_cons_mk (Below.trod laidOut (by kernel_rfl) (of_decide_eq_true (by kernel_rfl)) k0 bel lt0) (trodAll_cons_mk (Below.trod laidOut (by kernel_rfl) (of_decide_eq_true (by kernel_rfl)) k1 bel lt1) trodAll_mk0)), rfl, bel.frame _, fun h => by cases h⟩
theorem over : Rows.framePutsRow.holds Try.pinned (OpenSpec.ofChange Rows.framePutsSpec) :=
  OpenClaim.holds_of_wide 3 Try.f3 rfl rfl rfl rfl rfl rfl rfl ⟨rfl, rfl, rfl, rfl, rfl⟩ rfl rfl rfl rfl rfl (by kernel_rfl) Try.func3 (by kernel_rfl)
    (of_decide_eq_true (by kernel_rfl)) (by unfold Func.isWrapper; first | (rw [if_pos (by decide +kernel)]; kernel_rfl) | (rw [if_neg (by decide +kernel)]; exact ⟨rfl, rfl⟩))
    (fun os started H enc _ => lifted os started H enc)
theorem proved : Rows.FramePutsSaid := over
#print axioms proved
end Go.Proofs.Ytiomlbkakiienaa.framePuts
namespace Go.Proofs.Ytiomlbkakiienaa
theorem framePuts_holds : Rows.FramePutsSaid := framePuts.proved
end Go.Proofs.Ytiomlbkakiienaa
