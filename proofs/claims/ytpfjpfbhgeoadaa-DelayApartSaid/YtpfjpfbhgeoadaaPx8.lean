/- Functions and loops of the given program as Lean functions, and that the code comes to what they say: written by this session's own program; Lean checks it. -/
import Derived.Test.YtpfjpfbhgeoadaaPx0
import Derived.Test.YtpfjpfbhgeoadaaPx1
import Derived.Test.YtpfjpfbhgeoadaaPx2
import Derived.Test.YtpfjpfbhgeoadaaPx3
import Derived.Test.YtpfjpfbhgeoadaaPx4
namespace Go.Proofs.Ytpfjpfbhgeoadaa.P
open Go.RowKit Go.Proofs.YtpfjpfbhgeoadaaW.PrintWords Go.Proofs.YtpfjpfbhgeoadaaW.PrintLast Go.Proofs.YtpfjpfbhgeoadaaW.PrintMore
attribute [local go_sem] max2_int min2_int max_two min_two max_three min_three max_four min_four   -- for this text's walks alone
set_option linter.unusedVariables false
set_option linter.unusedSimpArgs false

/-! ### carillonlaw17_DelayApart: function 7: by our own printer -/
def carillonlaw17_DelayApart.f (a0_0 : Int) (a0_1 : Int) (a1_0 : Int) (a1_1 : Int) (a2 : Int) (a3 : Int) (a4 : Int) : Option (Bool) := if ((a0_0 == a1_0) && (a0_1 == a1_1)) = true then ((carillonlaw17_awake.f ).bind fun t16 => (some t16)) else ((delay_New.f a0_0 a0_1 0).bind fun t16 => ((delay_New.f a1_0 a1_1 0).bind fun t17 => ((carillonlaw00_Place.f a2 65536).bind fun t32 => ((delay_Exchange_Request.f t16.1 t16.2.1 t16.2.2.1 t16.2.2.2.1 t16.2.2.2.2.1 t16.2.2.2.2.2.1 t16.2.2.2.2.2.2 t32 0).bind fun t39 => ((delay_Exchange_Request.f t17.1 t17.2.1 t17.2.2.1 t17.2.2.2.1 t17.2.2.2.2.1 t17.2.2.2.2.2.1 t17.2.2.2.2.2.2 t32 0).bind fun t47 => ((carillonlaw00_Place.f a3 1099511627776).bind fun t70 => ((carillonlaw00_Place.f a4 1099511627776).bind fun t71 => ((delay_Exchange_Sent.f t39.2.2.2.2.2.2.2.2.2.2.2.2.2.2.2.2.2.2.2.2.2.2.2.1 t39.2.2.2.2.2.2.2.2.2.2.2.2.2.2.2.2.2.2.2.2.2.2.2.2.1 t39.2.2.2.2.2.2.2.2.2.2.2.2.2.2.2.2.2.2.2.2.2.2.2.2.2.1 t39.2.2.2.2.2.2.2.2.2.2.2.2.2.2.2.2.2.2.2.2.2.2.2.2.2.2.1 t39.2.2.2.2.2.2.2.2.2.2.2.2.2.2.2.2.2.2.2.2.2.2.2.2.2.2.2.1 t39.2.2.2.2.2.2.2.2.2.2.2.2.2.2.2.2.2.2.2.2.2.2.2.2.2.2.2.2.1 t39.2.2.2.2.2.2.2.2.2.2.2.2.2.2.2.2.2.2.2.2.2.2.2.2.2.2.2.2.2 t32 t70).bind fun t78 => ((delay_Exchange_Sent.f t47.2.2.2.2.2.2.2.2.2.2.2.2.2.2.2.2.2.2.2.2.2.2.2.1 t47.2.2.2.2.2.2.2.2.2.2.2.2.2.2.2.2.2.2.2.2.2.2.2.2.1 t47.2.2.2.2.2.2.2.2.2.2.2.2.2.2.2.2.2.2.2.2.2.2.2.2.2.1 t47.2.2.2.2.2.2.2.2.2.2.2.2.2.2.2.2.2.2.2.2.2.2.2.2.2.2.1 t47.2.2.2.2.2.2.2.2.2.2.2.2.2.2.2.2.2.2.2.2.2.2.2.2.2.2.2.1 t47.2.2.2.2.2.2.2.2.2.2.2.2.2.2.2.2.2.2.2.2.2.2.2.2.2.2.2.2.1 t47.2.2.2.2.2.2.2.2.2.2.2.2.2.2.2.2.2.2.2.2.2.2.2.2.2.2.2.2.2 t32 t71).bind fun t87 => ((delay_Answer.f t39.1 t39.2.1 t39.2.2.1 t39.2.2.2.1 t39.2.2.2.2.1 t39.2.2.2.2.2.1 t39.2.2.2.2.2.2.1 t39.2.2.2.2.2.2.2.1 t39.2.2.2.2.2.2.2.2.1 t39.2.2.2.2.2.2.2.2.2.1 t39.2.2.2.2.2.2.2.2.2.2.1 t39.2.2.2.2.2.2.2.2.2.2.2.1 t39.2.2.2.2.2.2.2.2.2.2.2.2.1 t39.2.2.2.2.2.2.2.2.2.2.2.2.2.1 t39.2.2.2.2.2.2.2.2.2.2.2.2.2.2.1 t39.2.2.2.2.2.2.2.2.2.2.2.2.2.2.2.1 t39.2.2.2.2.2.2.2.2.2.2.2.2.2.2.2.2.1 t39.2.2.2.2.2.2.2.2.2.2.2.2.2.2.2.2.2.1 t39.2.2.2.2.2.2.2.2.2.2.2.2.2.2.2.2.2.2.1 t39.2.2.2.2.2.2.2.2.2.2.2.2.2.2.2.2.2.2.2.1 t39.2.2.2.2.2.2.2.2.2.2.2.2.2.2.2.2.2.2.2.2.1 t39.2.2.2.2.2.2.2.2.2.2.2.2.2.2.2.2.2.2.2.2.2.1 t39.2.2.2.2.2.2.2.2.2.2.2.2.2.2.2.2.2.2.2.2.2.2.1 8 1 2199023255552 0).bind fun t93 => ((delay_Answer.f t47.1 t47.2.1 t47.2.2.1 t47.2.2.2.1 t47.2.2.2.2.1 t47.2.2.2.2.2.1 t47.2.2.2.2.2.2.1 t47.2.2.2.2.2.2.2.1 t47.2.2.2.2.2.2.2.2.1 t47.2.2.2.2.2.2.2.2.2.1 t47.2.2.2.2.2.2.2.2.2.2.1 t47.2.2.2.2.2.2.2.2.2.2.2.1 t47.2.2.2.2.2.2.2.2.2.2.2.2.1 t47.2.2.2.2.2.2.2.2.2.2.2.2.2.1 t47.2.2.2.2.2.2.2.2.2.2.2.2.2.2.1 t47.2.2.2.2.2.2.2.2.2.2.2.2.2.2.2.1 t47.2.2.2.2.2.2.2.2.2.2.2.2.2.2.2.2.1 t47.2.2.2.2.2.2.2.2.2.2.2.2.2.2.2.2.2.1 t47.2.2.2.2.2.2.2.2.2.2.2.2.2.2.2.2.2.2.1 t47.2.2.2.2.2.2.2.2.2.2.2.2.2.2.2.2.2.2.2.1 t47.2.2.2.2.2.2.2.2.2.2.2.2.2.2.2.2.2.2.2.2.1 t47.2.2.2.2.2.2.2.2.2.2.2.2.2.2.2.2.2.2.2.2.2.1 t47.2.2.2.2.2.2.2.2.2.2.2.2.2.2.2.2.2.2.2.2.2.2.1 8 1 4398046511104 0).bind fun t107 => ((delay_Exchange_Response.f t78.2.1 t78.2.2.1 t78.2.2.2.1 t78.2.2.2.2.1 t78.2.2.2.2.2.1 t78.2.2.2.2.2.2.1 t78.2.2.2.2.2.2.2 t107.1 t107.2.1 t107.2.2.1 t107.2.2.2.1 t107.2.2.2.2.1 t107.2.2.2.2.2.1 t107.2.2.2.2.2.2.1 t107.2.2.2.2.2.2.2.1 t107.2.2.2.2.2.2.2.2.1 t107.2.2.2.2.2.2.2.2.2.1 t107.2.2.2.2.2.2.2.2.2.2.1 t107.2.2.2.2.2.2.2.2.2.2.2.1 t107.2.2.2.2.2.2.2.2.2.2.2.2.1 t107.2.2.2.2.2.2.2.2.2.2.2.2.2.1 t107.2.2.2.2.2.2.2.2.2.2.2.2.2.2.1 t107.2.2.2.2.2.2.2.2.2.2.2.2.2.2.2.1 t107.2.2.2.2.2.2.2.2.2.2.2.2.2.2.2.2.1 t107.2.2.2.2.2.2.2.2.2.2.2.2.2.2.2.2.2.1 t107.2.2.2.2.2.2.2.2.2.2.2.2.2.2.2.2.2.2.1 t107.2.2.2.2.2.2.2.2.2.2.2.2.2.2.2.2.2.2.2.1 t107.2.2.2.2.2.2.2.2.2.2.2.2.2.2.2.2.2.2.2.2.1 t107.2.2.2.2.2.2.2.2.2.2.2.2.2.2.2.2.2.2.2.2.2.1 t107.2.2.2.2.2.2.2.2.2.2.2.2.2.2.2.2.2.2.2.2.2.2.1).bind fun t125 => ((delay_Exchange_Response.f t87.2.1 t87.2.2.1 t87.2.2.2.1 t87.2.2.2.2.1 t87.2.2.2.2.2.1 t87.2.2.2.2.2.2.1 t87.2.2.2.2.2.2.2 t93.1 t93.2.1 t93.2.2.1 t93.2.2.2.1 t93.2.2.2.2.1 t93.2.2.2.2.2.1 t93.2.2.2.2.2.2.1 t93.2.2.2.2.2.2.2.1 t93.2.2.2.2.2.2.2.2.1 t93.2.2.2.2.2.2.2.2.2.1 t93.2.2.2.2.2.2.2.2.2.2.1 t93.2.2.2.2.2.2.2.2.2.2.2.1 t93.2.2.2.2.2.2.2.2.2.2.2.2.1 t93.2.2.2.2.2.2.2.2.2.2.2.2.2.1 t93.2.2.2.2.2.2.2.2.2.2.2.2.2.2.1 t93.2.2.2.2.2.2.2.2.2.2.2.2.2.2.2.1 t93.2.2.2.2.2.2.2.2.2.2.2.2.2.2.2.2.1 t93.2.2.2.2.2.2.2.2.2.2.2.2.2.2.2.2.2.1 t93.2.2.2.2.2.2.2.2.2.2.2.2.2.2.2.2.2.2.1 t93.2.2.2.2.2.2.2.2.2.2.2.2.2.2.2.2.2.2.2.1 t93.2.2.2.2.2.2.2.2.2.2.2.2.2.2.2.2.2.2.2.2.1 t93.2.2.2.2.2.2.2.2.2.2.2.2.2.2.2.2.2.2.2.2.2.1 t93.2.2.2.2.2.2.2.2.2.2.2.2.2.2.2.2.2.2.2.2.2.2.1).bind fun t146 => ((delay_Exchange_Response.f t125.2.2.1 t125.2.2.2.1 t125.2.2.2.2.1 t125.2.2.2.2.2.1 t125.2.2.2.2.2.2.1 t125.2.2.2.2.2.2.2.1 t125.2.2.2.2.2.2.2.2 t93.1 t93.2.1 t93.2.2.1 t93.2.2.2.1 t93.2.2.2.2.1 t93.2.2.2.2.2.1 t93.2.2.2.2.2.2.1 t93.2.2.2.2.2.2.2.1 t93.2.2.2.2.2.2.2.2.1 t93.2.2.2.2.2.2.2.2.2.1 t93.2.2.2.2.2.2.2.2.2.2.1 t93.2.2.2.2.2.2.2.2.2.2.2.1 t93.2.2.2.2.2.2.2.2.2.2.2.2.1 t93.2.2.2.2.2.2.2.2.2.2.2.2.2.1 t93.2.2.2.2.2.2.2.2.2.2.2.2.2.2.1 t93.2.2.2.2.2.2.2.2.2.2.2.2.2.2.2.1 t93.2.2.2.2.2.2.2.2.2.2.2.2.2.2.2.2.1 t93.2.2.2.2.2.2.2.2.2.2.2.2.2.2.2.2.2.1 t93.2.2.2.2.2.2.2.2.2.2.2.2.2.2.2.2.2.2.1 t93.2.2.2.2.2.2.2.2.2.2.2.2.2.2.2.2.2.2.2.1 t93.2.2.2.2.2.2.2.2.2.2.2.2.2.2.2.2.2.2.2.2.1 t93.2.2.2.2.2.2.2.2.2.2.2.2.2.2.2.2.2.2.2.2.2.1 t93.2.2.2.2.2.2.2.2.2.2.2.2.2.2.2.2.2.2.2.2.2.2.1).bind fun t167 => ((delay_Exchange_Response.f t146.2.2.1 t146.2.2.2.1 t146.2.2.2.2.1 t146.2.2.2.2.2.1 t146.2.2.2.2.2.2.1 t146.2.2.2.2.2.2.2.1 t146.2.2.2.2.2.2.2.2 t107.1 t107.2.1 t107.2.2.1 t107.2.2.2.1 t107.2.2.2.2.1 t107.2.2.2.2.2.1 t107.2.2.2.2.2.2.1 t107.2.2.2.2.2.2.2.1 t107.2.2.2.2.2.2.2.2.1 t107.2.2.2.2.2.2.2.2.2.1 t107.2.2.2.2.2.2.2.2.2.2.1 t107.2.2.2.2.2.2.2.2.2.2.2.1 t107.2.2.2.2.2.2.2.2.2.2.2.2.1 t107.2.2.2.2.2.2.2.2.2.2.2.2.2.1 t107.2.2.2.2.2.2.2.2.2.2.2.2.2.2.1 t107.2.2.2.2.2.2.2.2.2.2.2.2.2.2.2.1 t107.2.2.2.2.2.2.2.2.2.2.2.2.2.2.2.2.1 t107.2.2.2.2.2.2.2.2.2.2.2.2.2.2.2.2.2.1 t107.2.2.2.2.2.2.2.2.2.2.2.2.2.2.2.2.2.2.1 t107.2.2.2.2.2.2.2.2.2.2.2.2.2.2.2.2.2.2.2.1 t107.2.2.2.2.2.2.2.2.2.2.2.2.2.2.2.2.2.2.2.2.1 t107.2.2.2.2.2.2.2.2.2.2.2.2.2.2.2.2.2.2.2.2.2.1 t107.2.2.2.2.2.2.2.2.2.2.2.2.2.2.2.2.2.2.2.2.2.2.1).bind fun t188 => (if t125.2.1 = true then (some false) else (if t146.2.1 = true then (some false) else (if t167.2.1 = true then (if t188.2.1 = true then (if t167.1 = (wrap64 (2199023255552 - t70)) then (if t188.1 = (wrap64 (4398046511104 - t71)) then ((carillonlaw17_awake.f ).bind fun t206 => (some t206)) else (some false)) else (some false)) else (some false)) else (some false)))))))))))))))))))
theorem new_apart {a0 a1 b0 b1 x1 x2 x3 x4 x5 y1 y2 y3 y4 y5 : Int} {x6 x7 y6 y7 : Bool} {t : TypeId} (c : ¬ (((a0 == b0) && (a1 == b1)) = true)) (A : delay_New.f a0 a1 0 = some (x1, x2, x3, x4, x5, x6, x7)) (B : delay_New.f b0 b1 0 = some (y1, y2, y3, y4, y5, y6, y7))
    (h : some (Obj.cells #[.int .u64 x1, .int .i64 x2, .int .i64 x3, .int .i64 x4, .int .i64 x5, .bool x6, .bool x7] t (0, 0)) = some (Obj.cells #[.int .u64 y1, .int .i64 y2, .int .i64 y3, .int .i64 y4, .int .i64 y5, .bool y6, .bool y7] t (0, 0))) : False := by
  simp only [delay_New.f, Option.some.injEq, Prod.mk.injEq] at A B
  simp only [Option.some.injEq, Obj.cells.injEq, Array.mk.injEq, List.cons.injEq, Value.int.injEq] at h
  apply c
  rw [A.1, A.2.1, B.1, B.2.1, h.1.1.2, h.1.2.1.2]
  simp
open Go.Proofs.Ytpfjpfbhgeoadaa.E in
set_option maxRecDepth 100000 in
theorem carillonlaw17_DelayApart.eql24 (x y : Operand) (w : World) (a0 : Int) (a1 : Int) (b0 : Int) (b1 : Int) : (do eqGuard .eql 24 x y (.agg #[.int .u64 a0, .int .i64 a1]) (.agg #[.int .u64 b0, .int .i64 b1]); binOp .eql 24 (.agg #[.int .u64 a0, .int .i64 a1]) (.agg #[.int .u64 b0, .int .i64 b1]) : Sem Value).run Try.prog w = .ok (.bool ((a0 == b0) && (a1 == b1))) w := by
  have hu3 := Try.underlying3
  have hu22 := Try.underlying22
  have hu24 := Try.underlying24
  conv => lhs; simp [eqGuard, go_sem, hu3, hu22, hu24]
  exact ite_and (ite_last)
open Go.Proofs.Ytpfjpfbhgeoadaa.E in
set_option maxHeartbeats 8000000 in
set_option maxRecDepth 100000 in
theorem carillonlaw17_DelayApart.calls (a0_0 : Int) (a0_1 : Int) (a1_0 : Int) (a1_1 : Int) (a2 : Int) (a3 : Int) (a4 : Int) (w : World) (h : carillonlaw17_DelayApart.f a0_0 a0_1 a1_0 a1_1 a2 a3 a4 = some true) :
    Calls Try.prog 7 #[.agg #[.int .u64 a0_0, .int .i64 a0_1], .agg #[.int .u64 a1_0, .int .i64 a1_1], .int .i64 a2, .int .i64 a3, .int .i64 a4] w fun e w' => e = .returned (.bool true) ∧ Below w.heap.size w w' := by
  have H := h
  clear h
  unfold carillonlaw17_DelayApart.f at H
  by_cases c1 : ((a0_0 == a1_0) && (a0_1 == a1_1)) = true
  · rw [if_pos c1] at H
    obtain ⟨t16, At16, H⟩ := Option.bind_eq_some_iff.mp H
    have hret := Option.some.inj H
    clear H
    refine calls_of_wp (fn := Try.f7) (by kernel_rfl) rfl ?_
    have hS := St.enter #[.agg #[.int .u64 a0_0, .int .i64 a0_1], .agg #[.int .u64 a1_0, .int .i64 a1_1], .int .i64 a2, .int .i64 a3, .int .i64 a4] 127 (by simp) [(0, .agg #[.int .u64 a0_0, .int .i64 a0_1]), (1, .agg #[.int .u64 a1_0, .int .i64 a1_1]), (2, .int .i64 a2), (3, .int .i64 a3), (4, .int .i64 a4)] (by simp)
    have HB0 := Below.refl w.heap.size w
    refine wp_seq_k (fun K1 hK1 => ?_)
    refine reg_seq_tail 1 (N := 127) (bs := [(0, .agg #[.int .u64 a0_0, .int .i64 a0_1]), (1, .agg #[.int .u64 a1_0, .int .i64 a1_1]), (2, .int .i64 a2), (3, .int .i64 a3), (4, .int .i64 a4)]) (I := fun x => Below w.heap.size w x) (ps := [IsB #[.int .u64 a0_0, .int .i64 a0_1] 24 w.heap.size]) (by kernel_rfl) ?_ ?_ rfl hS HB0 ?_ ?_
    · exact fun x y hI hb => below_step hI hb
    · exact AllStay.cons (Stays.b _ _ _) (AllStay.nil)
    · refine Steps.cons (fun a w hS hI hp => ok_on rfl (does_var (x_box rfl (congrArg Value.cells (hS.get 0 rfl))) (hI).size)) ?_
      exact Steps.nil
    clear hS
    intro at2 w3 hS hI hp
    have hBw3_w := hI
    replace hS := ((((hS.nil).cons (hS.get 4 rfl)).cons (hS.get 3 rfl)).cons (hS.get 2 rfl)).cons (hS.get 1 rfl)
    obtain ⟨g4, hv5, hgeg4, hbxg4⟩ := (show IsB _ 24 _ (sl _ 5) _ from hp 0 (by decide))
    have hBw3_w3 := Below.refl w3.heap.size w3
    have hS := hS.cons hv5
    clear hp hI hv5
    show wpList _ _ _ [_, _] _ _
    refine list_step rfl (R := fun v w' => Below _ _ w' ∧ (IsB #[.int .u64 a1_0, .int .i64 a1_1] 24 w3.heap.size) v w') (does_var (x_box rfl (congrArg Value.cells (hS.get 1 rfl))) (hBw3_w3).size) ?_
    rintro vw5 w5 ⟨hb, he⟩
    have hBw5_w := below_step hBw3_w hb
    have hBw5_w3 := below_step hBw3_w3 hb
    have hBw5_w5 := Below.refl w5.heap.size w5
    obtain ⟨g6, rfl, hgeg6, hbxg6⟩ := he
    have hne7 : g6 ≠ g4 := Nat.ne_of_gt (Nat.lt_of_lt_of_le (blk_lt ((hBw3_w3.block g4 (blk_lt hbxg4)).trans hbxg4)) hgeg6)
    refine hS.next (v := .pointer (some ⟨g6, 0, none⟩)) (d := 6) rfl (by decide) (by rfl) ?_
    clear hS
    intro at8 hS
    refine list_step rfl (R := fun v w' => Below _ _ w' ∧ (IsV (.bool false)) v w') (does_val (x_assign rfl (rfl)) rfl) ?_
    rintro vw9 w9 ⟨hb, he⟩
    have hBw9_w := below_step hBw5_w hb
    have hBw9_w3 := below_step hBw5_w3 hb
    have hBw9_w5 := below_step hBw5_w5 hb
    have hBw9_w9 := Below.refl w9.heap.size w9
    obtain rfl : vw9 = .bool false := he
    refine hS.next (v := .bool false) (d := 10) rfl (by decide) (by rfl) ?_
    clear hS
    intro at10 hS
    refine wpList_nil ?_
    refine hK1 _ _ ?_
    clear hK1 K1
    refine wp_seq_k (fun K11 hK11 => ?_)
    refine wp_seq_k (fun K12 hK12 => ?_)
    refine reg_seq (N := 127) (bs := [(10, .bool false), (6, .pointer (some ⟨g6, 0, none⟩)), (5, .pointer (some ⟨g4, 0, none⟩)), (1, .agg #[.int .u64 a1_0, .int .i64 a1_1]), (2, .int .i64 a2), (3, .int .i64 a3), (4, .int .i64 a4)]) (I := fun x => Below w.heap.size w x ∧ Below w3.heap.size w3 x ∧ Below w5.heap.size w5 x ∧ Below w9.heap.size w9 x) (ps := [IsV (.agg #[.int .u64 a0_0, .int .i64 a0_1]), IsV (.agg #[.int .u64 a1_0, .int .i64 a1_1]), IsV (.bool ((a0_0 == a1_0) && (a0_1 == a1_1)))]) (by kernel_rfl) ?_ ?_ rfl hS ⟨hBw9_w, hBw9_w3, hBw9_w5, hBw9_w9⟩ ?_ ?_
    · exact fun x y hI hb => ⟨below_step hI.1 hb, below_step hI.2.1 hb, below_step hI.2.2.1 hb, below_step hI.2.2.2 hb⟩
    · exact AllStay.cons (Stays.v _) (AllStay.cons (Stays.v _) (AllStay.cons (Stays.v _) (AllStay.nil)))
    · refine Steps.cons (fun a w hS hI hp => ok_on rfl (does_loadrow rfl (hS.get 2 rfl) (((hI.2.1).block g4 (blk_lt hbxg4)).trans hbxg4) Try.underlying24 rfl (by kernel_rfl) rfl)) ?_
      refine Steps.cons (fun a w hS hI hp => ok_on rfl (does_loadrow rfl (hS.get 1 rfl) (((hI.2.2.1).block g6 (blk_lt hbxg6)).trans hbxg6) Try.underlying24 rfl (by kernel_rfl) rfl)) ?_
      refine Steps.cons (fun a w hS hI hp => ok_on rfl (does_val (x_bin rfl ((hp.get 0 (by rfl) rfl rfl)) ((hp.get 1 (by rfl) rfl rfl)) (carillonlaw17_DelayApart.eql24 _ _ _ a0_0 a0_1 a1_0 a1_1)) rfl)) ?_
      exact Steps.nil
    clear hS
    intro at13 w14 hS hI hp
    have hBw14_w := hI.1
    have hBw14_w3 := hI.2.1
    have hBw14_w5 := hI.2.2.1
    have hBw14_w9 := hI.2.2.2
    replace hS := ((((((hS.nil).cons (hS.get 6 rfl)).cons (hS.get 5 rfl)).cons (hS.get 4 rfl)).cons (hS.get 2 rfl)).cons (hS.get 1 rfl)).cons (hS.get 0 rfl)
    have hv32 : sl _ 32 = .bool ((a0_0 == a1_0) && (a0_1 == a1_1)) := hp 2 (by decide)
    have hBw14_w14 := Below.refl w14.heap.size w14
    have hS := hS.cons hv32
    clear hp hI hv32
    refine hK12 _ _ ?_
    clear hK12 K12
    refine wp_cond_true ((hS.get 0 rfl).trans (bT c1)) ?_
    refine wp_seq_k (fun K15 hK15 => ?_)
    replace hS := ((((((hS.nil).cons (hS.get 6 rfl)).cons (hS.get 5 rfl)).cons (hS.get 4 rfl)).cons (hS.get 3 rfl)).cons (hS.get 2 rfl)).cons (hS.get 0 rfl)
    refine reg_seq (N := 127) (bs := [(32, .bool ((a0_0 == a1_0) && (a0_1 == a1_1))), (6, .pointer (some ⟨g6, 0, none⟩)), (5, .pointer (some ⟨g4, 0, none⟩)), (2, .int .i64 a2), (3, .int .i64 a3), (4, .int .i64 a4)]) (I := fun x => Below w.heap.size w x ∧ Below w3.heap.size w3 x ∧ Below w5.heap.size w5 x ∧ Below w14.heap.size w14 x) (ps := [IsV (.bool t16), IsV (.bool t16)]) (by kernel_rfl) ?_ ?_ rfl hS ⟨hBw14_w, hBw14_w3, hBw14_w5, hBw14_w14⟩ ?_ ?_
    · exact fun x y hI hb => ⟨below_step hI.1 hb, below_step hI.2.1 hb, below_step hI.2.2.1 hb, below_step hI.2.2.2 hb⟩
    · exact AllStay.cons (Stays.v _) (AllStay.cons (Stays.v _) (AllStay.nil))
    · refine Steps.cons (fun a w hS hI hp => ok_on rfl (does_call (by kernel_rfl) rfl ((carillonlaw17_awake.calls  t16 _  At16).mono fun _ _ h => ⟨_, h.1, h.2, rfl⟩))) ?_
      refine Steps.cons (fun a w hS hI hp => ok_on rfl (does_val (x_assign rfl ((hp.get 0 (by rfl) rfl rfl))) rfl)) ?_
      exact Steps.nil
    clear hS
    intro at17 w18 hS hI hp
    have hBw18_w := hI.1
    have hBw18_w3 := hI.2.1
    have hBw18_w5 := hI.2.2.1
    have hBw18_w14 := hI.2.2.2
    have hv10 : sl _ 10 = .bool t16 := hp 1 (by decide)
    have hBw18_w18 := Below.refl w18.heap.size w18
    have hS := hS.cons hv10
    clear hp hI hv10
    refine hK15 _ _ ?_
    clear hK15 K15
    refine wp_ret ?_
    (try simp only [Exit.then, Exit.inBlock])
    exact bodyPost_ret (v := .bool true) (by rw [results_tmp rfl]; exact congrArg (Result.ok · _) ((hS.get 0 rfl).trans (congrArg Value.bool hret))) hS.nodef ⟨rfl, hBw18_w⟩
  · rw [if_neg c1] at H
    obtain ⟨t16, At16, H⟩ := Option.bind_eq_some_iff.mp H
    obtain ⟨t16_1, t16_2, t16_3, t16_4, t16_5, t16_6, t16_7⟩ := t16
    (try dsimp only at H)
    obtain ⟨t17, At17, H⟩ := Option.bind_eq_some_iff.mp H
    obtain ⟨t17_1, t17_2, t17_3, t17_4, t17_5, t17_6, t17_7⟩ := t17
    (try dsimp only at H)
    obtain ⟨t32, At32, H⟩ := Option.bind_eq_some_iff.mp H
    obtain ⟨t39, At39, H⟩ := Option.bind_eq_some_iff.mp H
    obtain ⟨t39_1, t39_2, t39_3, t39_4, t39_5, t39_6, t39_7, t39_8, t39_9, t39_10, t39_11, t39_12, t39_13, t39_14, t39_15, t39_16, t39_17, t39_18, t39_19, t39_20, t39_21, t39_22, t39_23, t39_24, t39_25, t39_26, t39_27, t39_28, t39_29, t39_30⟩ := t39
    (try dsimp only at H)
    obtain ⟨t47, At47, H⟩ := Option.bind_eq_some_iff.mp H
    obtain ⟨t47_1, t47_2, t47_3, t47_4, t47_5, t47_6, t47_7, t47_8, t47_9, t47_10, t47_11, t47_12, t47_13, t47_14, t47_15, t47_16, t47_17, t47_18, t47_19, t47_20, t47_21, t47_22, t47_23, t47_24, t47_25, t47_26, t47_27, t47_28, t47_29, t47_30⟩ := t47
    (try dsimp only at H)
    obtain ⟨t70, At70, H⟩ := Option.bind_eq_some_iff.mp H
    obtain ⟨t71, At71, H⟩ := Option.bind_eq_some_iff.mp H
    obtain ⟨t78, At78, H⟩ := Option.bind_eq_some_iff.mp H
    obtain ⟨t78_1, t78_2, t78_3, t78_4, t78_5, t78_6, t78_7, t78_8⟩ := t78
    (try dsimp only at H)
    obtain ⟨t87, At87, H⟩ := Option.bind_eq_some_iff.mp H
    obtain ⟨t87_1, t87_2, t87_3, t87_4, t87_5, t87_6, t87_7, t87_8⟩ := t87
    (try dsimp only at H)
    obtain ⟨t93, At93, H⟩ := Option.bind_eq_some_iff.mp H
    obtain ⟨t93_1, t93_2, t93_3, t93_4, t93_5, t93_6, t93_7, t93_8, t93_9, t93_10, t93_11, t93_12, t93_13, t93_14, t93_15, t93_16, t93_17, t93_18, t93_19, t93_20, t93_21, t93_22, t93_23, t93_24⟩ := t93
    (try dsimp only at H)
    obtain ⟨t107, At107, H⟩ := Option.bind_eq_some_iff.mp H
    obtain ⟨t107_1, t107_2, t107_3, t107_4, t107_5, t107_6, t107_7, t107_8, t107_9, t107_10, t107_11, t107_12, t107_13, t107_14, t107_15, t107_16, t107_17, t107_18, t107_19, t107_20, t107_21, t107_22, t107_23, t107_24⟩ := t107
    (try dsimp only at H)
    obtain ⟨t125, At125, H⟩ := Option.bind_eq_some_iff.mp H
    obtain ⟨t125_1, t125_2, t125_3, t125_4, t125_5, t125_6, t125_7, t125_8, t125_9⟩ := t125
    (try dsimp only at H)
    obtain ⟨t146, At146, H⟩ := Option.bind_eq_some_iff.mp H
    obtain ⟨t146_1, t146_2, t146_3, t146_4, t146_5, t146_6, t146_7, t146_8, t146_9⟩ := t146
    (try dsimp only at H)
    obtain ⟨t167, At167, H⟩ := Option.bind_eq_some_iff.mp H
    obtain ⟨t167_1, t167_2, t167_3, t167_4, t167_5, t167_6, t167_7, t167_8, t167_9⟩ := t167
    (try dsimp only at H)
    obtain ⟨t188, At188, H⟩ := Option.bind_eq_some_iff.mp H
    obtain ⟨t188_1, t188_2, t188_3, t188_4, t188_5, t188_6, t188_7, t188_8, t188_9⟩ := t188
    (try dsimp only at H)
    by_cases c2 : t125_2 = true
    · rw [if_pos c2] at H
      exact absurd H (by simp)
    · rw [if_neg c2] at H
      by_cases c3 : t146_2 = true
      · rw [if_pos c3] at H
        exact absurd H (by simp)
      · rw [if_neg c3] at H
        by_cases c4 : t167_2 = true
        · rw [if_pos c4] at H
          by_cases c5 : t188_2 = true
          · rw [if_pos c5] at H
            by_cases c6 : t167_1 = (wrap64 (2199023255552 - t70))
            · rw [if_pos c6] at H
              by_cases c7 : t188_1 = (wrap64 (4398046511104 - t71))
              · rw [if_pos c7] at H
                obtain ⟨t206, At206, H⟩ := Option.bind_eq_some_iff.mp H
                have hret := Option.some.inj H
                clear H
                refine calls_of_wp (fn := Try.f7) (by kernel_rfl) rfl ?_
                have hS := St.enter #[.agg #[.int .u64 a0_0, .int .i64 a0_1], .agg #[.int .u64 a1_0, .int .i64 a1_1], .int .i64 a2, .int .i64 a3, .int .i64 a4] 127 (by simp) [(0, .agg #[.int .u64 a0_0, .int .i64 a0_1]), (1, .agg #[.int .u64 a1_0, .int .i64 a1_1]), (2, .int .i64 a2), (3, .int .i64 a3), (4, .int .i64 a4)] (by simp)
                have HB0 := Below.refl w.heap.size w
                refine wp_seq_k (fun K1 hK1 => ?_)
                refine reg_seq_tail 1 (N := 127) (bs := [(0, .agg #[.int .u64 a0_0, .int .i64 a0_1]), (1, .agg #[.int .u64 a1_0, .int .i64 a1_1]), (2, .int .i64 a2), (3, .int .i64 a3), (4, .int .i64 a4)]) (I := fun x => Below w.heap.size w x) (ps := [IsB #[.int .u64 a0_0, .int .i64 a0_1] 24 w.heap.size]) (by kernel_rfl) ?_ ?_ rfl hS HB0 ?_ ?_
                · exact fun x y hI hb => below_step hI hb
                · exact AllStay.cons (Stays.b _ _ _) (AllStay.nil)
                · refine Steps.cons (fun a w hS hI hp => ok_on rfl (does_var (x_box rfl (congrArg Value.cells (hS.get 0 rfl))) (hI).size)) ?_
                  exact Steps.nil
                clear hS
                intro at2 w3 hS hI hp
                have hBw3_w := hI
                replace hS := ((((hS.nil).cons (hS.get 4 rfl)).cons (hS.get 3 rfl)).cons (hS.get 2 rfl)).cons (hS.get 1 rfl)
                obtain ⟨g4, hv5, hgeg4, hbxg4⟩ := (show IsB _ 24 _ (sl _ 5) _ from hp 0 (by decide))
                have hBw3_w3 := Below.refl w3.heap.size w3
                have hS := hS.cons hv5
                clear hp hI hv5
                show wpList _ _ _ [_, _] _ _
                refine list_step rfl (R := fun v w' => Below _ _ w' ∧ (IsB #[.int .u64 a1_0, .int .i64 a1_1] 24 w3.heap.size) v w') (does_var (x_box rfl (congrArg Value.cells (hS.get 1 rfl))) (hBw3_w3).size) ?_
                rintro vw5 w5 ⟨hb, he⟩
                have hBw5_w := below_step hBw3_w hb
                have hBw5_w3 := below_step hBw3_w3 hb
                have hBw5_w5 := Below.refl w5.heap.size w5
                obtain ⟨g6, rfl, hgeg6, hbxg6⟩ := he
                have hne7 : g6 ≠ g4 := Nat.ne_of_gt (Nat.lt_of_lt_of_le (blk_lt ((hBw3_w3.block g4 (blk_lt hbxg4)).trans hbxg4)) hgeg6)
                refine hS.next (v := .pointer (some ⟨g6, 0, none⟩)) (d := 6) rfl (by decide) (by rfl) ?_
                clear hS
                intro at8 hS
                refine list_step rfl (R := fun v w' => Below _ _ w' ∧ (IsV (.bool false)) v w') (does_val (x_assign rfl (rfl)) rfl) ?_
                rintro vw9 w9 ⟨hb, he⟩
                have hBw9_w := below_step hBw5_w hb
                have hBw9_w3 := below_step hBw5_w3 hb
                have hBw9_w5 := below_step hBw5_w5 hb
                have hBw9_w9 := Below.refl w9.heap.size w9
                obtain rfl : vw9 = .bool false := he
                refine hS.next (v := .bool false) (d := 10) rfl (by decide) (by rfl) ?_
                clear hS
                intro at10 hS
                refine wpList_nil ?_
                refine hK1 _ _ ?_
                clear hK1 K1
                refine wp_seq_k (fun K11 hK11 => ?_)
                refine wp_seq_k (fun K12 hK12 => ?_)
                refine reg_seq (N := 127) (bs := [(10, .bool false), (6, .pointer (some ⟨g6, 0, none⟩)), (5, .pointer (some ⟨g4, 0, none⟩)), (1, .agg #[.int .u64 a1_0, .int .i64 a1_1]), (2, .int .i64 a2), (3, .int .i64 a3), (4, .int .i64 a4)]) (I := fun x => Below w.heap.size w x ∧ Below w3.heap.size w3 x ∧ Below w5.heap.size w5 x ∧ Below w9.heap.size w9 x) (ps := [IsV (.agg #[.int .u64 a0_0, .int .i64 a0_1]), IsV (.agg #[.int .u64 a1_0, .int .i64 a1_1]), IsV (.bool ((a0_0 == a1_0) && (a0_1 == a1_1)))]) (by kernel_rfl) ?_ ?_ rfl hS ⟨hBw9_w, hBw9_w3, hBw9_w5, hBw9_w9⟩ ?_ ?_
                · exact fun x y hI hb => ⟨below_step hI.1 hb, below_step hI.2.1 hb, below_step hI.2.2.1 hb, below_step hI.2.2.2 hb⟩
                · exact AllStay.cons (Stays.v _) (AllStay.cons (Stays.v _) (AllStay.cons (Stays.v _) (AllStay.nil)))
                · refine Steps.cons (fun a w hS hI hp => ok_on rfl (does_loadrow rfl (hS.get 2 rfl) (((hI.2.1).block g4 (blk_lt hbxg4)).trans hbxg4) Try.underlying24 rfl (by kernel_rfl) rfl)) ?_
                  refine Steps.cons (fun a w hS hI hp => ok_on rfl (does_loadrow rfl (hS.get 1 rfl) (((hI.2.2.1).block g6 (blk_lt hbxg6)).trans hbxg6) Try.underlying24 rfl (by kernel_rfl) rfl)) ?_
                  refine Steps.cons (fun a w hS hI hp => ok_on rfl (does_val (x_bin rfl ((hp.get 0 (by rfl) rfl rfl)) ((hp.get 1 (by rfl) rfl rfl)) (carillonlaw17_DelayApart.eql24 _ _ _ a0_0 a0_1 a1_0 a1_1)) rfl)) ?_
                  exact Steps.nil
                clear hS
                intro at13 w14 hS hI hp
                have hBw14_w := hI.1
                have hBw14_w3 := hI.2.1
                have hBw14_w5 := hI.2.2.1
                have hBw14_w9 := hI.2.2.2
                replace hS := ((((((hS.nil).cons (hS.get 6 rfl)).cons (hS.get 5 rfl)).cons (hS.get 4 rfl)).cons (hS.get 2 rfl)).cons (hS.get 1 rfl)).cons (hS.get 0 rfl)
                have hv32 : sl _ 32 = .bool ((a0_0 == a1_0) && (a0_1 == a1_1)) := hp 2 (by decide)
                have hBw14_w14 := Below.refl w14.heap.size w14
                have hS := hS.cons hv32
                clear hp hI hv32
                refine hK12 _ _ ?_
                clear hK12 K12
                refine wp_cond_false ((hS.get 0 rfl).trans (bF (Bool.eq_false_iff.2 c1))) ?_
                refine wp_skip ?_
                refine hK11 _ _ ?_
                clear hK11 K11
                refine wp_seq_k (fun K15 hK15 => ?_)
                refine reg_any (N := 127) (bs := [(32, .bool ((a0_0 == a1_0) && (a0_1 == a1_1))), (10, .bool false), (6, .pointer (some ⟨g6, 0, none⟩)), (5, .pointer (some ⟨g4, 0, none⟩)), (2, .int .i64 a2), (3, .int .i64 a3), (4, .int .i64 a4)]) (I := fun x => Below w.heap.size w x ∧ Below w3.heap.size w3 x ∧ Below w5.heap.size w5 x ∧ Below w14.heap.size w14 x) (ps := [IsV (.agg #[.int .u64 a0_0, .int .i64 a0_1]), IsB #[.int .u64 t16_1, .int .i64 t16_2, .int .i64 t16_3, .int .i64 t16_4, .int .i64 t16_5, .bool t16_6, .bool t16_7] 54 w14.heap.size, IsV (.agg #[.int .u64 a1_0, .int .i64 a1_1]), IsB #[.int .u64 t17_1, .int .i64 t17_2, .int .i64 t17_3, .int .i64 t17_4, .int .i64 t17_5, .bool t17_6, .bool t17_7] 54 w14.heap.size, IsB #[.int .u64 t16_1, .int .i64 t16_2, .int .i64 t16_3, .int .i64 t16_4, .int .i64 t16_5, .bool t16_6, .bool t16_7] 54 w14.heap.size, IsB #[.int .u64 t17_1, .int .i64 t17_2, .int .i64 t17_3, .int .i64 t17_4, .int .i64 t17_5, .bool t17_6, .bool t17_7] 54 w14.heap.size]) (by kernel_rfl) (by kernel_rfl) ?_ ?_ rfl hS ⟨hBw14_w, hBw14_w3, hBw14_w5, hBw14_w14⟩ ?_ ?_
                · exact fun x y hI hb => ⟨below_step hI.1 hb, below_step hI.2.1 hb, below_step hI.2.2.1 hb, below_step hI.2.2.2 hb⟩
                · exact AllStay.cons (Stays.v _) (AllStay.cons (Stays.b _ _ _) (AllStay.cons (Stays.v _) (AllStay.cons (Stays.b _ _ _) (AllStay.cons (Stays.b _ _ _) (AllStay.cons (Stays.b _ _ _) (AllStay.nil))))))
                · refine Steps.cons (fun a w hS hI hp => ok_on rfl (does_loadrow rfl (hS.get 3 rfl) (((hI.2.1).block g4 (blk_lt hbxg4)).trans hbxg4) Try.underlying24 rfl (by kernel_rfl) rfl)) ?_
                  refine Steps.cons (fun a w hS hI hp => ok_on rfl (does_call (by kernel_rfl) (ar2 ((hp.get 0 (by rfl) rfl rfl)) (rfl)) ((delay_New.calls a0_0 a0_1 0 t16_1 t16_2 t16_3 t16_4 t16_5 t16_6 t16_7 _  At16).mono fun _ _ h => h.elim fun g_ h => ⟨_, h.1, h.2.2.2, g_, rfl, Nat.le_trans hI.2.2.2.size h.2.1, h.2.2.1⟩))) ?_
                  refine Steps.cons (fun a w hS hI hp => ok_on rfl (does_loadrow rfl (hS.get 2 rfl) (((hI.2.2.1).block g6 (blk_lt hbxg6)).trans hbxg6) Try.underlying24 rfl (by kernel_rfl) rfl)) ?_
                  refine Steps.cons (fun a w hS hI hp => ok_on rfl (does_call (by kernel_rfl) (ar2 ((hp.get 2 (by rfl) rfl rfl)) (rfl)) ((delay_New.calls a1_0 a1_1 0 t17_1 t17_2 t17_3 t17_4 t17_5 t17_6 t17_7 _  At17).mono fun _ _ h => h.elim fun g_ h => ⟨_, h.1, h.2.2.2, g_, rfl, Nat.le_trans hI.2.2.2.size h.2.1, h.2.2.1⟩))) ?_
                  refine Steps.cons (fun a w hS hI hp => ok_on rfl (does_val (x_assign rfl rfl) ((hp.get 1 (by rfl) rfl rfl)))) ?_
                  refine Steps.cons (fun a w hS hI hp => ok_on rfl (does_val (x_assign rfl rfl) ((hp.get 3 (by rfl) rfl rfl)))) ?_
                  exact Steps.nil
                clear hS
                intro at18 w19 hS hI hp
                have hBw19_w := hI.1
                have hBw19_w3 := hI.2.1
                have hBw19_w5 := hI.2.2.1
                have hBw19_w14 := hI.2.2.2
                replace hS := (((((hS.nil).cons (hS.get 6 rfl)).cons (hS.get 5 rfl)).cons (hS.get 4 rfl)).cons (hS.get 1 rfl)).cons (hS.get 0 rfl)
                obtain ⟨g20, hv11, hgeg20, hbxg20⟩ := (show IsB _ 54 _ (sl _ 11) _ from hp 4 (by decide))
                have hne21 : g20 ≠ g4 := Nat.ne_of_gt (Nat.lt_of_lt_of_le (blk_lt ((hBw14_w3.block g4 (blk_lt hbxg4)).trans hbxg4)) hgeg20)
                have hne22 : g20 ≠ g6 := Nat.ne_of_gt (Nat.lt_of_lt_of_le (blk_lt ((hBw14_w5.block g6 (blk_lt hbxg6)).trans hbxg6)) hgeg20)
                obtain ⟨g23, hv12, hgeg23, hbxg23⟩ := (show IsB _ 54 _ (sl _ 12) _ from hp 5 (by decide))
                have hne24 : g23 ≠ g4 := Nat.ne_of_gt (Nat.lt_of_lt_of_le (blk_lt ((hBw14_w3.block g4 (blk_lt hbxg4)).trans hbxg4)) hgeg23)
                have hne25 : g23 ≠ g6 := Nat.ne_of_gt (Nat.lt_of_lt_of_le (blk_lt ((hBw14_w5.block g6 (blk_lt hbxg6)).trans hbxg6)) hgeg23)
                have hne26 : g23 ≠ g20 := fun e_ => new_apart c1 At16 At17 (hbxg20.symm.trans (e_ ▸ hbxg23))
                have hBw19_w19 := Below.refl w19.heap.size w19
                have hS := hS.cons hv11
                have hS := hS.cons hv12
                clear hp hI hv11 hv12
                refine hK15 _ _ ?_
                clear hK15 K15
                refine wp_seq_k (fun K27 hK27 => ?_)
                refine wp_seq_k (fun K28 hK28 => ?_)
                refine reg_seq (N := 127) (bs := [(12, .pointer (some ⟨g23, 0, none⟩)), (11, .pointer (some ⟨g20, 0, none⟩)), (32, .bool ((a0_0 == a1_0) && (a0_1 == a1_1))), (10, .bool false), (2, .int .i64 a2), (3, .int .i64 a3), (4, .int .i64 a4)]) (I := fun x => Below w.heap.size w x ∧ Below w3.heap.size w3 x ∧ Below w5.heap.size w5 x ∧ Below w14.heap.size w14 x ∧ Below w19.heap.size w19 x) (ps := [IsV (.pointer (some ⟨g20, 0, none⟩)), IsV (.bool false), IsV (.bool false), IsV (.pointer (some ⟨g23, 0, none⟩)), IsV (.bool false), IsV (.bool false)]) (by kernel_rfl) ?_ ?_ rfl hS ⟨hBw19_w, hBw19_w3, hBw19_w5, hBw19_w14, hBw19_w19⟩ ?_ ?_
                · exact fun x y hI hb => ⟨below_step hI.1 hb, below_step hI.2.1 hb, below_step hI.2.2.1 hb, below_step hI.2.2.2.1 hb, below_step hI.2.2.2.2 hb⟩
                · exact AllStay.cons (Stays.v _) (AllStay.cons (Stays.v _) (AllStay.cons (Stays.v _) (AllStay.cons (Stays.v _) (AllStay.cons (Stays.v _) (AllStay.cons (Stays.v _) (AllStay.nil))))))
                · refine Steps.cons (fun a w hS hI hp => ok_on rfl (does_val (x_move rfl (hS.get 1 rfl)) rfl)) ?_
                  refine Steps.cons (fun a w hS hI hp => ok_on rfl (does_val (x_bin rfl ((hp.get 0 (by rfl) rfl rfl)) (rfl) (b_eqp 26 54 _ _ _ Try.underlying26)) rfl)) ?_
                  refine Steps.cons (fun a w hS hI hp => ok_on rfl (does_val (x_move rfl ((hp.get 1 (by rfl) rfl rfl))) rfl)) ?_
                  refine Steps.cons (fun a w hS hI hp => ok_if (d := 40) rfl rfl (by rw [hS.size]; decide) (((hp.get 2 (by rfl) rfl rfl)).trans (bF rfl)) (does_val (x_move rfl (hS.get 0 rfl)) rfl)) ?_
                  refine Steps.cons (fun a w hS hI hp => ok_if (d := 40) rfl rfl (by rw [hS.size]; decide) (((hp.get 2 (by rfl) rfl rfl)).trans (bF rfl)) (does_val (x_bin rfl ((hp.get 3 (by rfl) rfl rfl)) (rfl) (b_eqp 26 54 _ _ _ Try.underlying26)) rfl)) ?_
                  refine Steps.cons (fun a w hS hI hp => ok_on rfl (does_val (x_pickF rfl (((hp.get 2 (by rfl) rfl rfl)).trans (bF rfl)) ((hp.get 4 (by rfl) rfl rfl))) rfl)) ?_
                  exact Steps.nil
                clear hS
                intro at29 w30 hS hI hp
                have hBw30_w := hI.1
                have hBw30_w3 := hI.2.1
                have hBw30_w5 := hI.2.2.1
                have hBw30_w14 := hI.2.2.2.1
                have hBw30_w19 := hI.2.2.2.2
                have hv43 : sl _ 43 = .bool false := hp 5 (by decide)
                have hBw30_w30 := Below.refl w30.heap.size w30
                have hS := hS.cons hv43
                clear hp hI hv43
                refine hK28 _ _ ?_
                clear hK28 K28
                refine wp_cond_false ((hS.get 0 rfl).trans (bF rfl)) ?_
                refine wp_skip ?_
                refine hK27 _ _ ?_
                clear hK27 K27
                refine wp_seq_k (fun K31 hK31 => ?_)
                refine reg_seq (N := 127) (bs := [(43, .bool false), (12, .pointer (some ⟨g23, 0, none⟩)), (11, .pointer (some ⟨g20, 0, none⟩)), (32, .bool ((a0_0 == a1_0) && (a0_1 == a1_1))), (10, .bool false), (2, .int .i64 a2), (3, .int .i64 a3), (4, .int .i64 a4)]) (I := fun x => Below w.heap.size w x ∧ Below w3.heap.size w3 x ∧ Below w5.heap.size w5 x ∧ Below w14.heap.size w14 x ∧ Below w19.heap.size w19 x ∧ Below w30.heap.size w30 x) (ps := [IsV (.int .i64 a2), IsV (.int .i64 t32), IsV (.int .i64 t32)]) (by kernel_rfl) ?_ ?_ rfl hS ⟨hBw30_w, hBw30_w3, hBw30_w5, hBw30_w14, hBw30_w19, hBw30_w30⟩ ?_ ?_
                · exact fun x y hI hb => ⟨below_step hI.1 hb, below_step hI.2.1 hb, below_step hI.2.2.1 hb, below_step hI.2.2.2.1 hb, below_step hI.2.2.2.2.1 hb, below_step hI.2.2.2.2.2 hb⟩
                · exact AllStay.cons (Stays.v _) (AllStay.cons (Stays.v _) (AllStay.cons (Stays.v _) (AllStay.nil)))
                · refine Steps.cons (fun a w hS hI hp => ok_on rfl (does_val (x_move rfl (hS.get 5 rfl)) rfl)) ?_
                  refine Steps.cons (fun a w hS hI hp => ok_on rfl (does_call (by kernel_rfl) (ar2 ((hp.get 0 (by rfl) rfl rfl)) (rfl)) ((carillonlaw00_Place.calls a2 65536 t32 _  At32).mono fun _ _ h => ⟨_, h.1, h.2.below, rfl⟩))) ?_
                  refine Steps.cons (fun a w hS hI hp => ok_on rfl (does_val (x_assign rfl ((hp.get 1 (by rfl) rfl rfl))) rfl)) ?_
                  exact Steps.nil
                clear hS
                intro at33 w34 hS hI hp
                have hBw34_w := hI.1
                have hBw34_w3 := hI.2.1
                have hBw34_w5 := hI.2.2.1
                have hBw34_w14 := hI.2.2.2.1
                have hBw34_w19 := hI.2.2.2.2.1
                have hBw34_w30 := hI.2.2.2.2.2
                replace hS := (((((((hS.nil).cons (hS.get 7 rfl)).cons (hS.get 6 rfl)).cons (hS.get 4 rfl)).cons (hS.get 3 rfl)).cons (hS.get 2 rfl)).cons (hS.get 1 rfl)).cons (hS.get 0 rfl)
                have hv13 : sl _ 13 = .int .i64 t32 := hp 2 (by decide)
                have hBw34_w34 := Below.refl w34.heap.size w34
                have hS := hS.cons hv13
                clear hp hI hv13
                refine hK31 _ _ ?_
                clear hK31 K31
                refine wp_seq_k (fun K35 hK35 => ?_)
                refine reg_seq_tail 2 (N := 127) (bs := [(13, .int .i64 t32), (43, .bool false), (12, .pointer (some ⟨g23, 0, none⟩)), (11, .pointer (some ⟨g20, 0, none⟩)), (32, .bool ((a0_0 == a1_0) && (a0_1 == a1_1))), (10, .bool false), (3, .int .i64 a3), (4, .int .i64 a4)]) (I := fun x => Below w.heap.size w x ∧ Below w3.heap.size w3 x ∧ Below w5.heap.size w5 x ∧ Below w14.heap.size w14 x ∧ Below w19.heap.size w19 x ∧ Below w34.heap.size w34 x) (ps := [IsV (.pointer (some ⟨g20, 0, none⟩)), IsV (.int .i64 t32)]) (by kernel_rfl) ?_ ?_ rfl hS ⟨hBw34_w, hBw34_w3, hBw34_w5, hBw34_w14, hBw34_w19, hBw34_w34⟩ ?_ ?_
                · exact fun x y hI hb => ⟨below_step hI.1 hb, below_step hI.2.1 hb, below_step hI.2.2.1 hb, below_step hI.2.2.2.1 hb, below_step hI.2.2.2.2.1 hb, below_step hI.2.2.2.2.2 hb⟩
                · exact AllStay.cons (Stays.v _) (AllStay.cons (Stays.v _) (AllStay.nil))
                · refine Steps.cons (fun a w hS hI hp => ok_on rfl (does_val (x_move rfl (hS.get 3 rfl)) rfl)) ?_
                  refine Steps.cons (fun a w hS hI hp => ok_on rfl (does_val (x_move rfl (hS.get 0 rfl)) rfl)) ?_
                  exact Steps.nil
                clear hS
                intro at36 w37 hS hI hp
                have hBw37_w := hI.1
                have hBw37_w3 := hI.2.1
                have hBw37_w5 := hI.2.2.1
                have hBw37_w14 := hI.2.2.2.1
                have hBw37_w19 := hI.2.2.2.2.1
                have hBw37_w34 := hI.2.2.2.2.2
                have hv46 : sl _ 46 = .pointer (some ⟨g20, 0, none⟩) := hp 0 (by decide)
                have hv47 : sl _ 47 = .int .i64 t32 := hp 1 (by decide)
                have hBw37_w37 := Below.refl w37.heap.size w37
                have hS := hS.cons hv46
                have hS := hS.cons hv47
                clear hp hI hv46 hv47
                show wpList _ _ _ [_, _, _, _, _, _, _, _] _ _
                refine list_step rfl (R := fun v w' => v = .agg #[.int .i64 t39_1, .int .i64 t39_2, .int .i64 t39_3, .int .i64 t39_4, .int .u64 t39_5, .int .i64 t39_6, .int .i64 t39_7, .int .i64 t39_8, .int .i64 t39_9, .int .u64 t39_10, .int .i64 t39_11, .int .i64 t39_12, .int .i64 t39_13, .int .i64 t39_14, .int .i64 t39_15, .int .i64 t39_16, .int .i64 t39_17, .int .u64 t39_18, .int .i64 t39_19, .int .i64 t39_20, .int .i64 t39_21, .int .i64 t39_22, .int .i64 t39_23] ∧ w'.heap[g20]? = some (.cells #[.int .u64 t39_24, .int .i64 t39_25, .int .i64 t39_26, .int .i64 t39_27, .int .i64 t39_28, .bool t39_29, .bool t39_30] 54 (0, 0)) ∧ Tch g20 _ w') (does_call (by kernel_rfl) (ar3 (hS.get 1 rfl) (hS.get 0 rfl) (rfl)) ((delay_Exchange_Request.calls g20 t16_1 t16_2 t16_3 t16_4 t16_5 t16_6 t16_7 t32 0 t39_1 t39_2 t39_3 t39_4 t39_5 t39_6 t39_7 t39_8 t39_9 t39_10 t39_11 t39_12 t39_13 t39_14 t39_15 t39_16 t39_17 t39_18 t39_19 t39_20 t39_21 t39_22 t39_23 t39_24 t39_25 t39_26 t39_27 t39_28 t39_29 t39_30 _ ((hBw37_w19.block g20 (blk_lt hbxg20)).trans hbxg20) At39).mono fun _ _ h => ⟨_, h.1, rfl, h.2⟩)) ?_
                rintro vw38 w38 ⟨rfl, hbxw38, hT⟩
                have hn40 := hT.blk ((hBw37_w19.block g23 (blk_lt hbxg23)).trans hbxg23) hne26
                have hBw38_w := hT.below hBw37_w (Nat.le_trans (hBw14_w).size hgeg20) (hBw37_w).size
                have hBw38_w3 := hT.below hBw37_w3 (Nat.le_trans (hBw14_w3).size hgeg20) (hBw37_w3).size
                have hBw38_w5 := hT.below hBw37_w5 (Nat.le_trans (hBw14_w5).size hgeg20) (hBw37_w5).size
                have hBw38_w14 := hT.below hBw37_w14 hgeg20 (hBw37_w14).size
                have hBw38_w38 := Below.refl w38.heap.size w38
                clear hT
                refine hS.next (v := .agg #[.int .i64 t39_1, .int .i64 t39_2, .int .i64 t39_3, .int .i64 t39_4, .int .u64 t39_5, .int .i64 t39_6, .int .i64 t39_7, .int .i64 t39_8, .int .i64 t39_9, .int .u64 t39_10, .int .i64 t39_11, .int .i64 t39_12, .int .i64 t39_13, .int .i64 t39_14, .int .i64 t39_15, .int .i64 t39_16, .int .i64 t39_17, .int .u64 t39_18, .int .i64 t39_19, .int .i64 t39_20, .int .i64 t39_21, .int .i64 t39_22, .int .i64 t39_23]) (d := 48) rfl (by decide) (by rfl) ?_
                clear hS
                intro at41 hS
                refine list_step rfl (R := fun v w' => Below _ _ w' ∧ (IsV (.pointer (some ⟨g23, 0, none⟩))) v w') (does_val (x_move rfl (hS.get 5 rfl)) rfl) ?_
                rintro vw42 w42 ⟨hb, he⟩
                have hBw42_w := below_step hBw38_w hb
                have hBw42_w3 := below_step hBw38_w3 hb
                have hBw42_w5 := below_step hBw38_w5 hb
                have hBw42_w14 := below_step hBw38_w14 hb
                have hBw42_w38 := below_step hBw38_w38 hb
                have hBw42_w42 := Below.refl w42.heap.size w42
                obtain rfl : vw42 = .pointer (some ⟨g23, 0, none⟩) := he
                refine hS.next (v := .pointer (some ⟨g23, 0, none⟩)) (d := 49) rfl (by decide) (by rfl) ?_
                clear hS
                intro at43 hS
                refine list_step rfl (R := fun v w' => Below _ _ w' ∧ (IsV (.int .i64 t32)) v w') (does_val (x_move rfl (hS.get 4 rfl)) rfl) ?_
                rintro vw44 w44 ⟨hb, he⟩
                have hBw44_w := below_step hBw42_w hb
                have hBw44_w3 := below_step hBw42_w3 hb
                have hBw44_w5 := below_step hBw42_w5 hb
                have hBw44_w14 := below_step hBw42_w14 hb
                have hBw44_w38 := below_step hBw42_w38 hb
                have hBw44_w42 := below_step hBw42_w42 hb
                have hBw44_w44 := Below.refl w44.heap.size w44
                obtain rfl : vw44 = .int .i64 t32 := he
                refine hS.next (v := .int .i64 t32) (d := 50) rfl (by decide) (by rfl) ?_
                clear hS
                intro at45 hS
                refine list_step rfl (R := fun v w' => v = .agg #[.int .i64 t47_1, .int .i64 t47_2, .int .i64 t47_3, .int .i64 t47_4, .int .u64 t47_5, .int .i64 t47_6, .int .i64 t47_7, .int .i64 t47_8, .int .i64 t47_9, .int .u64 t47_10, .int .i64 t47_11, .int .i64 t47_12, .int .i64 t47_13, .int .i64 t47_14, .int .i64 t47_15, .int .i64 t47_16, .int .i64 t47_17, .int .u64 t47_18, .int .i64 t47_19, .int .i64 t47_20, .int .i64 t47_21, .int .i64 t47_22, .int .i64 t47_23] ∧ w'.heap[g23]? = some (.cells #[.int .u64 t47_24, .int .i64 t47_25, .int .i64 t47_26, .int .i64 t47_27, .int .i64 t47_28, .bool t47_29, .bool t47_30] 54 (0, 0)) ∧ Tch g23 _ w') (does_call (by kernel_rfl) (ar3 (hS.get 1 rfl) (hS.get 0 rfl) (rfl)) ((delay_Exchange_Request.calls g23 t17_1 t17_2 t17_3 t17_4 t17_5 t17_6 t17_7 t32 0 t47_1 t47_2 t47_3 t47_4 t47_5 t47_6 t47_7 t47_8 t47_9 t47_10 t47_11 t47_12 t47_13 t47_14 t47_15 t47_16 t47_17 t47_18 t47_19 t47_20 t47_21 t47_22 t47_23 t47_24 t47_25 t47_26 t47_27 t47_28 t47_29 t47_30 _ ((hBw44_w38.block g23 (blk_lt hn40)).trans hn40) At47).mono fun _ _ h => ⟨_, h.1, rfl, h.2⟩)) ?_
                rintro vw46 w46 ⟨rfl, hbxw46, hT⟩
                have hn48 := hT.blk ((hBw44_w38.block g20 (blk_lt hbxw38)).trans hbxw38) (Ne.symm hne26)
                have hBw46_w := hT.below hBw44_w (Nat.le_trans (hBw14_w).size hgeg23) (hBw44_w).size
                have hBw46_w3 := hT.below hBw44_w3 (Nat.le_trans (hBw14_w3).size hgeg23) (hBw44_w3).size
                have hBw46_w5 := hT.below hBw44_w5 (Nat.le_trans (hBw14_w5).size hgeg23) (hBw44_w5).size
                have hBw46_w14 := hT.below hBw44_w14 hgeg23 (hBw44_w14).size
                have hBw46_w46 := Below.refl w46.heap.size w46
                clear hT
                refine hS.next (v := .agg #[.int .i64 t47_1, .int .i64 t47_2, .int .i64 t47_3, .int .i64 t47_4, .int .u64 t47_5, .int .i64 t47_6, .int .i64 t47_7, .int .i64 t47_8, .int .i64 t47_9, .int .u64 t47_10, .int .i64 t47_11, .int .i64 t47_12, .int .i64 t47_13, .int .i64 t47_14, .int .i64 t47_15, .int .i64 t47_16, .int .i64 t47_17, .int .u64 t47_18, .int .i64 t47_19, .int .i64 t47_20, .int .i64 t47_21, .int .i64 t47_22, .int .i64 t47_23]) (d := 51) rfl (by decide) (by rfl) ?_
                clear hS
                intro at49 hS
                refine list_step rfl (R := fun v w' => Below _ _ w' ∧ (IsB #[.int .i64 0, .int .i64 0, .int .i64 0, .int .i64 0, .int .u64 0, .int .i64 0, .int .i64 0, .int .i64 0, .int .i64 0, .int .u64 0, .int .i64 0, .int .i64 0, .int .i64 0, .int .i64 0, .int .i64 0, .int .i64 0, .int .i64 0, .int .u64 0, .int .i64 0, .int .i64 0, .int .i64 0, .int .i64 0, .int .i64 0] 34 w46.heap.size) v w') (does_var (x_alloc rfl (by kernel_rfl)) (hBw46_w46).size) ?_
                rintro vw50 w50 ⟨hb, he⟩
                have hBw50_w := below_step hBw46_w hb
                have hBw50_w3 := below_step hBw46_w3 hb
                have hBw50_w5 := below_step hBw46_w5 hb
                have hBw50_w14 := below_step hBw46_w14 hb
                have hBw50_w46 := below_step hBw46_w46 hb
                have hBw50_w50 := Below.refl w50.heap.size w50
                obtain ⟨g51, rfl, hgeg51, hbxg51⟩ := he
                have hne52 : g51 ≠ g4 := Nat.ne_of_gt (Nat.lt_of_lt_of_le (blk_lt ((hBw46_w3.block g4 (blk_lt hbxg4)).trans hbxg4)) hgeg51)
                have hne53 : g51 ≠ g6 := Nat.ne_of_gt (Nat.lt_of_lt_of_le (blk_lt ((hBw46_w5.block g6 (blk_lt hbxg6)).trans hbxg6)) hgeg51)
                have hne54 : g51 ≠ g20 := Nat.ne_of_gt (Nat.lt_of_lt_of_le (blk_lt ((hBw46_w46.block g20 (blk_lt hn48)).trans hn48)) hgeg51)
                have hne55 : g51 ≠ g23 := Nat.ne_of_gt (Nat.lt_of_lt_of_le (blk_lt ((hBw46_w46.block g23 (blk_lt hbxw46)).trans hbxw46)) hgeg51)
                refine hS.next (v := .pointer (some ⟨g51, 0, none⟩)) (d := 14) rfl (by decide) (by rfl) ?_
                clear hS
                intro at56 hS
                refine list_step rfl (R := fun v w' => Below _ _ w' ∧ (IsB #[.int .i64 0, .int .i64 0, .int .i64 0, .int .i64 0, .int .u64 0, .int .i64 0, .int .i64 0, .int .i64 0, .int .i64 0, .int .u64 0, .int .i64 0, .int .i64 0, .int .i64 0, .int .i64 0, .int .i64 0, .int .i64 0, .int .i64 0, .int .u64 0, .int .i64 0, .int .i64 0, .int .i64 0, .int .i64 0, .int .i64 0] 34 w50.heap.size) v w') (does_var (x_alloc rfl (by kernel_rfl)) (hBw50_w50).size) ?_
                rintro vw57 w57 ⟨hb, he⟩
                have hBw57_w := below_step hBw50_w hb
                have hBw57_w3 := below_step hBw50_w3 hb
                have hBw57_w5 := below_step hBw50_w5 hb
                have hBw57_w14 := below_step hBw50_w14 hb
                have hBw57_w46 := below_step hBw50_w46 hb
                have hBw57_w50 := below_step hBw50_w50 hb
                have hBw57_w57 := Below.refl w57.heap.size w57
                obtain ⟨g58, rfl, hgeg58, hbxg58⟩ := he
                have hne59 : g58 ≠ g4 := Nat.ne_of_gt (Nat.lt_of_lt_of_le (blk_lt ((hBw50_w3.block g4 (blk_lt hbxg4)).trans hbxg4)) hgeg58)
                have hne60 : g58 ≠ g6 := Nat.ne_of_gt (Nat.lt_of_lt_of_le (blk_lt ((hBw50_w5.block g6 (blk_lt hbxg6)).trans hbxg6)) hgeg58)
                have hne61 : g58 ≠ g20 := Nat.ne_of_gt (Nat.lt_of_lt_of_le (blk_lt ((hBw50_w46.block g20 (blk_lt hn48)).trans hn48)) hgeg58)
                have hne62 : g58 ≠ g23 := Nat.ne_of_gt (Nat.lt_of_lt_of_le (blk_lt ((hBw50_w46.block g23 (blk_lt hbxw46)).trans hbxw46)) hgeg58)
                have hne63 : g58 ≠ g51 := Nat.ne_of_gt (Nat.lt_of_lt_of_le (blk_lt ((hBw50_w50.block g51 (blk_lt hbxg51)).trans hbxg51)) hgeg58)
                refine hS.next (v := .pointer (some ⟨g58, 0, none⟩)) (d := 15) rfl (by decide) (by rfl) ?_
                clear hS
                intro at64 hS
                refine list_step rfl (does_storeAll (g := g51) (cs := #[.int .i64 t39_1, .int .i64 t39_2, .int .i64 t39_3, .int .i64 t39_4, .int .u64 t39_5, .int .i64 t39_6, .int .i64 t39_7, .int .i64 t39_8, .int .i64 t39_9, .int .u64 t39_10, .int .i64 t39_11, .int .i64 t39_12, .int .i64 t39_13, .int .i64 t39_14, .int .i64 t39_15, .int .i64 t39_16, .int .i64 t39_17, .int .u64 t39_18, .int .i64 t39_19, .int .i64 t39_20, .int .i64 t39_21, .int .i64 t39_22, .int .i64 t39_23]) rfl (hS.get 1 rfl) (hS.get 5 rfl) ((hBw57_w50.block g51 (blk_lt hbxg51)).trans hbxg51) (by kernel_rfl) (by kernel_rfl) (by kernel_rfl)) ?_
                rintro vw65 w65 ⟨rfl, hbxw65, hT⟩
                have hn66 := hT.blk ((hBw57_w57.block g58 (blk_lt hbxg58)).trans hbxg58) hne63
                have hBw65_w := hT.below hBw57_w (Nat.le_trans (hBw46_w).size hgeg51) (hBw57_w).size
                have hBw65_w3 := hT.below hBw57_w3 (Nat.le_trans (hBw46_w3).size hgeg51) (hBw57_w3).size
                have hBw65_w5 := hT.below hBw57_w5 (Nat.le_trans (hBw46_w5).size hgeg51) (hBw57_w5).size
                have hBw65_w14 := hT.below hBw57_w14 (Nat.le_trans (hBw46_w14).size hgeg51) (hBw57_w14).size
                have hBw65_w46 := hT.below hBw57_w46 hgeg51 (hBw57_w46).size
                have hBw65_w65 := Below.refl w65.heap.size w65
                clear hT
                refine list_step rfl (does_storeAll (g := g58) (cs := #[.int .i64 t47_1, .int .i64 t47_2, .int .i64 t47_3, .int .i64 t47_4, .int .u64 t47_5, .int .i64 t47_6, .int .i64 t47_7, .int .i64 t47_8, .int .i64 t47_9, .int .u64 t47_10, .int .i64 t47_11, .int .i64 t47_12, .int .i64 t47_13, .int .i64 t47_14, .int .i64 t47_15, .int .i64 t47_16, .int .i64 t47_17, .int .u64 t47_18, .int .i64 t47_19, .int .i64 t47_20, .int .i64 t47_21, .int .i64 t47_22, .int .i64 t47_23]) rfl (hS.get 0 rfl) (hS.get 2 rfl) ((hBw65_w65.block g58 (blk_lt hn66)).trans hn66) (by kernel_rfl) (by kernel_rfl) (by kernel_rfl)) ?_
                rintro vw67 w67 ⟨rfl, hbxw67, hT⟩
                have hn68 := hT.blk ((hBw65_w65.block g51 (blk_lt hbxw65)).trans hbxw65) (Ne.symm hne63)
                have hBw67_w := hT.below hBw65_w (Nat.le_trans (hBw46_w).size (Nat.le_trans (hBw50_w46).size hgeg58)) (hBw65_w).size
                have hBw67_w3 := hT.below hBw65_w3 (Nat.le_trans (hBw46_w3).size (Nat.le_trans (hBw50_w46).size hgeg58)) (hBw65_w3).size
                have hBw67_w5 := hT.below hBw65_w5 (Nat.le_trans (hBw46_w5).size (Nat.le_trans (hBw50_w46).size hgeg58)) (hBw65_w5).size
                have hBw67_w14 := hT.below hBw65_w14 (Nat.le_trans (hBw46_w14).size (Nat.le_trans (hBw50_w46).size hgeg58)) (hBw65_w14).size
                have hBw67_w46 := hT.below hBw65_w46 (Nat.le_trans (hBw50_w46).size hgeg58) (hBw65_w46).size
                have hBw67_w67 := Below.refl w67.heap.size w67
                clear hT
                refine wpList_nil ?_
                refine hK35 _ _ ?_
                clear hK35 K35
                refine wp_seq_k (fun K69 hK69 => ?_)
                refine reg_seq (N := 127) (bs := [(15, .pointer (some ⟨g58, 0, none⟩)), (14, .pointer (some ⟨g51, 0, none⟩)), (51, .agg #[.int .i64 t47_1, .int .i64 t47_2, .int .i64 t47_3, .int .i64 t47_4, .int .u64 t47_5, .int .i64 t47_6, .int .i64 t47_7, .int .i64 t47_8, .int .i64 t47_9, .int .u64 t47_10, .int .i64 t47_11, .int .i64 t47_12, .int .i64 t47_13, .int .i64 t47_14, .int .i64 t47_15, .int .i64 t47_16, .int .i64 t47_17, .int .u64 t47_18, .int .i64 t47_19, .int .i64 t47_20, .int .i64 t47_21, .int .i64 t47_22, .int .i64 t47_23]), (50, .int .i64 t32), (49, .pointer (some ⟨g23, 0, none⟩)), (48, .agg #[.int .i64 t39_1, .int .i64 t39_2, .int .i64 t39_3, .int .i64 t39_4, .int .u64 t39_5, .int .i64 t39_6, .int .i64 t39_7, .int .i64 t39_8, .int .i64 t39_9, .int .u64 t39_10, .int .i64 t39_11, .int .i64 t39_12, .int .i64 t39_13, .int .i64 t39_14, .int .i64 t39_15, .int .i64 t39_16, .int .i64 t39_17, .int .u64 t39_18, .int .i64 t39_19, .int .i64 t39_20, .int .i64 t39_21, .int .i64 t39_22, .int .i64 t39_23]), (47, .int .i64 t32), (46, .pointer (some ⟨g20, 0, none⟩)), (13, .int .i64 t32), (43, .bool false), (12, .pointer (some ⟨g23, 0, none⟩)), (11, .pointer (some ⟨g20, 0, none⟩)), (32, .bool ((a0_0 == a1_0) && (a0_1 == a1_1))), (10, .bool false), (3, .int .i64 a3), (4, .int .i64 a4)]) (I := fun x => Below w.heap.size w x ∧ Below w3.heap.size w3 x ∧ Below w5.heap.size w5 x ∧ Below w14.heap.size w14 x ∧ Below w46.heap.size w46 x ∧ Below w67.heap.size w67 x) (ps := [IsV (.int .i64 a3), IsV (.int .i64 t70), IsV (.int .i64 a4), IsV (.int .i64 t71), IsV (.int .i64 t70), IsV (.int .i64 t71)]) (by kernel_rfl) ?_ ?_ rfl hS ⟨hBw67_w, hBw67_w3, hBw67_w5, hBw67_w14, hBw67_w46, hBw67_w67⟩ ?_ ?_
                · exact fun x y hI hb => ⟨below_step hI.1 hb, below_step hI.2.1 hb, below_step hI.2.2.1 hb, below_step hI.2.2.2.1 hb, below_step hI.2.2.2.2.1 hb, below_step hI.2.2.2.2.2 hb⟩
                · exact AllStay.cons (Stays.v _) (AllStay.cons (Stays.v _) (AllStay.cons (Stays.v _) (AllStay.cons (Stays.v _) (AllStay.cons (Stays.v _) (AllStay.cons (Stays.v _) (AllStay.nil))))))
                · refine Steps.cons (fun a w hS hI hp => ok_on rfl (does_val (x_move rfl (hS.get 14 rfl)) rfl)) ?_
                  refine Steps.cons (fun a w hS hI hp => ok_on rfl (does_call (by kernel_rfl) (ar2 ((hp.get 0 (by rfl) rfl rfl)) (rfl)) ((carillonlaw00_Place.calls a3 1099511627776 t70 _  At70).mono fun _ _ h => ⟨_, h.1, h.2.below, rfl⟩))) ?_
                  refine Steps.cons (fun a w hS hI hp => ok_on rfl (does_val (x_move rfl (hS.get 15 rfl)) rfl)) ?_
                  refine Steps.cons (fun a w hS hI hp => ok_on rfl (does_call (by kernel_rfl) (ar2 ((hp.get 2 (by rfl) rfl rfl)) (rfl)) ((carillonlaw00_Place.calls a4 1099511627776 t71 _  At71).mono fun _ _ h => ⟨_, h.1, h.2.below, rfl⟩))) ?_
                  refine Steps.cons (fun a w hS hI hp => ok_on rfl (does_val (x_assign rfl ((hp.get 1 (by rfl) rfl rfl))) rfl)) ?_
                  refine Steps.cons (fun a w hS hI hp => ok_on rfl (does_val (x_assign rfl ((hp.get 3 (by rfl) rfl rfl))) rfl)) ?_
                  exact Steps.nil
                clear hS
                intro at72 w73 hS hI hp
                have hBw73_w := hI.1
                have hBw73_w3 := hI.2.1
                have hBw73_w5 := hI.2.2.1
                have hBw73_w14 := hI.2.2.2.1
                have hBw73_w46 := hI.2.2.2.2.1
                have hBw73_w67 := hI.2.2.2.2.2
                replace hS := ((((((((hS.nil).cons (hS.get 13 rfl)).cons (hS.get 12 rfl)).cons (hS.get 11 rfl)).cons (hS.get 10 rfl)).cons (hS.get 9 rfl)).cons (hS.get 8 rfl)).cons (hS.get 1 rfl)).cons (hS.get 0 rfl)
                have hv16 : sl _ 16 = .int .i64 t70 := hp 4 (by decide)
                have hv17 : sl _ 17 = .int .i64 t71 := hp 5 (by decide)
                have hBw73_w73 := Below.refl w73.heap.size w73
                have hS := hS.cons hv16
                have hS := hS.cons hv17
                clear hp hI hv16 hv17
                refine hK69 _ _ ?_
                clear hK69 K69
                refine wp_seq_k (fun K74 hK74 => ?_)
                refine reg_seq_tail 3 (N := 127) (bs := [(17, .int .i64 t71), (16, .int .i64 t70), (15, .pointer (some ⟨g58, 0, none⟩)), (14, .pointer (some ⟨g51, 0, none⟩)), (13, .int .i64 t32), (43, .bool false), (12, .pointer (some ⟨g23, 0, none⟩)), (11, .pointer (some ⟨g20, 0, none⟩)), (32, .bool ((a0_0 == a1_0) && (a0_1 == a1_1))), (10, .bool false)]) (I := fun x => Below w.heap.size w x ∧ Below w3.heap.size w3 x ∧ Below w5.heap.size w5 x ∧ Below w14.heap.size w14 x ∧ Below w46.heap.size w46 x ∧ Below w67.heap.size w67 x ∧ Below w73.heap.size w73 x) (ps := [IsV (.pointer (some ⟨g20, 0, none⟩)), IsV (.int .i64 t32), IsV (.int .i64 t70)]) (by kernel_rfl) ?_ ?_ rfl hS ⟨hBw73_w, hBw73_w3, hBw73_w5, hBw73_w14, hBw73_w46, hBw73_w67, hBw73_w73⟩ ?_ ?_
                · exact fun x y hI hb => ⟨below_step hI.1 hb, below_step hI.2.1 hb, below_step hI.2.2.1 hb, below_step hI.2.2.2.1 hb, below_step hI.2.2.2.2.1 hb, below_step hI.2.2.2.2.2.1 hb, below_step hI.2.2.2.2.2.2 hb⟩
                · exact AllStay.cons (Stays.v _) (AllStay.cons (Stays.v _) (AllStay.cons (Stays.v _) (AllStay.nil)))
                · refine Steps.cons (fun a w hS hI hp => ok_on rfl (does_val (x_move rfl (hS.get 7 rfl)) rfl)) ?_
                  refine Steps.cons (fun a w hS hI hp => ok_on rfl (does_val (x_move rfl (hS.get 4 rfl)) rfl)) ?_
                  refine Steps.cons (fun a w hS hI hp => ok_on rfl (does_val (x_move rfl (hS.get 1 rfl)) rfl)) ?_
                  exact Steps.nil
                clear hS
                intro at75 w76 hS hI hp
                have hBw76_w := hI.1
                have hBw76_w3 := hI.2.1
                have hBw76_w5 := hI.2.2.1
                have hBw76_w14 := hI.2.2.2.1
                have hBw76_w46 := hI.2.2.2.2.1
                have hBw76_w67 := hI.2.2.2.2.2.1
                have hBw76_w73 := hI.2.2.2.2.2.2
                have hv56 : sl _ 56 = .pointer (some ⟨g20, 0, none⟩) := hp 0 (by decide)
                have hv57 : sl _ 57 = .int .i64 t32 := hp 1 (by decide)
                have hv58 : sl _ 58 = .int .i64 t70 := hp 2 (by decide)
                have hBw76_w76 := Below.refl w76.heap.size w76
                have hS := hS.cons hv56
                have hS := hS.cons hv57
                have hS := hS.cons hv58
                clear hp hI hv56 hv57 hv58
                show wpList _ _ _ [_] _ _
                refine list_step rfl (R := fun v w' => v = .bool t78_1 ∧ w'.heap[g20]? = some (.cells #[.int .u64 t78_2, .int .i64 t78_3, .int .i64 t78_4, .int .i64 t78_5, .int .i64 t78_6, .bool t78_7, .bool t78_8] 54 (0, 0)) ∧ Tch g20 _ w') (does_call (by kernel_rfl) (ar3 (hS.get 2 rfl) (hS.get 1 rfl) (hS.get 0 rfl)) ((delay_Exchange_Sent.calls g20 t39_24 t39_25 t39_26 t39_27 t39_28 t39_29 t39_30 t32 t70 t78_1 t78_2 t78_3 t78_4 t78_5 t78_6 t78_7 t78_8 _ ((hBw76_w46.block g20 (blk_lt hn48)).trans hn48) At78).mono fun _ _ h => ⟨_, h.1, rfl, h.2⟩)) ?_
                rintro vw77 w77 ⟨rfl, hbxw77, hT⟩
                have hn79 := hT.blk ((hBw76_w46.block g23 (blk_lt hbxw46)).trans hbxw46) hne26
                have hn80 := hT.blk ((hBw76_w67.block g51 (blk_lt hn68)).trans hn68) hne54
                have hn81 := hT.blk ((hBw76_w67.block g58 (blk_lt hbxw67)).trans hbxw67) hne61
                have hBw77_w := hT.below hBw76_w (Nat.le_trans (hBw14_w).size hgeg20) (hBw76_w).size
                have hBw77_w3 := hT.below hBw76_w3 (Nat.le_trans (hBw14_w3).size hgeg20) (hBw76_w3).size
                have hBw77_w5 := hT.below hBw76_w5 (Nat.le_trans (hBw14_w5).size hgeg20) (hBw76_w5).size
                have hBw77_w14 := hT.below hBw76_w14 hgeg20 (hBw76_w14).size
                have hBw77_w77 := Below.refl w77.heap.size w77
                clear hT
                refine hS.next (v := .bool t78_1) (d := 59) rfl (by decide) (by rfl) ?_
                clear hS
                intro at82 hS
                refine wpList_nil ?_
                refine hK74 _ _ ?_
                clear hK74 K74
                refine wp_seq_k (fun K83 hK83 => ?_)
                refine reg_seq_tail 3 (N := 127) (bs := [(59, .bool t78_1), (58, .int .i64 t70), (57, .int .i64 t32), (56, .pointer (some ⟨g20, 0, none⟩)), (17, .int .i64 t71), (16, .int .i64 t70), (15, .pointer (some ⟨g58, 0, none⟩)), (14, .pointer (some ⟨g51, 0, none⟩)), (13, .int .i64 t32), (43, .bool false), (12, .pointer (some ⟨g23, 0, none⟩)), (11, .pointer (some ⟨g20, 0, none⟩)), (32, .bool ((a0_0 == a1_0) && (a0_1 == a1_1))), (10, .bool false)]) (I := fun x => Below w.heap.size w x ∧ Below w3.heap.size w3 x ∧ Below w5.heap.size w5 x ∧ Below w14.heap.size w14 x ∧ Below w77.heap.size w77 x) (ps := [IsV (.pointer (some ⟨g23, 0, none⟩)), IsV (.int .i64 t32), IsV (.int .i64 t71)]) (by kernel_rfl) ?_ ?_ rfl hS ⟨hBw77_w, hBw77_w3, hBw77_w5, hBw77_w14, hBw77_w77⟩ ?_ ?_
                · exact fun x y hI hb => ⟨below_step hI.1 hb, below_step hI.2.1 hb, below_step hI.2.2.1 hb, below_step hI.2.2.2.1 hb, below_step hI.2.2.2.2 hb⟩
                · exact AllStay.cons (Stays.v _) (AllStay.cons (Stays.v _) (AllStay.cons (Stays.v _) (AllStay.nil)))
                · refine Steps.cons (fun a w hS hI hp => ok_on rfl (does_val (x_move rfl (hS.get 10 rfl)) rfl)) ?_
                  refine Steps.cons (fun a w hS hI hp => ok_on rfl (does_val (x_move rfl (hS.get 8 rfl)) rfl)) ?_
                  refine Steps.cons (fun a w hS hI hp => ok_on rfl (does_val (x_move rfl (hS.get 4 rfl)) rfl)) ?_
                  exact Steps.nil
                clear hS
                intro at84 w85 hS hI hp
                have hBw85_w := hI.1
                have hBw85_w3 := hI.2.1
                have hBw85_w5 := hI.2.2.1
                have hBw85_w14 := hI.2.2.2.1
                have hBw85_w77 := hI.2.2.2.2
                replace hS := (((((((((hS.nil).cons (hS.get 13 rfl)).cons (hS.get 12 rfl)).cons (hS.get 11 rfl)).cons (hS.get 10 rfl)).cons (hS.get 9 rfl)).cons (hS.get 7 rfl)).cons (hS.get 6 rfl)).cons (hS.get 5 rfl)).cons (hS.get 4 rfl)
                have hv60 : sl _ 60 = .pointer (some ⟨g23, 0, none⟩) := hp 0 (by decide)
                have hv61 : sl _ 61 = .int .i64 t32 := hp 1 (by decide)
                have hv62 : sl _ 62 = .int .i64 t71 := hp 2 (by decide)
                have hBw85_w85 := Below.refl w85.heap.size w85
                have hS := hS.cons hv60
                have hS := hS.cons hv61
                have hS := hS.cons hv62
                clear hp hI hv60 hv61 hv62
                show wpList _ _ _ [_] _ _
                refine list_step rfl (R := fun v w' => v = .bool t87_1 ∧ w'.heap[g23]? = some (.cells #[.int .u64 t87_2, .int .i64 t87_3, .int .i64 t87_4, .int .i64 t87_5, .int .i64 t87_6, .bool t87_7, .bool t87_8] 54 (0, 0)) ∧ Tch g23 _ w') (does_call (by kernel_rfl) (ar3 (hS.get 2 rfl) (hS.get 1 rfl) (hS.get 0 rfl)) ((delay_Exchange_Sent.calls g23 t47_24 t47_25 t47_26 t47_27 t47_28 t47_29 t47_30 t32 t71 t87_1 t87_2 t87_3 t87_4 t87_5 t87_6 t87_7 t87_8 _ ((hBw85_w77.block g23 (blk_lt hn79)).trans hn79) At87).mono fun _ _ h => ⟨_, h.1, rfl, h.2⟩)) ?_
                rintro vw86 w86 ⟨rfl, hbxw86, hT⟩
                have hn88 := hT.blk ((hBw85_w77.block g20 (blk_lt hbxw77)).trans hbxw77) (Ne.symm hne26)
                have hn89 := hT.blk ((hBw85_w77.block g51 (blk_lt hn80)).trans hn80) hne55
                have hn90 := hT.blk ((hBw85_w77.block g58 (blk_lt hn81)).trans hn81) hne62
                have hBw86_w := hT.below hBw85_w (Nat.le_trans (hBw14_w).size hgeg23) (hBw85_w).size
                have hBw86_w3 := hT.below hBw85_w3 (Nat.le_trans (hBw14_w3).size hgeg23) (hBw85_w3).size
                have hBw86_w5 := hT.below hBw85_w5 (Nat.le_trans (hBw14_w5).size hgeg23) (hBw85_w5).size
                have hBw86_w14 := hT.below hBw85_w14 hgeg23 (hBw85_w14).size
                have hBw86_w86 := Below.refl w86.heap.size w86
                clear hT
                refine hS.next (v := .bool t87_1) (d := 63) rfl (by decide) (by rfl) ?_
                clear hS
                intro at91 hS
                refine wpList_nil ?_
                refine hK83 _ _ ?_
                clear hK83 K83
                refine wp_seq_k (fun K92 hK92 => ?_)
                refine reg_seq_tail 7 (N := 127) (bs := [(63, .bool t87_1), (62, .int .i64 t71), (61, .int .i64 t32), (60, .pointer (some ⟨g23, 0, none⟩)), (17, .int .i64 t71), (16, .int .i64 t70), (15, .pointer (some ⟨g58, 0, none⟩)), (14, .pointer (some ⟨g51, 0, none⟩)), (43, .bool false), (12, .pointer (some ⟨g23, 0, none⟩)), (11, .pointer (some ⟨g20, 0, none⟩)), (32, .bool ((a0_0 == a1_0) && (a0_1 == a1_1))), (10, .bool false)]) (I := fun x => Below w.heap.size w x ∧ Below w3.heap.size w3 x ∧ Below w5.heap.size w5 x ∧ Below w14.heap.size w14 x ∧ Below w86.heap.size w86 x) (ps := [IsV (.agg #[.int .i64 t39_1, .int .i64 t39_2, .int .i64 t39_3, .int .i64 t39_4, .int .u64 t39_5, .int .i64 t39_6, .int .i64 t39_7, .int .i64 t39_8, .int .i64 t39_9, .int .u64 t39_10, .int .i64 t39_11, .int .i64 t39_12, .int .i64 t39_13, .int .i64 t39_14, .int .i64 t39_15, .int .i64 t39_16, .int .i64 t39_17, .int .u64 t39_18, .int .i64 t39_19, .int .i64 t39_20, .int .i64 t39_21, .int .i64 t39_22, .int .i64 t39_23]), IsV (.agg #[.int .u64 8, .int .i64 1]), IsV (.tuple #[.agg #[.int .i64 t93_1, .int .i64 t93_2, .int .i64 t93_3, .int .i64 t93_4, .int .u64 t93_5, .int .i64 t93_6, .int .i64 t93_7, .int .i64 t93_8, .int .i64 t93_9, .int .u64 t93_10, .int .i64 t93_11, .int .i64 t93_12, .int .i64 t93_13, .int .i64 t93_14, .int .i64 t93_15, .int .i64 t93_16, .int .i64 t93_17, .int .u64 t93_18, .int .i64 t93_19, .int .i64 t93_20, .int .i64 t93_21, .int .i64 t93_22, .int .i64 t93_23], .bool t93_24]), IsV (.tuple #[.agg #[.int .i64 t93_1, .int .i64 t93_2, .int .i64 t93_3, .int .i64 t93_4, .int .u64 t93_5, .int .i64 t93_6, .int .i64 t93_7, .int .i64 t93_8, .int .i64 t93_9, .int .u64 t93_10, .int .i64 t93_11, .int .i64 t93_12, .int .i64 t93_13, .int .i64 t93_14, .int .i64 t93_15, .int .i64 t93_16, .int .i64 t93_17, .int .u64 t93_18, .int .i64 t93_19, .int .i64 t93_20, .int .i64 t93_21, .int .i64 t93_22, .int .i64 t93_23], .bool t93_24]), IsV (.agg #[.int .i64 t93_1, .int .i64 t93_2, .int .i64 t93_3, .int .i64 t93_4, .int .u64 t93_5, .int .i64 t93_6, .int .i64 t93_7, .int .i64 t93_8, .int .i64 t93_9, .int .u64 t93_10, .int .i64 t93_11, .int .i64 t93_12, .int .i64 t93_13, .int .i64 t93_14, .int .i64 t93_15, .int .i64 t93_16, .int .i64 t93_17, .int .u64 t93_18, .int .i64 t93_19, .int .i64 t93_20, .int .i64 t93_21, .int .i64 t93_22, .int .i64 t93_23]), IsV (.bool t93_24), IsB #[.int .i64 0, .int .i64 0, .int .i64 0, .int .i64 0, .int .u64 0, .int .i64 0, .int .i64 0, .int .i64 0, .int .i64 0, .int .u64 0, .int .i64 0, .int .i64 0, .int .i64 0, .int .i64 0, .int .i64 0, .int .i64 0, .int .i64 0, .int .u64 0, .int .i64 0, .int .i64 0, .int .i64 0, .int .i64 0, .int .i64 0] 34 w86.heap.size]) (by kernel_rfl) ?_ ?_ rfl hS ⟨hBw86_w, hBw86_w3, hBw86_w5, hBw86_w14, hBw86_w86⟩ ?_ ?_
                · exact fun x y hI hb => ⟨below_step hI.1 hb, below_step hI.2.1 hb, below_step hI.2.2.1 hb, below_step hI.2.2.2.1 hb, below_step hI.2.2.2.2 hb⟩
                · exact AllStay.cons (Stays.v _) (AllStay.cons (Stays.v _) (AllStay.cons (Stays.v _) (AllStay.cons (Stays.v _) (AllStay.cons (Stays.v _) (AllStay.cons (Stays.v _) (AllStay.cons (Stays.b _ _ _) (AllStay.nil)))))))
                · refine Steps.cons (fun a w hS hI hp => ok_on rfl (does_loadrow rfl (hS.get 7 rfl) (((hI.2.2.2.2).block g51 (blk_lt hn89)).trans hn89) Try.underlying34 rfl (by kernel_rfl) rfl)) ?_
                  refine Steps.cons (fun a w hS hI hp => ok_on rfl (does_val (x_build (vs := [(0, .int .u64 8), (1, .int .i64 1)]) rfl (by rw [Array.toList_map]; exact (show [(0, a.eval (.const (.int .u64 8))), (1, a.eval (.const (.int .i64 1)))] = _ from (li_cons (rfl) (li_cons (rfl) rfl)))) (by kernel_rfl)) rfl)) ?_
                  refine Steps.cons (fun a w hS hI hp => ok_on rfl (does_call (by kernel_rfl) (ar4 ((hp.get 0 (by rfl) rfl rfl)) ((hp.get 1 (by rfl) rfl rfl)) (rfl) (rfl)) ((delay_Answer.calls t39_1 t39_2 t39_3 t39_4 t39_5 t39_6 t39_7 t39_8 t39_9 t39_10 t39_11 t39_12 t39_13 t39_14 t39_15 t39_16 t39_17 t39_18 t39_19 t39_20 t39_21 t39_22 t39_23 8 1 2199023255552 0 t93_1 t93_2 t93_3 t93_4 t93_5 t93_6 t93_7 t93_8 t93_9 t93_10 t93_11 t93_12 t93_13 t93_14 t93_15 t93_16 t93_17 t93_18 t93_19 t93_20 t93_21 t93_22 t93_23 t93_24 _  At93).mono fun _ _ h => ⟨_, h.1, h.2, rfl⟩))) ?_
                  refine Steps.cons (fun a w hS hI hp => ok_on rfl (does_val (x_move rfl ((hp.get 2 (by rfl) rfl rfl))) rfl)) ?_
                  refine Steps.cons (fun a w hS hI hp => ok_on rfl (does_val (x_extract rfl ((hp.get 3 (by rfl) rfl rfl)) rfl) rfl)) ?_
                  refine Steps.cons (fun a w hS hI hp => ok_on rfl (does_val (x_extract rfl ((hp.get 3 (by rfl) rfl rfl)) rfl) rfl)) ?_
                  refine Steps.cons (fun a w hS hI hp => ok_on rfl (does_var (x_alloc rfl (by kernel_rfl)) (hI.2.2.2.2).size)) ?_
                  exact Steps.nil
                clear hS
                intro at94 w95 hS hI hp
                have hBw95_w := hI.1
                have hBw95_w3 := hI.2.1
                have hBw95_w5 := hI.2.2.1
                have hBw95_w14 := hI.2.2.2.1
                have hBw95_w86 := hI.2.2.2.2
                replace hS := ((((((((hS.nil).cons (hS.get 12 rfl)).cons (hS.get 11 rfl)).cons (hS.get 10 rfl)).cons (hS.get 9 rfl)).cons (hS.get 8 rfl)).cons (hS.get 6 rfl)).cons (hS.get 5 rfl)).cons (hS.get 4 rfl)
                have hv68 : sl _ 68 = .agg #[.int .i64 t93_1, .int .i64 t93_2, .int .i64 t93_3, .int .i64 t93_4, .int .u64 t93_5, .int .i64 t93_6, .int .i64 t93_7, .int .i64 t93_8, .int .i64 t93_9, .int .u64 t93_10, .int .i64 t93_11, .int .i64 t93_12, .int .i64 t93_13, .int .i64 t93_14, .int .i64 t93_15, .int .i64 t93_16, .int .i64 t93_17, .int .u64 t93_18, .int .i64 t93_19, .int .i64 t93_20, .int .i64 t93_21, .int .i64 t93_22, .int .i64 t93_23] := hp 4 (by decide)
                have hv69 : sl _ 69 = .bool t93_24 := hp 5 (by decide)
                obtain ⟨g96, hv18, hgeg96, hbxg96⟩ := (show IsB _ 34 _ (sl _ 18) _ from hp 6 (by decide))
                have hne97 : g96 ≠ g4 := Nat.ne_of_gt (Nat.lt_of_lt_of_le (blk_lt ((hBw86_w3.block g4 (blk_lt hbxg4)).trans hbxg4)) hgeg96)
                have hne98 : g96 ≠ g6 := Nat.ne_of_gt (Nat.lt_of_lt_of_le (blk_lt ((hBw86_w5.block g6 (blk_lt hbxg6)).trans hbxg6)) hgeg96)
                have hne99 : g96 ≠ g20 := Nat.ne_of_gt (Nat.lt_of_lt_of_le (blk_lt ((hBw86_w86.block g20 (blk_lt hn88)).trans hn88)) hgeg96)
                have hne100 : g96 ≠ g23 := Nat.ne_of_gt (Nat.lt_of_lt_of_le (blk_lt ((hBw86_w86.block g23 (blk_lt hbxw86)).trans hbxw86)) hgeg96)
                have hne101 : g96 ≠ g51 := Nat.ne_of_gt (Nat.lt_of_lt_of_le (blk_lt ((hBw86_w86.block g51 (blk_lt hn89)).trans hn89)) hgeg96)
                have hne102 : g96 ≠ g58 := Nat.ne_of_gt (Nat.lt_of_lt_of_le (blk_lt ((hBw86_w86.block g58 (blk_lt hn90)).trans hn90)) hgeg96)
                have hBw95_w95 := Below.refl w95.heap.size w95
                have hS := hS.cons hv68
                have hS := hS.cons hv69
                have hS := hS.cons hv18
                clear hp hI hv68 hv69 hv18
                show wpList _ _ _ [_, _] _ _
                refine list_step rfl (does_storeAll (g := g96) (cs := #[.int .i64 t93_1, .int .i64 t93_2, .int .i64 t93_3, .int .i64 t93_4, .int .u64 t93_5, .int .i64 t93_6, .int .i64 t93_7, .int .i64 t93_8, .int .i64 t93_9, .int .u64 t93_10, .int .i64 t93_11, .int .i64 t93_12, .int .i64 t93_13, .int .i64 t93_14, .int .i64 t93_15, .int .i64 t93_16, .int .i64 t93_17, .int .u64 t93_18, .int .i64 t93_19, .int .i64 t93_20, .int .i64 t93_21, .int .i64 t93_22, .int .i64 t93_23]) rfl (hS.get 0 rfl) (hS.get 2 rfl) ((hBw95_w95.block g96 (blk_lt hbxg96)).trans hbxg96) (by kernel_rfl) (by kernel_rfl) (by kernel_rfl)) ?_
                rintro vw103 w103 ⟨rfl, hbxw103, hT⟩
                have hBw103_w := hT.below hBw95_w (Nat.le_trans (hBw86_w).size hgeg96) (hBw95_w).size
                have hBw103_w3 := hT.below hBw95_w3 (Nat.le_trans (hBw86_w3).size hgeg96) (hBw95_w3).size
                have hBw103_w5 := hT.below hBw95_w5 (Nat.le_trans (hBw86_w5).size hgeg96) (hBw95_w5).size
                have hBw103_w14 := hT.below hBw95_w14 (Nat.le_trans (hBw86_w14).size hgeg96) (hBw95_w14).size
                have hBw103_w86 := hT.below hBw95_w86 hgeg96 (hBw95_w86).size
                have hBw103_w103 := Below.refl w103.heap.size w103
                clear hT
                refine list_step rfl (R := fun v w' => Below _ _ w' ∧ (IsV (.bool t93_24)) v w') (does_val (x_assign rfl (hS.get 1 rfl)) rfl) ?_
                rintro vw104 w104 ⟨hb, he⟩
                have hBw104_w := below_step hBw103_w hb
                have hBw104_w3 := below_step hBw103_w3 hb
                have hBw104_w5 := below_step hBw103_w5 hb
                have hBw104_w14 := below_step hBw103_w14 hb
                have hBw104_w86 := below_step hBw103_w86 hb
                have hBw104_w103 := below_step hBw103_w103 hb
                have hBw104_w104 := Below.refl w104.heap.size w104
                obtain rfl : vw104 = .bool t93_24 := he
                refine hS.next (v := .bool t93_24) (d := 19) rfl (by decide) (by rfl) ?_
                clear hS
                intro at105 hS
                refine wpList_nil ?_
                refine hK92 _ _ ?_
                clear hK92 K92
                refine wp_seq_k (fun K106 hK106 => ?_)
                refine reg_seq_tail 7 (N := 127) (bs := [(19, .bool t93_24), (18, .pointer (some ⟨g96, 0, none⟩)), (69, .bool t93_24), (68, .agg #[.int .i64 t93_1, .int .i64 t93_2, .int .i64 t93_3, .int .i64 t93_4, .int .u64 t93_5, .int .i64 t93_6, .int .i64 t93_7, .int .i64 t93_8, .int .i64 t93_9, .int .u64 t93_10, .int .i64 t93_11, .int .i64 t93_12, .int .i64 t93_13, .int .i64 t93_14, .int .i64 t93_15, .int .i64 t93_16, .int .i64 t93_17, .int .u64 t93_18, .int .i64 t93_19, .int .i64 t93_20, .int .i64 t93_21, .int .i64 t93_22, .int .i64 t93_23]), (17, .int .i64 t71), (16, .int .i64 t70), (15, .pointer (some ⟨g58, 0, none⟩)), (43, .bool false), (12, .pointer (some ⟨g23, 0, none⟩)), (11, .pointer (some ⟨g20, 0, none⟩)), (32, .bool ((a0_0 == a1_0) && (a0_1 == a1_1))), (10, .bool false)]) (I := fun x => Below w.heap.size w x ∧ Below w3.heap.size w3 x ∧ Below w5.heap.size w5 x ∧ Below w14.heap.size w14 x ∧ Below w86.heap.size w86 x ∧ Below w103.heap.size w103 x ∧ Below w104.heap.size w104 x) (ps := [IsV (.agg #[.int .i64 t47_1, .int .i64 t47_2, .int .i64 t47_3, .int .i64 t47_4, .int .u64 t47_5, .int .i64 t47_6, .int .i64 t47_7, .int .i64 t47_8, .int .i64 t47_9, .int .u64 t47_10, .int .i64 t47_11, .int .i64 t47_12, .int .i64 t47_13, .int .i64 t47_14, .int .i64 t47_15, .int .i64 t47_16, .int .i64 t47_17, .int .u64 t47_18, .int .i64 t47_19, .int .i64 t47_20, .int .i64 t47_21, .int .i64 t47_22, .int .i64 t47_23]), IsV (.agg #[.int .u64 8, .int .i64 1]), IsV (.tuple #[.agg #[.int .i64 t107_1, .int .i64 t107_2, .int .i64 t107_3, .int .i64 t107_4, .int .u64 t107_5, .int .i64 t107_6, .int .i64 t107_7, .int .i64 t107_8, .int .i64 t107_9, .int .u64 t107_10, .int .i64 t107_11, .int .i64 t107_12, .int .i64 t107_13, .int .i64 t107_14, .int .i64 t107_15, .int .i64 t107_16, .int .i64 t107_17, .int .u64 t107_18, .int .i64 t107_19, .int .i64 t107_20, .int .i64 t107_21, .int .i64 t107_22, .int .i64 t107_23], .bool t107_24]), IsV (.tuple #[.agg #[.int .i64 t107_1, .int .i64 t107_2, .int .i64 t107_3, .int .i64 t107_4, .int .u64 t107_5, .int .i64 t107_6, .int .i64 t107_7, .int .i64 t107_8, .int .i64 t107_9, .int .u64 t107_10, .int .i64 t107_11, .int .i64 t107_12, .int .i64 t107_13, .int .i64 t107_14, .int .i64 t107_15, .int .i64 t107_16, .int .i64 t107_17, .int .u64 t107_18, .int .i64 t107_19, .int .i64 t107_20, .int .i64 t107_21, .int .i64 t107_22, .int .i64 t107_23], .bool t107_24]), IsV (.agg #[.int .i64 t107_1, .int .i64 t107_2, .int .i64 t107_3, .int .i64 t107_4, .int .u64 t107_5, .int .i64 t107_6, .int .i64 t107_7, .int .i64 t107_8, .int .i64 t107_9, .int .u64 t107_10, .int .i64 t107_11, .int .i64 t107_12, .int .i64 t107_13, .int .i64 t107_14, .int .i64 t107_15, .int .i64 t107_16, .int .i64 t107_17, .int .u64 t107_18, .int .i64 t107_19, .int .i64 t107_20, .int .i64 t107_21, .int .i64 t107_22, .int .i64 t107_23]), IsV (.bool t107_24), IsB #[.int .i64 0, .int .i64 0, .int .i64 0, .int .i64 0, .int .u64 0, .int .i64 0, .int .i64 0, .int .i64 0, .int .i64 0, .int .u64 0, .int .i64 0, .int .i64 0, .int .i64 0, .int .i64 0, .int .i64 0, .int .i64 0, .int .i64 0, .int .u64 0, .int .i64 0, .int .i64 0, .int .i64 0, .int .i64 0, .int .i64 0] 34 w104.heap.size]) (by kernel_rfl) ?_ ?_ rfl hS ⟨hBw104_w, hBw104_w3, hBw104_w5, hBw104_w14, hBw104_w86, hBw104_w103, hBw104_w104⟩ ?_ ?_
                · exact fun x y hI hb => ⟨below_step hI.1 hb, below_step hI.2.1 hb, below_step hI.2.2.1 hb, below_step hI.2.2.2.1 hb, below_step hI.2.2.2.2.1 hb, below_step hI.2.2.2.2.2.1 hb, below_step hI.2.2.2.2.2.2 hb⟩
                · exact AllStay.cons (Stays.v _) (AllStay.cons (Stays.v _) (AllStay.cons (Stays.v _) (AllStay.cons (Stays.v _) (AllStay.cons (Stays.v _) (AllStay.cons (Stays.v _) (AllStay.cons (Stays.b _ _ _) (AllStay.nil)))))))
                · refine Steps.cons (fun a w hS hI hp => ok_on rfl (does_loadrow rfl (hS.get 6 rfl) (((hI.2.2.2.2.1).block g58 (blk_lt hn90)).trans hn90) Try.underlying34 rfl (by kernel_rfl) rfl)) ?_
                  refine Steps.cons (fun a w hS hI hp => ok_on rfl (does_val (x_build (vs := [(0, .int .u64 8), (1, .int .i64 1)]) rfl (by rw [Array.toList_map]; exact (show [(0, a.eval (.const (.int .u64 8))), (1, a.eval (.const (.int .i64 1)))] = _ from (li_cons (rfl) (li_cons (rfl) rfl)))) (by kernel_rfl)) rfl)) ?_
                  refine Steps.cons (fun a w hS hI hp => ok_on rfl (does_call (by kernel_rfl) (ar4 ((hp.get 0 (by rfl) rfl rfl)) ((hp.get 1 (by rfl) rfl rfl)) (rfl) (rfl)) ((delay_Answer.calls t47_1 t47_2 t47_3 t47_4 t47_5 t47_6 t47_7 t47_8 t47_9 t47_10 t47_11 t47_12 t47_13 t47_14 t47_15 t47_16 t47_17 t47_18 t47_19 t47_20 t47_21 t47_22 t47_23 8 1 4398046511104 0 t107_1 t107_2 t107_3 t107_4 t107_5 t107_6 t107_7 t107_8 t107_9 t107_10 t107_11 t107_12 t107_13 t107_14 t107_15 t107_16 t107_17 t107_18 t107_19 t107_20 t107_21 t107_22 t107_23 t107_24 _  At107).mono fun _ _ h => ⟨_, h.1, h.2, rfl⟩))) ?_
                  refine Steps.cons (fun a w hS hI hp => ok_on rfl (does_val (x_move rfl ((hp.get 2 (by rfl) rfl rfl))) rfl)) ?_
                  refine Steps.cons (fun a w hS hI hp => ok_on rfl (does_val (x_extract rfl ((hp.get 3 (by rfl) rfl rfl)) rfl) rfl)) ?_
                  refine Steps.cons (fun a w hS hI hp => ok_on rfl (does_val (x_extract rfl ((hp.get 3 (by rfl) rfl rfl)) rfl) rfl)) ?_
                  refine Steps.cons (fun a w hS hI hp => ok_on rfl (does_var (x_alloc rfl (by kernel_rfl)) (hI.2.2.2.2.2.2).size)) ?_
                  exact Steps.nil
                clear hS
                intro at108 w109 hS hI hp
                have hBw109_w := hI.1
                have hBw109_w3 := hI.2.1
                have hBw109_w5 := hI.2.2.1
                have hBw109_w14 := hI.2.2.2.1
                have hBw109_w86 := hI.2.2.2.2.1
                have hBw109_w103 := hI.2.2.2.2.2.1
                have hBw109_w104 := hI.2.2.2.2.2.2
                replace hS := ((((((((hS.nil).cons (hS.get 11 rfl)).cons (hS.get 10 rfl)).cons (hS.get 9 rfl)).cons (hS.get 8 rfl)).cons (hS.get 7 rfl)).cons (hS.get 5 rfl)).cons (hS.get 4 rfl)).cons (hS.get 1 rfl)
                have hv74 : sl _ 74 = .agg #[.int .i64 t107_1, .int .i64 t107_2, .int .i64 t107_3, .int .i64 t107_4, .int .u64 t107_5, .int .i64 t107_6, .int .i64 t107_7, .int .i64 t107_8, .int .i64 t107_9, .int .u64 t107_10, .int .i64 t107_11, .int .i64 t107_12, .int .i64 t107_13, .int .i64 t107_14, .int .i64 t107_15, .int .i64 t107_16, .int .i64 t107_17, .int .u64 t107_18, .int .i64 t107_19, .int .i64 t107_20, .int .i64 t107_21, .int .i64 t107_22, .int .i64 t107_23] := hp 4 (by decide)
                have hv75 : sl _ 75 = .bool t107_24 := hp 5 (by decide)
                obtain ⟨g110, hv20, hgeg110, hbxg110⟩ := (show IsB _ 34 _ (sl _ 20) _ from hp 6 (by decide))
                have hne111 : g110 ≠ g4 := Nat.ne_of_gt (Nat.lt_of_lt_of_le (blk_lt ((hBw104_w3.block g4 (blk_lt hbxg4)).trans hbxg4)) hgeg110)
                have hne112 : g110 ≠ g6 := Nat.ne_of_gt (Nat.lt_of_lt_of_le (blk_lt ((hBw104_w5.block g6 (blk_lt hbxg6)).trans hbxg6)) hgeg110)
                have hne113 : g110 ≠ g20 := Nat.ne_of_gt (Nat.lt_of_lt_of_le (blk_lt ((hBw104_w86.block g20 (blk_lt hn88)).trans hn88)) hgeg110)
                have hne114 : g110 ≠ g23 := Nat.ne_of_gt (Nat.lt_of_lt_of_le (blk_lt ((hBw104_w86.block g23 (blk_lt hbxw86)).trans hbxw86)) hgeg110)
                have hne115 : g110 ≠ g51 := Nat.ne_of_gt (Nat.lt_of_lt_of_le (blk_lt ((hBw104_w86.block g51 (blk_lt hn89)).trans hn89)) hgeg110)
                have hne116 : g110 ≠ g58 := Nat.ne_of_gt (Nat.lt_of_lt_of_le (blk_lt ((hBw104_w86.block g58 (blk_lt hn90)).trans hn90)) hgeg110)
                have hne117 : g110 ≠ g96 := Nat.ne_of_gt (Nat.lt_of_lt_of_le (blk_lt ((hBw104_w103.block g96 (blk_lt hbxw103)).trans hbxw103)) hgeg110)
                have hBw109_w109 := Below.refl w109.heap.size w109
                have hS := hS.cons hv74
                have hS := hS.cons hv75
                have hS := hS.cons hv20
                clear hp hI hv74 hv75 hv20
                show wpList _ _ _ [_, _] _ _
                refine list_step rfl (does_storeAll (g := g110) (cs := #[.int .i64 t107_1, .int .i64 t107_2, .int .i64 t107_3, .int .i64 t107_4, .int .u64 t107_5, .int .i64 t107_6, .int .i64 t107_7, .int .i64 t107_8, .int .i64 t107_9, .int .u64 t107_10, .int .i64 t107_11, .int .i64 t107_12, .int .i64 t107_13, .int .i64 t107_14, .int .i64 t107_15, .int .i64 t107_16, .int .i64 t107_17, .int .u64 t107_18, .int .i64 t107_19, .int .i64 t107_20, .int .i64 t107_21, .int .i64 t107_22, .int .i64 t107_23]) rfl (hS.get 0 rfl) (hS.get 2 rfl) ((hBw109_w109.block g110 (blk_lt hbxg110)).trans hbxg110) (by kernel_rfl) (by kernel_rfl) (by kernel_rfl)) ?_
                rintro vw118 w118 ⟨rfl, hbxw118, hT⟩
                have hBw118_w := hT.below hBw109_w (Nat.le_trans (hBw104_w).size hgeg110) (hBw109_w).size
                have hBw118_w3 := hT.below hBw109_w3 (Nat.le_trans (hBw104_w3).size hgeg110) (hBw109_w3).size
                have hBw118_w5 := hT.below hBw109_w5 (Nat.le_trans (hBw104_w5).size hgeg110) (hBw109_w5).size
                have hBw118_w14 := hT.below hBw109_w14 (Nat.le_trans (hBw104_w14).size hgeg110) (hBw109_w14).size
                have hBw118_w86 := hT.below hBw109_w86 (Nat.le_trans (hBw104_w86).size hgeg110) (hBw109_w86).size
                have hBw118_w103 := hT.below hBw109_w103 (Nat.le_trans (hBw104_w103).size hgeg110) (hBw109_w103).size
                have hBw118_w104 := hT.below hBw109_w104 hgeg110 (hBw109_w104).size
                have hBw118_w118 := Below.refl w118.heap.size w118
                clear hT
                refine list_step rfl (R := fun v w' => Below _ _ w' ∧ (IsV (.bool t107_24)) v w') (does_val (x_assign rfl (hS.get 1 rfl)) rfl) ?_
                rintro vw119 w119 ⟨hb, he⟩
                have hBw119_w := below_step hBw118_w hb
                have hBw119_w3 := below_step hBw118_w3 hb
                have hBw119_w5 := below_step hBw118_w5 hb
                have hBw119_w14 := below_step hBw118_w14 hb
                have hBw119_w86 := below_step hBw118_w86 hb
                have hBw119_w103 := below_step hBw118_w103 hb
                have hBw119_w104 := below_step hBw118_w104 hb
                have hBw119_w118 := below_step hBw118_w118 hb
                have hBw119_w119 := Below.refl w119.heap.size w119
                obtain rfl : vw119 = .bool t107_24 := he
                refine hS.next (v := .bool t107_24) (d := 21) rfl (by decide) (by rfl) ?_
                clear hS
                intro at120 hS
                refine wpList_nil ?_
                refine hK106 _ _ ?_
                clear hK106 K106
                refine wp_seq_k (fun K121 hK121 => ?_)
                refine reg_seq_tail 2 (N := 127) (bs := [(21, .bool t107_24), (20, .pointer (some ⟨g110, 0, none⟩)), (75, .bool t107_24), (74, .agg #[.int .i64 t107_1, .int .i64 t107_2, .int .i64 t107_3, .int .i64 t107_4, .int .u64 t107_5, .int .i64 t107_6, .int .i64 t107_7, .int .i64 t107_8, .int .i64 t107_9, .int .u64 t107_10, .int .i64 t107_11, .int .i64 t107_12, .int .i64 t107_13, .int .i64 t107_14, .int .i64 t107_15, .int .i64 t107_16, .int .i64 t107_17, .int .u64 t107_18, .int .i64 t107_19, .int .i64 t107_20, .int .i64 t107_21, .int .i64 t107_22, .int .i64 t107_23]), (18, .pointer (some ⟨g96, 0, none⟩)), (17, .int .i64 t71), (16, .int .i64 t70), (43, .bool false), (12, .pointer (some ⟨g23, 0, none⟩)), (11, .pointer (some ⟨g20, 0, none⟩)), (32, .bool ((a0_0 == a1_0) && (a0_1 == a1_1))), (10, .bool false)]) (I := fun x => Below w.heap.size w x ∧ Below w3.heap.size w3 x ∧ Below w5.heap.size w5 x ∧ Below w14.heap.size w14 x ∧ Below w86.heap.size w86 x ∧ Below w103.heap.size w103 x ∧ Below w104.heap.size w104 x ∧ Below w118.heap.size w118 x ∧ Below w119.heap.size w119 x) (ps := [IsV (.pointer (some ⟨g20, 0, none⟩)), IsV (.agg #[.int .i64 t107_1, .int .i64 t107_2, .int .i64 t107_3, .int .i64 t107_4, .int .u64 t107_5, .int .i64 t107_6, .int .i64 t107_7, .int .i64 t107_8, .int .i64 t107_9, .int .u64 t107_10, .int .i64 t107_11, .int .i64 t107_12, .int .i64 t107_13, .int .i64 t107_14, .int .i64 t107_15, .int .i64 t107_16, .int .i64 t107_17, .int .u64 t107_18, .int .i64 t107_19, .int .i64 t107_20, .int .i64 t107_21, .int .i64 t107_22, .int .i64 t107_23])]) (by kernel_rfl) ?_ ?_ rfl hS ⟨hBw119_w, hBw119_w3, hBw119_w5, hBw119_w14, hBw119_w86, hBw119_w103, hBw119_w104, hBw119_w118, hBw119_w119⟩ ?_ ?_
                · exact fun x y hI hb => ⟨below_step hI.1 hb, below_step hI.2.1 hb, below_step hI.2.2.1 hb, below_step hI.2.2.2.1 hb, below_step hI.2.2.2.2.1 hb, below_step hI.2.2.2.2.2.1 hb, below_step hI.2.2.2.2.2.2.1 hb, below_step hI.2.2.2.2.2.2.2.1 hb, below_step hI.2.2.2.2.2.2.2.2 hb⟩
                · exact AllStay.cons (Stays.v _) (AllStay.cons (Stays.v _) (AllStay.nil))
                · refine Steps.cons (fun a w hS hI hp => ok_on rfl (does_val (x_move rfl (hS.get 9 rfl)) rfl)) ?_
                  refine Steps.cons (fun a w hS hI hp => ok_on rfl (does_loadrow rfl (hS.get 1 rfl) (((hI.2.2.2.2.2.2.2.1).block g110 (blk_lt hbxw118)).trans hbxw118) Try.underlying34 rfl (by kernel_rfl) rfl)) ?_
                  exact Steps.nil
                clear hS
                intro at122 w123 hS hI hp
                have hBw123_w := hI.1
                have hBw123_w3 := hI.2.1
                have hBw123_w5 := hI.2.2.1
                have hBw123_w14 := hI.2.2.2.1
                have hBw123_w86 := hI.2.2.2.2.1
                have hBw123_w103 := hI.2.2.2.2.2.1
                have hBw123_w104 := hI.2.2.2.2.2.2.1
                have hBw123_w118 := hI.2.2.2.2.2.2.2.1
                have hBw123_w119 := hI.2.2.2.2.2.2.2.2
                replace hS := (((((((((hS.nil).cons (hS.get 11 rfl)).cons (hS.get 10 rfl)).cons (hS.get 9 rfl)).cons (hS.get 8 rfl)).cons (hS.get 7 rfl)).cons (hS.get 6 rfl)).cons (hS.get 5 rfl)).cons (hS.get 4 rfl)).cons (hS.get 1 rfl)
                have hv77 : sl _ 77 = .pointer (some ⟨g20, 0, none⟩) := hp 0 (by decide)
                have hv78 : sl _ 78 = .agg #[.int .i64 t107_1, .int .i64 t107_2, .int .i64 t107_3, .int .i64 t107_4, .int .u64 t107_5, .int .i64 t107_6, .int .i64 t107_7, .int .i64 t107_8, .int .i64 t107_9, .int .u64 t107_10, .int .i64 t107_11, .int .i64 t107_12, .int .i64 t107_13, .int .i64 t107_14, .int .i64 t107_15, .int .i64 t107_16, .int .i64 t107_17, .int .u64 t107_18, .int .i64 t107_19, .int .i64 t107_20, .int .i64 t107_21, .int .i64 t107_22, .int .i64 t107_23] := hp 1 (by decide)
                have hBw123_w123 := Below.refl w123.heap.size w123
                have hS := hS.cons hv77
                have hS := hS.cons hv78
                clear hp hI hv77 hv78
                show wpList _ _ _ [_, _, _, _, _, _] _ _
                refine list_step rfl (R := fun v w' => v = .tuple #[.int .i64 t125_1, .bool t125_2] ∧ w'.heap[g20]? = some (.cells #[.int .u64 t125_3, .int .i64 t125_4, .int .i64 t125_5, .int .i64 t125_6, .int .i64 t125_7, .bool t125_8, .bool t125_9] 54 (0, 0)) ∧ Tch g20 _ w') (does_call (by kernel_rfl) (ar2 (hS.get 1 rfl) (hS.get 0 rfl)) ((delay_Exchange_Response.calls g20 t78_2 t78_3 t78_4 t78_5 t78_6 t78_7 t78_8 t107_1 t107_2 t107_3 t107_4 t107_5 t107_6 t107_7 t107_8 t107_9 t107_10 t107_11 t107_12 t107_13 t107_14 t107_15 t107_16 t107_17 t107_18 t107_19 t107_20 t107_21 t107_22 t107_23 t125_1 t125_2 t125_3 t125_4 t125_5 t125_6 t125_7 t125_8 t125_9 _ ((hBw123_w86.block g20 (blk_lt hn88)).trans hn88) At125).mono fun _ _ h => ⟨_, h.1, rfl, h.2⟩)) ?_
                rintro vw124 w124 ⟨rfl, hbxw124, hT⟩
                have hn126 := hT.blk ((hBw123_w86.block g23 (blk_lt hbxw86)).trans hbxw86) hne26
                have hn127 := hT.blk ((hBw123_w86.block g51 (blk_lt hn89)).trans hn89) hne54
                have hn128 := hT.blk ((hBw123_w86.block g58 (blk_lt hn90)).trans hn90) hne61
                have hn129 := hT.blk ((hBw123_w103.block g96 (blk_lt hbxw103)).trans hbxw103) hne99
                have hn130 := hT.blk ((hBw123_w118.block g110 (blk_lt hbxw118)).trans hbxw118) hne113
                have hBw124_w := hT.below hBw123_w (Nat.le_trans (hBw14_w).size hgeg20) (hBw123_w).size
                have hBw124_w3 := hT.below hBw123_w3 (Nat.le_trans (hBw14_w3).size hgeg20) (hBw123_w3).size
                have hBw124_w5 := hT.below hBw123_w5 (Nat.le_trans (hBw14_w5).size hgeg20) (hBw123_w5).size
                have hBw124_w14 := hT.below hBw123_w14 hgeg20 (hBw123_w14).size
                have hBw124_w124 := Below.refl w124.heap.size w124
                clear hT
                refine hS.next (v := .tuple #[.int .i64 t125_1, .bool t125_2]) (d := 79) rfl (by decide) (by rfl) ?_
                clear hS
                intro at131 hS
                refine list_step rfl (R := fun v w' => Below _ _ w' ∧ (IsV (.tuple #[.int .i64 t125_1, .bool t125_2])) v w') (does_val (x_move rfl (hS.get 0 rfl)) rfl) ?_
                rintro vw132 w132 ⟨hb, he⟩
                have hBw132_w := below_step hBw124_w hb
                have hBw132_w3 := below_step hBw124_w3 hb
                have hBw132_w5 := below_step hBw124_w5 hb
                have hBw132_w14 := below_step hBw124_w14 hb
                have hBw132_w124 := below_step hBw124_w124 hb
                have hBw132_w132 := Below.refl w132.heap.size w132
                obtain rfl : vw132 = .tuple #[.int .i64 t125_1, .bool t125_2] := he
                refine hS.next (v := .tuple #[.int .i64 t125_1, .bool t125_2]) (d := 76) rfl (by decide) (by rfl) ?_
                clear hS
                intro at133 hS
                refine list_step rfl (R := fun v w' => Below _ _ w' ∧ (IsV (.int .i64 t125_1)) v w') (does_val (x_extract rfl (hS.get 0 rfl) rfl) rfl) ?_
                rintro vw134 w134 ⟨hb, he⟩
                have hBw134_w := below_step hBw132_w hb
                have hBw134_w3 := below_step hBw132_w3 hb
                have hBw134_w5 := below_step hBw132_w5 hb
                have hBw134_w14 := below_step hBw132_w14 hb
                have hBw134_w124 := below_step hBw132_w124 hb
                have hBw134_w132 := below_step hBw132_w132 hb
                have hBw134_w134 := Below.refl w134.heap.size w134
                obtain rfl : vw134 = .int .i64 t125_1 := he
                refine hS.next (v := .int .i64 t125_1) (d := 80) rfl (by decide) (by rfl) ?_
                clear hS
                intro at135 hS
                refine list_step rfl (R := fun v w' => Below _ _ w' ∧ (IsV (.bool t125_2)) v w') (does_val (x_extract rfl (hS.get 1 rfl) rfl) rfl) ?_
                rintro vw136 w136 ⟨hb, he⟩
                have hBw136_w := below_step hBw134_w hb
                have hBw136_w3 := below_step hBw134_w3 hb
                have hBw136_w5 := below_step hBw134_w5 hb
                have hBw136_w14 := below_step hBw134_w14 hb
                have hBw136_w124 := below_step hBw134_w124 hb
                have hBw136_w134 := below_step hBw134_w134 hb
                have hBw136_w136 := Below.refl w136.heap.size w136
                obtain rfl : vw136 = .bool t125_2 := he
                refine hS.next (v := .bool t125_2) (d := 81) rfl (by decide) (by rfl) ?_
                clear hS
                intro at137 hS
                refine list_step rfl (R := fun v w' => Below _ _ w' ∧ (IsV (.int .i64 t125_1)) v w') (does_val (x_assign rfl (hS.get 1 rfl)) rfl) ?_
                rintro vw138 w138 ⟨hb, he⟩
                have hBw138_w := below_step hBw136_w hb
                have hBw138_w3 := below_step hBw136_w3 hb
                have hBw138_w5 := below_step hBw136_w5 hb
                have hBw138_w14 := below_step hBw136_w14 hb
                have hBw138_w124 := below_step hBw136_w124 hb
                have hBw138_w136 := below_step hBw136_w136 hb
                have hBw138_w138 := Below.refl w138.heap.size w138
                obtain rfl : vw138 = .int .i64 t125_1 := he
                refine hS.next (v := .int .i64 t125_1) (d := 22) rfl (by decide) (by rfl) ?_
                clear hS
                intro at139 hS
                refine list_step rfl (R := fun v w' => Below _ _ w' ∧ (IsV (.bool t125_2)) v w') (does_val (x_assign rfl (hS.get 1 rfl)) rfl) ?_
                rintro vw140 w140 ⟨hb, he⟩
                have hBw140_w := below_step hBw138_w hb
                have hBw140_w3 := below_step hBw138_w3 hb
                have hBw140_w5 := below_step hBw138_w5 hb
                have hBw140_w14 := below_step hBw138_w14 hb
                have hBw140_w124 := below_step hBw138_w124 hb
                have hBw140_w138 := below_step hBw138_w138 hb
                have hBw140_w140 := Below.refl w140.heap.size w140
                obtain rfl : vw140 = .bool t125_2 := he
                refine hS.next (v := .bool t125_2) (d := 23) rfl (by decide) (by rfl) ?_
                clear hS
                intro at141 hS
                refine wpList_nil ?_
                refine hK121 _ _ ?_
                clear hK121 K121
                refine wp_seq_k (fun K142 hK142 => ?_)
                refine reg_seq_tail 2 (N := 127) (bs := [(23, .bool t125_2), (22, .int .i64 t125_1), (81, .bool t125_2), (80, .int .i64 t125_1), (76, .tuple #[.int .i64 t125_1, .bool t125_2]), (79, .tuple #[.int .i64 t125_1, .bool t125_2]), (78, .agg #[.int .i64 t107_1, .int .i64 t107_2, .int .i64 t107_3, .int .i64 t107_4, .int .u64 t107_5, .int .i64 t107_6, .int .i64 t107_7, .int .i64 t107_8, .int .i64 t107_9, .int .u64 t107_10, .int .i64 t107_11, .int .i64 t107_12, .int .i64 t107_13, .int .i64 t107_14, .int .i64 t107_15, .int .i64 t107_16, .int .i64 t107_17, .int .u64 t107_18, .int .i64 t107_19, .int .i64 t107_20, .int .i64 t107_21, .int .i64 t107_22, .int .i64 t107_23]), (77, .pointer (some ⟨g20, 0, none⟩)), (20, .pointer (some ⟨g110, 0, none⟩)), (18, .pointer (some ⟨g96, 0, none⟩)), (17, .int .i64 t71), (16, .int .i64 t70), (43, .bool false), (12, .pointer (some ⟨g23, 0, none⟩)), (11, .pointer (some ⟨g20, 0, none⟩)), (32, .bool ((a0_0 == a1_0) && (a0_1 == a1_1))), (10, .bool false)]) (I := fun x => Below w.heap.size w x ∧ Below w3.heap.size w3 x ∧ Below w5.heap.size w5 x ∧ Below w14.heap.size w14 x ∧ Below w124.heap.size w124 x ∧ Below w140.heap.size w140 x) (ps := [IsV (.pointer (some ⟨g23, 0, none⟩)), IsV (.agg #[.int .i64 t93_1, .int .i64 t93_2, .int .i64 t93_3, .int .i64 t93_4, .int .u64 t93_5, .int .i64 t93_6, .int .i64 t93_7, .int .i64 t93_8, .int .i64 t93_9, .int .u64 t93_10, .int .i64 t93_11, .int .i64 t93_12, .int .i64 t93_13, .int .i64 t93_14, .int .i64 t93_15, .int .i64 t93_16, .int .i64 t93_17, .int .u64 t93_18, .int .i64 t93_19, .int .i64 t93_20, .int .i64 t93_21, .int .i64 t93_22, .int .i64 t93_23])]) (by kernel_rfl) ?_ ?_ rfl hS ⟨hBw140_w, hBw140_w3, hBw140_w5, hBw140_w14, hBw140_w124, hBw140_w140⟩ ?_ ?_
                · exact fun x y hI hb => ⟨below_step hI.1 hb, below_step hI.2.1 hb, below_step hI.2.2.1 hb, below_step hI.2.2.2.1 hb, below_step hI.2.2.2.2.1 hb, below_step hI.2.2.2.2.2 hb⟩
                · exact AllStay.cons (Stays.v _) (AllStay.cons (Stays.v _) (AllStay.nil))
                · refine Steps.cons (fun a w hS hI hp => ok_on rfl (does_val (x_move rfl (hS.get 13 rfl)) rfl)) ?_
                  refine Steps.cons (fun a w hS hI hp => ok_on rfl (does_loadrow rfl (hS.get 9 rfl) (((hI.2.2.2.2.1).block g96 (blk_lt hn129)).trans hn129) Try.underlying34 rfl (by kernel_rfl) rfl)) ?_
                  exact Steps.nil
                clear hS
                intro at143 w144 hS hI hp
                have hBw144_w := hI.1
                have hBw144_w3 := hI.2.1
                have hBw144_w5 := hI.2.2.1
                have hBw144_w14 := hI.2.2.2.1
                have hBw144_w124 := hI.2.2.2.2.1
                have hBw144_w140 := hI.2.2.2.2.2
                replace hS := ((((((((((hS.nil).cons (hS.get 16 rfl)).cons (hS.get 15 rfl)).cons (hS.get 14 rfl)).cons (hS.get 13 rfl)).cons (hS.get 12 rfl)).cons (hS.get 11 rfl)).cons (hS.get 10 rfl)).cons (hS.get 9 rfl)).cons (hS.get 8 rfl)).cons (hS.get 0 rfl)
                have hv83 : sl _ 83 = .pointer (some ⟨g23, 0, none⟩) := hp 0 (by decide)
                have hv84 : sl _ 84 = .agg #[.int .i64 t93_1, .int .i64 t93_2, .int .i64 t93_3, .int .i64 t93_4, .int .u64 t93_5, .int .i64 t93_6, .int .i64 t93_7, .int .i64 t93_8, .int .i64 t93_9, .int .u64 t93_10, .int .i64 t93_11, .int .i64 t93_12, .int .i64 t93_13, .int .i64 t93_14, .int .i64 t93_15, .int .i64 t93_16, .int .i64 t93_17, .int .u64 t93_18, .int .i64 t93_19, .int .i64 t93_20, .int .i64 t93_21, .int .i64 t93_22, .int .i64 t93_23] := hp 1 (by decide)
                have hBw144_w144 := Below.refl w144.heap.size w144
                have hS := hS.cons hv83
                have hS := hS.cons hv84
                clear hp hI hv83 hv84
                show wpList _ _ _ [_, _, _, _, _, _] _ _
                refine list_step rfl (R := fun v w' => v = .tuple #[.int .i64 t146_1, .bool t146_2] ∧ w'.heap[g23]? = some (.cells #[.int .u64 t146_3, .int .i64 t146_4, .int .i64 t146_5, .int .i64 t146_6, .int .i64 t146_7, .bool t146_8, .bool t146_9] 54 (0, 0)) ∧ Tch g23 _ w') (does_call (by kernel_rfl) (ar2 (hS.get 1 rfl) (hS.get 0 rfl)) ((delay_Exchange_Response.calls g23 t87_2 t87_3 t87_4 t87_5 t87_6 t87_7 t87_8 t93_1 t93_2 t93_3 t93_4 t93_5 t93_6 t93_7 t93_8 t93_9 t93_10 t93_11 t93_12 t93_13 t93_14 t93_15 t93_16 t93_17 t93_18 t93_19 t93_20 t93_21 t93_22 t93_23 t146_1 t146_2 t146_3 t146_4 t146_5 t146_6 t146_7 t146_8 t146_9 _ ((hBw144_w124.block g23 (blk_lt hn126)).trans hn126) At146).mono fun _ _ h => ⟨_, h.1, rfl, h.2⟩)) ?_
                rintro vw145 w145 ⟨rfl, hbxw145, hT⟩
                have hn147 := hT.blk ((hBw144_w124.block g20 (blk_lt hbxw124)).trans hbxw124) (Ne.symm hne26)
                have hn148 := hT.blk ((hBw144_w124.block g51 (blk_lt hn127)).trans hn127) hne55
                have hn149 := hT.blk ((hBw144_w124.block g58 (blk_lt hn128)).trans hn128) hne62
                have hn150 := hT.blk ((hBw144_w124.block g96 (blk_lt hn129)).trans hn129) hne100
                have hn151 := hT.blk ((hBw144_w124.block g110 (blk_lt hn130)).trans hn130) hne114
                have hBw145_w := hT.below hBw144_w (Nat.le_trans (hBw14_w).size hgeg23) (hBw144_w).size
                have hBw145_w3 := hT.below hBw144_w3 (Nat.le_trans (hBw14_w3).size hgeg23) (hBw144_w3).size
                have hBw145_w5 := hT.below hBw144_w5 (Nat.le_trans (hBw14_w5).size hgeg23) (hBw144_w5).size
                have hBw145_w14 := hT.below hBw144_w14 hgeg23 (hBw144_w14).size
                have hBw145_w145 := Below.refl w145.heap.size w145
                clear hT
                refine hS.next (v := .tuple #[.int .i64 t146_1, .bool t146_2]) (d := 85) rfl (by decide) (by rfl) ?_
                clear hS
                intro at152 hS
                refine list_step rfl (R := fun v w' => Below _ _ w' ∧ (IsV (.tuple #[.int .i64 t146_1, .bool t146_2])) v w') (does_val (x_move rfl (hS.get 0 rfl)) rfl) ?_
                rintro vw153 w153 ⟨hb, he⟩
                have hBw153_w := below_step hBw145_w hb
                have hBw153_w3 := below_step hBw145_w3 hb
                have hBw153_w5 := below_step hBw145_w5 hb
                have hBw153_w14 := below_step hBw145_w14 hb
                have hBw153_w145 := below_step hBw145_w145 hb
                have hBw153_w153 := Below.refl w153.heap.size w153
                obtain rfl : vw153 = .tuple #[.int .i64 t146_1, .bool t146_2] := he
                refine hS.next (v := .tuple #[.int .i64 t146_1, .bool t146_2]) (d := 82) rfl (by decide) (by rfl) ?_
                clear hS
                intro at154 hS
                refine list_step rfl (R := fun v w' => Below _ _ w' ∧ (IsV (.int .i64 t146_1)) v w') (does_val (x_extract rfl (hS.get 0 rfl) rfl) rfl) ?_
                rintro vw155 w155 ⟨hb, he⟩
                have hBw155_w := below_step hBw153_w hb
                have hBw155_w3 := below_step hBw153_w3 hb
                have hBw155_w5 := below_step hBw153_w5 hb
                have hBw155_w14 := below_step hBw153_w14 hb
                have hBw155_w145 := below_step hBw153_w145 hb
                have hBw155_w153 := below_step hBw153_w153 hb
                have hBw155_w155 := Below.refl w155.heap.size w155
                obtain rfl : vw155 = .int .i64 t146_1 := he
                refine hS.next (v := .int .i64 t146_1) (d := 86) rfl (by decide) (by rfl) ?_
                clear hS
                intro at156 hS
                refine list_step rfl (R := fun v w' => Below _ _ w' ∧ (IsV (.bool t146_2)) v w') (does_val (x_extract rfl (hS.get 1 rfl) rfl) rfl) ?_
                rintro vw157 w157 ⟨hb, he⟩
                have hBw157_w := below_step hBw155_w hb
                have hBw157_w3 := below_step hBw155_w3 hb
                have hBw157_w5 := below_step hBw155_w5 hb
                have hBw157_w14 := below_step hBw155_w14 hb
                have hBw157_w145 := below_step hBw155_w145 hb
                have hBw157_w155 := below_step hBw155_w155 hb
                have hBw157_w157 := Below.refl w157.heap.size w157
                obtain rfl : vw157 = .bool t146_2 := he
                refine hS.next (v := .bool t146_2) (d := 87) rfl (by decide) (by rfl) ?_
                clear hS
                intro at158 hS
                refine list_step rfl (R := fun v w' => Below _ _ w' ∧ (IsV (.int .i64 t146_1)) v w') (does_val (x_assign rfl (hS.get 1 rfl)) rfl) ?_
                rintro vw159 w159 ⟨hb, he⟩
                have hBw159_w := below_step hBw157_w hb
                have hBw159_w3 := below_step hBw157_w3 hb
                have hBw159_w5 := below_step hBw157_w5 hb
                have hBw159_w14 := below_step hBw157_w14 hb
                have hBw159_w145 := below_step hBw157_w145 hb
                have hBw159_w157 := below_step hBw157_w157 hb
                have hBw159_w159 := Below.refl w159.heap.size w159
                obtain rfl : vw159 = .int .i64 t146_1 := he
                refine hS.next (v := .int .i64 t146_1) (d := 24) rfl (by decide) (by rfl) ?_
                clear hS
                intro at160 hS
                refine list_step rfl (R := fun v w' => Below _ _ w' ∧ (IsV (.bool t146_2)) v w') (does_val (x_assign rfl (hS.get 1 rfl)) rfl) ?_
                rintro vw161 w161 ⟨hb, he⟩
                have hBw161_w := below_step hBw159_w hb
                have hBw161_w3 := below_step hBw159_w3 hb
                have hBw161_w5 := below_step hBw159_w5 hb
                have hBw161_w14 := below_step hBw159_w14 hb
                have hBw161_w145 := below_step hBw159_w145 hb
                have hBw161_w159 := below_step hBw159_w159 hb
                have hBw161_w161 := Below.refl w161.heap.size w161
                obtain rfl : vw161 = .bool t146_2 := he
                refine hS.next (v := .bool t146_2) (d := 25) rfl (by decide) (by rfl) ?_
                clear hS
                intro at162 hS
                refine wpList_nil ?_
                refine hK142 _ _ ?_
                clear hK142 K142
                refine wp_seq_k (fun K163 hK163 => ?_)
                refine reg_seq_tail 2 (N := 127) (bs := [(25, .bool t146_2), (24, .int .i64 t146_1), (87, .bool t146_2), (86, .int .i64 t146_1), (82, .tuple #[.int .i64 t146_1, .bool t146_2]), (85, .tuple #[.int .i64 t146_1, .bool t146_2]), (84, .agg #[.int .i64 t93_1, .int .i64 t93_2, .int .i64 t93_3, .int .i64 t93_4, .int .u64 t93_5, .int .i64 t93_6, .int .i64 t93_7, .int .i64 t93_8, .int .i64 t93_9, .int .u64 t93_10, .int .i64 t93_11, .int .i64 t93_12, .int .i64 t93_13, .int .i64 t93_14, .int .i64 t93_15, .int .i64 t93_16, .int .i64 t93_17, .int .u64 t93_18, .int .i64 t93_19, .int .i64 t93_20, .int .i64 t93_21, .int .i64 t93_22, .int .i64 t93_23]), (83, .pointer (some ⟨g23, 0, none⟩)), (23, .bool t125_2), (20, .pointer (some ⟨g110, 0, none⟩)), (18, .pointer (some ⟨g96, 0, none⟩)), (17, .int .i64 t71), (16, .int .i64 t70), (43, .bool false), (12, .pointer (some ⟨g23, 0, none⟩)), (11, .pointer (some ⟨g20, 0, none⟩)), (32, .bool ((a0_0 == a1_0) && (a0_1 == a1_1))), (10, .bool false)]) (I := fun x => Below w.heap.size w x ∧ Below w3.heap.size w3 x ∧ Below w5.heap.size w5 x ∧ Below w14.heap.size w14 x ∧ Below w145.heap.size w145 x ∧ Below w161.heap.size w161 x) (ps := [IsV (.pointer (some ⟨g20, 0, none⟩)), IsV (.agg #[.int .i64 t93_1, .int .i64 t93_2, .int .i64 t93_3, .int .i64 t93_4, .int .u64 t93_5, .int .i64 t93_6, .int .i64 t93_7, .int .i64 t93_8, .int .i64 t93_9, .int .u64 t93_10, .int .i64 t93_11, .int .i64 t93_12, .int .i64 t93_13, .int .i64 t93_14, .int .i64 t93_15, .int .i64 t93_16, .int .i64 t93_17, .int .u64 t93_18, .int .i64 t93_19, .int .i64 t93_20, .int .i64 t93_21, .int .i64 t93_22, .int .i64 t93_23])]) (by kernel_rfl) ?_ ?_ rfl hS ⟨hBw161_w, hBw161_w3, hBw161_w5, hBw161_w14, hBw161_w145, hBw161_w161⟩ ?_ ?_
                · exact fun x y hI hb => ⟨below_step hI.1 hb, below_step hI.2.1 hb, below_step hI.2.2.1 hb, below_step hI.2.2.2.1 hb, below_step hI.2.2.2.2.1 hb, below_step hI.2.2.2.2.2 hb⟩
                · exact AllStay.cons (Stays.v _) (AllStay.cons (Stays.v _) (AllStay.nil))
                · refine Steps.cons (fun a w hS hI hp => ok_on rfl (does_val (x_move rfl (hS.get 15 rfl)) rfl)) ?_
                  refine Steps.cons (fun a w hS hI hp => ok_on rfl (does_loadrow rfl (hS.get 10 rfl) (((hI.2.2.2.2.1).block g96 (blk_lt hn150)).trans hn150) Try.underlying34 rfl (by kernel_rfl) rfl)) ?_
                  exact Steps.nil
                clear hS
                intro at164 w165 hS hI hp
                have hBw165_w := hI.1
                have hBw165_w3 := hI.2.1
                have hBw165_w5 := hI.2.2.1
                have hBw165_w14 := hI.2.2.2.1
                have hBw165_w145 := hI.2.2.2.2.1
                have hBw165_w161 := hI.2.2.2.2.2
                replace hS := (((((((((hS.nil).cons (hS.get 17 rfl)).cons (hS.get 16 rfl)).cons (hS.get 14 rfl)).cons (hS.get 13 rfl)).cons (hS.get 12 rfl)).cons (hS.get 11 rfl)).cons (hS.get 9 rfl)).cons (hS.get 8 rfl)).cons (hS.get 0 rfl)
                have hv89 : sl _ 89 = .pointer (some ⟨g20, 0, none⟩) := hp 0 (by decide)
                have hv90 : sl _ 90 = .agg #[.int .i64 t93_1, .int .i64 t93_2, .int .i64 t93_3, .int .i64 t93_4, .int .u64 t93_5, .int .i64 t93_6, .int .i64 t93_7, .int .i64 t93_8, .int .i64 t93_9, .int .u64 t93_10, .int .i64 t93_11, .int .i64 t93_12, .int .i64 t93_13, .int .i64 t93_14, .int .i64 t93_15, .int .i64 t93_16, .int .i64 t93_17, .int .u64 t93_18, .int .i64 t93_19, .int .i64 t93_20, .int .i64 t93_21, .int .i64 t93_22, .int .i64 t93_23] := hp 1 (by decide)
                have hBw165_w165 := Below.refl w165.heap.size w165
                have hS := hS.cons hv89
                have hS := hS.cons hv90
                clear hp hI hv89 hv90
                show wpList _ _ _ [_, _, _, _, _, _] _ _
                refine list_step rfl (R := fun v w' => v = .tuple #[.int .i64 t167_1, .bool t167_2] ∧ w'.heap[g20]? = some (.cells #[.int .u64 t167_3, .int .i64 t167_4, .int .i64 t167_5, .int .i64 t167_6, .int .i64 t167_7, .bool t167_8, .bool t167_9] 54 (0, 0)) ∧ Tch g20 _ w') (does_call (by kernel_rfl) (ar2 (hS.get 1 rfl) (hS.get 0 rfl)) ((delay_Exchange_Response.calls g20 t125_3 t125_4 t125_5 t125_6 t125_7 t125_8 t125_9 t93_1 t93_2 t93_3 t93_4 t93_5 t93_6 t93_7 t93_8 t93_9 t93_10 t93_11 t93_12 t93_13 t93_14 t93_15 t93_16 t93_17 t93_18 t93_19 t93_20 t93_21 t93_22 t93_23 t167_1 t167_2 t167_3 t167_4 t167_5 t167_6 t167_7 t167_8 t167_9 _ ((hBw165_w145.block g20 (blk_lt hn147)).trans hn147) At167).mono fun _ _ h => ⟨_, h.1, rfl, h.2⟩)) ?_
                rintro vw166 w166 ⟨rfl, hbxw166, hT⟩
                have hn168 := hT.blk ((hBw165_w145.block g23 (blk_lt hbxw145)).trans hbxw145) hne26
                have hn169 := hT.blk ((hBw165_w145.block g51 (blk_lt hn148)).trans hn148) hne54
                have hn170 := hT.blk ((hBw165_w145.block g58 (blk_lt hn149)).trans hn149) hne61
                have hn171 := hT.blk ((hBw165_w145.block g96 (blk_lt hn150)).trans hn150) hne99
                have hn172 := hT.blk ((hBw165_w145.block g110 (blk_lt hn151)).trans hn151) hne113
                have hBw166_w := hT.below hBw165_w (Nat.le_trans (hBw14_w).size hgeg20) (hBw165_w).size
                have hBw166_w3 := hT.below hBw165_w3 (Nat.le_trans (hBw14_w3).size hgeg20) (hBw165_w3).size
                have hBw166_w5 := hT.below hBw165_w5 (Nat.le_trans (hBw14_w5).size hgeg20) (hBw165_w5).size
                have hBw166_w14 := hT.below hBw165_w14 hgeg20 (hBw165_w14).size
                have hBw166_w166 := Below.refl w166.heap.size w166
                clear hT
                refine hS.next (v := .tuple #[.int .i64 t167_1, .bool t167_2]) (d := 91) rfl (by decide) (by rfl) ?_
                clear hS
                intro at173 hS
                refine list_step rfl (R := fun v w' => Below _ _ w' ∧ (IsV (.tuple #[.int .i64 t167_1, .bool t167_2])) v w') (does_val (x_move rfl (hS.get 0 rfl)) rfl) ?_
                rintro vw174 w174 ⟨hb, he⟩
                have hBw174_w := below_step hBw166_w hb
                have hBw174_w3 := below_step hBw166_w3 hb
                have hBw174_w5 := below_step hBw166_w5 hb
                have hBw174_w14 := below_step hBw166_w14 hb
                have hBw174_w166 := below_step hBw166_w166 hb
                have hBw174_w174 := Below.refl w174.heap.size w174
                obtain rfl : vw174 = .tuple #[.int .i64 t167_1, .bool t167_2] := he
                refine hS.next (v := .tuple #[.int .i64 t167_1, .bool t167_2]) (d := 88) rfl (by decide) (by rfl) ?_
                clear hS
                intro at175 hS
                refine list_step rfl (R := fun v w' => Below _ _ w' ∧ (IsV (.int .i64 t167_1)) v w') (does_val (x_extract rfl (hS.get 0 rfl) rfl) rfl) ?_
                rintro vw176 w176 ⟨hb, he⟩
                have hBw176_w := below_step hBw174_w hb
                have hBw176_w3 := below_step hBw174_w3 hb
                have hBw176_w5 := below_step hBw174_w5 hb
                have hBw176_w14 := below_step hBw174_w14 hb
                have hBw176_w166 := below_step hBw174_w166 hb
                have hBw176_w174 := below_step hBw174_w174 hb
                have hBw176_w176 := Below.refl w176.heap.size w176
                obtain rfl : vw176 = .int .i64 t167_1 := he
                refine hS.next (v := .int .i64 t167_1) (d := 92) rfl (by decide) (by rfl) ?_
                clear hS
                intro at177 hS
                refine list_step rfl (R := fun v w' => Below _ _ w' ∧ (IsV (.bool t167_2)) v w') (does_val (x_extract rfl (hS.get 1 rfl) rfl) rfl) ?_
                rintro vw178 w178 ⟨hb, he⟩
                have hBw178_w := below_step hBw176_w hb
                have hBw178_w3 := below_step hBw176_w3 hb
                have hBw178_w5 := below_step hBw176_w5 hb
                have hBw178_w14 := below_step hBw176_w14 hb
                have hBw178_w166 := below_step hBw176_w166 hb
                have hBw178_w176 := below_step hBw176_w176 hb
                have hBw178_w178 := Below.refl w178.heap.size w178
                obtain rfl : vw178 = .bool t167_2 := he
                refine hS.next (v := .bool t167_2) (d := 93) rfl (by decide) (by rfl) ?_
                clear hS
                intro at179 hS
                refine list_step rfl (R := fun v w' => Below _ _ w' ∧ (IsV (.int .i64 t167_1)) v w') (does_val (x_assign rfl (hS.get 1 rfl)) rfl) ?_
                rintro vw180 w180 ⟨hb, he⟩
                have hBw180_w := below_step hBw178_w hb
                have hBw180_w3 := below_step hBw178_w3 hb
                have hBw180_w5 := below_step hBw178_w5 hb
                have hBw180_w14 := below_step hBw178_w14 hb
                have hBw180_w166 := below_step hBw178_w166 hb
                have hBw180_w178 := below_step hBw178_w178 hb
                have hBw180_w180 := Below.refl w180.heap.size w180
                obtain rfl : vw180 = .int .i64 t167_1 := he
                refine hS.next (v := .int .i64 t167_1) (d := 26) rfl (by decide) (by rfl) ?_
                clear hS
                intro at181 hS
                refine list_step rfl (R := fun v w' => Below _ _ w' ∧ (IsV (.bool t167_2)) v w') (does_val (x_assign rfl (hS.get 1 rfl)) rfl) ?_
                rintro vw182 w182 ⟨hb, he⟩
                have hBw182_w := below_step hBw180_w hb
                have hBw182_w3 := below_step hBw180_w3 hb
                have hBw182_w5 := below_step hBw180_w5 hb
                have hBw182_w14 := below_step hBw180_w14 hb
                have hBw182_w166 := below_step hBw180_w166 hb
                have hBw182_w180 := below_step hBw180_w180 hb
                have hBw182_w182 := Below.refl w182.heap.size w182
                obtain rfl : vw182 = .bool t167_2 := he
                refine hS.next (v := .bool t167_2) (d := 27) rfl (by decide) (by rfl) ?_
                clear hS
                intro at183 hS
                refine wpList_nil ?_
                refine hK163 _ _ ?_
                clear hK163 K163
                refine wp_seq_k (fun K184 hK184 => ?_)
                refine reg_seq_tail 2 (N := 127) (bs := [(27, .bool t167_2), (26, .int .i64 t167_1), (93, .bool t167_2), (92, .int .i64 t167_1), (88, .tuple #[.int .i64 t167_1, .bool t167_2]), (91, .tuple #[.int .i64 t167_1, .bool t167_2]), (90, .agg #[.int .i64 t93_1, .int .i64 t93_2, .int .i64 t93_3, .int .i64 t93_4, .int .u64 t93_5, .int .i64 t93_6, .int .i64 t93_7, .int .i64 t93_8, .int .i64 t93_9, .int .u64 t93_10, .int .i64 t93_11, .int .i64 t93_12, .int .i64 t93_13, .int .i64 t93_14, .int .i64 t93_15, .int .i64 t93_16, .int .i64 t93_17, .int .u64 t93_18, .int .i64 t93_19, .int .i64 t93_20, .int .i64 t93_21, .int .i64 t93_22, .int .i64 t93_23]), (89, .pointer (some ⟨g20, 0, none⟩)), (25, .bool t146_2), (23, .bool t125_2), (20, .pointer (some ⟨g110, 0, none⟩)), (17, .int .i64 t71), (16, .int .i64 t70), (43, .bool false), (12, .pointer (some ⟨g23, 0, none⟩)), (32, .bool ((a0_0 == a1_0) && (a0_1 == a1_1))), (10, .bool false)]) (I := fun x => Below w.heap.size w x ∧ Below w3.heap.size w3 x ∧ Below w5.heap.size w5 x ∧ Below w14.heap.size w14 x ∧ Below w166.heap.size w166 x ∧ Below w182.heap.size w182 x) (ps := [IsV (.pointer (some ⟨g23, 0, none⟩)), IsV (.agg #[.int .i64 t107_1, .int .i64 t107_2, .int .i64 t107_3, .int .i64 t107_4, .int .u64 t107_5, .int .i64 t107_6, .int .i64 t107_7, .int .i64 t107_8, .int .i64 t107_9, .int .u64 t107_10, .int .i64 t107_11, .int .i64 t107_12, .int .i64 t107_13, .int .i64 t107_14, .int .i64 t107_15, .int .i64 t107_16, .int .i64 t107_17, .int .u64 t107_18, .int .i64 t107_19, .int .i64 t107_20, .int .i64 t107_21, .int .i64 t107_22, .int .i64 t107_23])]) (by kernel_rfl) ?_ ?_ rfl hS ⟨hBw182_w, hBw182_w3, hBw182_w5, hBw182_w14, hBw182_w166, hBw182_w182⟩ ?_ ?_
                · exact fun x y hI hb => ⟨below_step hI.1 hb, below_step hI.2.1 hb, below_step hI.2.2.1 hb, below_step hI.2.2.2.1 hb, below_step hI.2.2.2.2.1 hb, below_step hI.2.2.2.2.2 hb⟩
                · exact AllStay.cons (Stays.v _) (AllStay.cons (Stays.v _) (AllStay.nil))
                · refine Steps.cons (fun a w hS hI hp => ok_on rfl (does_val (x_move rfl (hS.get 14 rfl)) rfl)) ?_
                  refine Steps.cons (fun a w hS hI hp => ok_on rfl (does_loadrow rfl (hS.get 10 rfl) (((hI.2.2.2.2.1).block g110 (blk_lt hn172)).trans hn172) Try.underlying34 rfl (by kernel_rfl) rfl)) ?_
                  exact Steps.nil
                clear hS
                intro at185 w186 hS hI hp
                have hBw186_w := hI.1
                have hBw186_w3 := hI.2.1
                have hBw186_w5 := hI.2.2.1
                have hBw186_w14 := hI.2.2.2.1
                have hBw186_w166 := hI.2.2.2.2.1
                have hBw186_w182 := hI.2.2.2.2.2
                replace hS := (((((((((hS.nil).cons (hS.get 16 rfl)).cons (hS.get 15 rfl)).cons (hS.get 13 rfl)).cons (hS.get 12 rfl)).cons (hS.get 11 rfl)).cons (hS.get 9 rfl)).cons (hS.get 8 rfl)).cons (hS.get 1 rfl)).cons (hS.get 0 rfl)
                have hv95 : sl _ 95 = .pointer (some ⟨g23, 0, none⟩) := hp 0 (by decide)
                have hv96 : sl _ 96 = .agg #[.int .i64 t107_1, .int .i64 t107_2, .int .i64 t107_3, .int .i64 t107_4, .int .u64 t107_5, .int .i64 t107_6, .int .i64 t107_7, .int .i64 t107_8, .int .i64 t107_9, .int .u64 t107_10, .int .i64 t107_11, .int .i64 t107_12, .int .i64 t107_13, .int .i64 t107_14, .int .i64 t107_15, .int .i64 t107_16, .int .i64 t107_17, .int .u64 t107_18, .int .i64 t107_19, .int .i64 t107_20, .int .i64 t107_21, .int .i64 t107_22, .int .i64 t107_23] := hp 1 (by decide)
                have hBw186_w186 := Below.refl w186.heap.size w186
                have hS := hS.cons hv95
                have hS := hS.cons hv96
                clear hp hI hv95 hv96
                show wpList _ _ _ [_, _, _, _, _, _] _ _
                refine list_step rfl (R := fun v w' => v = .tuple #[.int .i64 t188_1, .bool t188_2] ∧ w'.heap[g23]? = some (.cells #[.int .u64 t188_3, .int .i64 t188_4, .int .i64 t188_5, .int .i64 t188_6, .int .i64 t188_7, .bool t188_8, .bool t188_9] 54 (0, 0)) ∧ Tch g23 _ w') (does_call (by kernel_rfl) (ar2 (hS.get 1 rfl) (hS.get 0 rfl)) ((delay_Exchange_Response.calls g23 t146_3 t146_4 t146_5 t146_6 t146_7 t146_8 t146_9 t107_1 t107_2 t107_3 t107_4 t107_5 t107_6 t107_7 t107_8 t107_9 t107_10 t107_11 t107_12 t107_13 t107_14 t107_15 t107_16 t107_17 t107_18 t107_19 t107_20 t107_21 t107_22 t107_23 t188_1 t188_2 t188_3 t188_4 t188_5 t188_6 t188_7 t188_8 t188_9 _ ((hBw186_w166.block g23 (blk_lt hn168)).trans hn168) At188).mono fun _ _ h => ⟨_, h.1, rfl, h.2⟩)) ?_
                rintro vw187 w187 ⟨rfl, hbxw187, hT⟩
                have hn189 := hT.blk ((hBw186_w166.block g20 (blk_lt hbxw166)).trans hbxw166) (Ne.symm hne26)
                have hn190 := hT.blk ((hBw186_w166.block g51 (blk_lt hn169)).trans hn169) hne55
                have hn191 := hT.blk ((hBw186_w166.block g58 (blk_lt hn170)).trans hn170) hne62
                have hn192 := hT.blk ((hBw186_w166.block g96 (blk_lt hn171)).trans hn171) hne100
                have hn193 := hT.blk ((hBw186_w166.block g110 (blk_lt hn172)).trans hn172) hne114
                have hBw187_w := hT.below hBw186_w (Nat.le_trans (hBw14_w).size hgeg23) (hBw186_w).size
                have hBw187_w3 := hT.below hBw186_w3 (Nat.le_trans (hBw14_w3).size hgeg23) (hBw186_w3).size
                have hBw187_w5 := hT.below hBw186_w5 (Nat.le_trans (hBw14_w5).size hgeg23) (hBw186_w5).size
                have hBw187_w14 := hT.below hBw186_w14 hgeg23 (hBw186_w14).size
                have hBw187_w187 := Below.refl w187.heap.size w187
                clear hT
                refine hS.next (v := .tuple #[.int .i64 t188_1, .bool t188_2]) (d := 97) rfl (by decide) (by rfl) ?_
                clear hS
                intro at194 hS
                refine list_step rfl (R := fun v w' => Below _ _ w' ∧ (IsV (.tuple #[.int .i64 t188_1, .bool t188_2])) v w') (does_val (x_move rfl (hS.get 0 rfl)) rfl) ?_
                rintro vw195 w195 ⟨hb, he⟩
                have hBw195_w := below_step hBw187_w hb
                have hBw195_w3 := below_step hBw187_w3 hb
                have hBw195_w5 := below_step hBw187_w5 hb
                have hBw195_w14 := below_step hBw187_w14 hb
                have hBw195_w187 := below_step hBw187_w187 hb
                have hBw195_w195 := Below.refl w195.heap.size w195
                obtain rfl : vw195 = .tuple #[.int .i64 t188_1, .bool t188_2] := he
                refine hS.next (v := .tuple #[.int .i64 t188_1, .bool t188_2]) (d := 94) rfl (by decide) (by rfl) ?_
                clear hS
                intro at196 hS
                refine list_step rfl (R := fun v w' => Below _ _ w' ∧ (IsV (.int .i64 t188_1)) v w') (does_val (x_extract rfl (hS.get 0 rfl) rfl) rfl) ?_
                rintro vw197 w197 ⟨hb, he⟩
                have hBw197_w := below_step hBw195_w hb
                have hBw197_w3 := below_step hBw195_w3 hb
                have hBw197_w5 := below_step hBw195_w5 hb
                have hBw197_w14 := below_step hBw195_w14 hb
                have hBw197_w187 := below_step hBw195_w187 hb
                have hBw197_w195 := below_step hBw195_w195 hb
                have hBw197_w197 := Below.refl w197.heap.size w197
                obtain rfl : vw197 = .int .i64 t188_1 := he
                refine hS.next (v := .int .i64 t188_1) (d := 98) rfl (by decide) (by rfl) ?_
                clear hS
                intro at198 hS
                refine list_step rfl (R := fun v w' => Below _ _ w' ∧ (IsV (.bool t188_2)) v w') (does_val (x_extract rfl (hS.get 1 rfl) rfl) rfl) ?_
                rintro vw199 w199 ⟨hb, he⟩
                have hBw199_w := below_step hBw197_w hb
                have hBw199_w3 := below_step hBw197_w3 hb
                have hBw199_w5 := below_step hBw197_w5 hb
                have hBw199_w14 := below_step hBw197_w14 hb
                have hBw199_w187 := below_step hBw197_w187 hb
                have hBw199_w197 := below_step hBw197_w197 hb
                have hBw199_w199 := Below.refl w199.heap.size w199
                obtain rfl : vw199 = .bool t188_2 := he
                refine hS.next (v := .bool t188_2) (d := 99) rfl (by decide) (by rfl) ?_
                clear hS
                intro at200 hS
                refine list_step rfl (R := fun v w' => Below _ _ w' ∧ (IsV (.int .i64 t188_1)) v w') (does_val (x_assign rfl (hS.get 1 rfl)) rfl) ?_
                rintro vw201 w201 ⟨hb, he⟩
                have hBw201_w := below_step hBw199_w hb
                have hBw201_w3 := below_step hBw199_w3 hb
                have hBw201_w5 := below_step hBw199_w5 hb
                have hBw201_w14 := below_step hBw199_w14 hb
                have hBw201_w187 := below_step hBw199_w187 hb
                have hBw201_w199 := below_step hBw199_w199 hb
                have hBw201_w201 := Below.refl w201.heap.size w201
                obtain rfl : vw201 = .int .i64 t188_1 := he
                refine hS.next (v := .int .i64 t188_1) (d := 28) rfl (by decide) (by rfl) ?_
                clear hS
                intro at202 hS
                refine list_step rfl (R := fun v w' => Below _ _ w' ∧ (IsV (.bool t188_2)) v w') (does_val (x_assign rfl (hS.get 1 rfl)) rfl) ?_
                rintro vw203 w203 ⟨hb, he⟩
                have hBw203_w := below_step hBw201_w hb
                have hBw203_w3 := below_step hBw201_w3 hb
                have hBw203_w5 := below_step hBw201_w5 hb
                have hBw203_w14 := below_step hBw201_w14 hb
                have hBw203_w187 := below_step hBw201_w187 hb
                have hBw203_w201 := below_step hBw201_w201 hb
                have hBw203_w203 := Below.refl w203.heap.size w203
                obtain rfl : vw203 = .bool t188_2 := he
                refine hS.next (v := .bool t188_2) (d := 29) rfl (by decide) (by rfl) ?_
                clear hS
                intro at204 hS
                refine wpList_nil ?_
                refine hK184 _ _ ?_
                clear hK184 K184
                refine wp_seq_k (fun K205 hK205 => ?_)
                replace hS := ((((((((((((((((hS.nil).cons (hS.get 15 rfl)).cons (hS.get 14 rfl)).cons (hS.get 13 rfl)).cons (hS.get 12 rfl)).cons (hS.get 11 rfl)).cons (hS.get 10 rfl)).cons (hS.get 9 rfl)).cons (hS.get 8 rfl)).cons (hS.get 7 rfl)).cons (hS.get 6 rfl)).cons (hS.get 5 rfl)).cons (hS.get 4 rfl)).cons (hS.get 3 rfl)).cons (hS.get 2 rfl)).cons (hS.get 1 rfl)).cons (hS.get 0 rfl)
                refine reg_seq (N := 127) (bs := [(29, .bool t188_2), (28, .int .i64 t188_1), (99, .bool t188_2), (98, .int .i64 t188_1), (94, .tuple #[.int .i64 t188_1, .bool t188_2]), (97, .tuple #[.int .i64 t188_1, .bool t188_2]), (96, .agg #[.int .i64 t107_1, .int .i64 t107_2, .int .i64 t107_3, .int .i64 t107_4, .int .u64 t107_5, .int .i64 t107_6, .int .i64 t107_7, .int .i64 t107_8, .int .i64 t107_9, .int .u64 t107_10, .int .i64 t107_11, .int .i64 t107_12, .int .i64 t107_13, .int .i64 t107_14, .int .i64 t107_15, .int .i64 t107_16, .int .i64 t107_17, .int .u64 t107_18, .int .i64 t107_19, .int .i64 t107_20, .int .i64 t107_21, .int .i64 t107_22, .int .i64 t107_23]), (95, .pointer (some ⟨g23, 0, none⟩)), (27, .bool t167_2), (26, .int .i64 t167_1), (25, .bool t146_2), (23, .bool t125_2), (17, .int .i64 t71), (16, .int .i64 t70), (43, .bool false), (32, .bool ((a0_0 == a1_0) && (a0_1 == a1_1)))]) (I := fun x => Below w.heap.size w x ∧ Below w3.heap.size w3 x ∧ Below w5.heap.size w5 x ∧ Below w14.heap.size w14 x ∧ Below w187.heap.size w187 x ∧ Below w203.heap.size w203 x) (ps := [IsV (.bool t125_2), IsV (.bool (!t125_2)), IsV (.bool (!t125_2)), IsV (.bool t146_2), IsV (.bool (!t146_2)), IsV (.bool (!t146_2)), IsV (.bool (!t146_2)), IsV (.bool t167_2), IsV (.bool t167_2), IsV (.bool t167_2), IsV (.bool t188_2), IsV (.bool t188_2), IsV (.bool t188_2), IsV (.int .i64 t167_1), IsV (.int .i64 t70), IsV (.int .i64 (wrap64 (2199023255552 - t70))), IsV (.bool (decide (t167_1 = (wrap64 (2199023255552 - t70))))), IsV (.bool (decide (t167_1 = (wrap64 (2199023255552 - t70))))), IsV (.bool (decide (t167_1 = (wrap64 (2199023255552 - t70))))), IsV (.int .i64 t188_1), IsV (.int .i64 t71), IsV (.int .i64 (wrap64 (4398046511104 - t71))), IsV (.bool (decide (t188_1 = (wrap64 (4398046511104 - t71))))), IsV (.bool (decide (t188_1 = (wrap64 (4398046511104 - t71))))), IsV (.bool (decide (t188_1 = (wrap64 (4398046511104 - t71))))), IsV (.bool t206), IsV (.bool t206), IsV (.bool t206)]) (by kernel_rfl) ?_ ?_ rfl hS ⟨hBw203_w, hBw203_w3, hBw203_w5, hBw203_w14, hBw203_w187, hBw203_w203⟩ ?_ ?_
                · exact fun x y hI hb => ⟨below_step hI.1 hb, below_step hI.2.1 hb, below_step hI.2.2.1 hb, below_step hI.2.2.2.1 hb, below_step hI.2.2.2.2.1 hb, below_step hI.2.2.2.2.2 hb⟩
                · exact AllStay.cons (Stays.v _) (AllStay.cons (Stays.v _) (AllStay.cons (Stays.v _) (AllStay.cons (Stays.v _) (AllStay.cons (Stays.v _) (AllStay.cons (Stays.v _) (AllStay.cons (Stays.v _) (AllStay.cons (Stays.v _) (AllStay.cons (Stays.v _) (AllStay.cons (Stays.v _) (AllStay.cons (Stays.v _) (AllStay.cons (Stays.v _) (AllStay.cons (Stays.v _) (AllStay.cons (Stays.v _) (AllStay.cons (Stays.v _) (AllStay.cons (Stays.v _) (AllStay.cons (Stays.v _) (AllStay.cons (Stays.v _) (AllStay.cons (Stays.v _) (AllStay.cons (Stays.v _) (AllStay.cons (Stays.v _) (AllStay.cons (Stays.v _) (AllStay.cons (Stays.v _) (AllStay.cons (Stays.v _) (AllStay.cons (Stays.v _) (AllStay.cons (Stays.v _) (AllStay.cons (Stays.v _) (AllStay.cons (Stays.v _) (AllStay.nil))))))))))))))))))))))))))))
                · refine Steps.cons (fun a w hS hI hp => ok_on rfl (does_val (x_move rfl (hS.get 11 rfl)) rfl)) ?_
                  refine Steps.cons (fun a w hS hI hp => ok_on rfl (does_val (x_not rfl ((hp.get 0 (by rfl) rfl rfl))) rfl)) ?_
                  refine Steps.cons (fun a w hS hI hp => ok_on rfl (does_val (x_move rfl ((hp.get 1 (by rfl) rfl rfl))) rfl)) ?_
                  refine Steps.cons (fun a w hS hI hp => ok_if (d := 102) rfl rfl (by rw [hS.size]; decide) (((hp.get 2 (by rfl) rfl rfl)).trans (bT (congrArg (!·) (Bool.eq_false_iff.2 c2)))) (does_val (x_move rfl (hS.get 10 rfl)) rfl)) ?_
                  refine Steps.cons (fun a w hS hI hp => ok_if (d := 102) rfl rfl (by rw [hS.size]; decide) (((hp.get 2 (by rfl) rfl rfl)).trans (bT (congrArg (!·) (Bool.eq_false_iff.2 c2)))) (does_val (x_not rfl ((hp.get 3 (by rfl) rfl rfl))) rfl)) ?_
                  refine Steps.cons (fun a w hS hI hp => ok_on rfl (does_val (x_pickT rfl (((hp.get 2 (by rfl) rfl rfl)).trans (bT (congrArg (!·) (Bool.eq_false_iff.2 c2)))) ((hp.get 4 (by rfl) rfl rfl))) rfl)) ?_
                  refine Steps.cons (fun a w hS hI hp => ok_on rfl (does_val (x_move rfl ((hp.get 5 (by rfl) rfl rfl))) rfl)) ?_
                  refine Steps.cons (fun a w hS hI hp => ok_if (d := 106) rfl rfl (by rw [hS.size]; decide) (((hp.get 6 (by rfl) rfl rfl)).trans (bT (congrArg (!·) (Bool.eq_false_iff.2 c3)))) (does_val (x_move rfl (hS.get 8 rfl)) rfl)) ?_
                  refine Steps.cons (fun a w hS hI hp => ok_on rfl (does_val (x_pickT rfl (((hp.get 6 (by rfl) rfl rfl)).trans (bT (congrArg (!·) (Bool.eq_false_iff.2 c3)))) ((hp.get 7 (by rfl) rfl rfl))) rfl)) ?_
                  refine Steps.cons (fun a w hS hI hp => ok_on rfl (does_val (x_move rfl ((hp.get 8 (by rfl) rfl rfl))) rfl)) ?_
                  refine Steps.cons (fun a w hS hI hp => ok_if (d := 109) rfl rfl (by rw [hS.size]; decide) (((hp.get 9 (by rfl) rfl rfl)).trans (bT c4)) (does_val (x_move rfl (hS.get 0 rfl)) rfl)) ?_
                  refine Steps.cons (fun a w hS hI hp => ok_on rfl (does_val (x_pickT rfl (((hp.get 9 (by rfl) rfl rfl)).trans (bT c4)) ((hp.get 10 (by rfl) rfl rfl))) rfl)) ?_
                  refine Steps.cons (fun a w hS hI hp => ok_on rfl (does_val (x_move rfl ((hp.get 11 (by rfl) rfl rfl))) rfl)) ?_
                  refine Steps.cons (fun a w hS hI hp => ok_if (d := 112) rfl rfl (by rw [hS.size]; decide) (((hp.get 12 (by rfl) rfl rfl)).trans (bT c5)) (does_val (x_move rfl (hS.get 9 rfl)) rfl)) ?_
                  refine Steps.cons (fun a w hS hI hp => ok_if (d := 112) rfl rfl (by rw [hS.size]; decide) (((hp.get 12 (by rfl) rfl rfl)).trans (bT c5)) (does_val (x_move rfl (hS.get 13 rfl)) rfl)) ?_
                  refine Steps.cons (fun a w hS hI hp => ok_if (d := 112) rfl rfl (by rw [hS.size]; decide) (((hp.get 12 (by rfl) rfl rfl)).trans (bT c5)) (does_val (x_bin rfl (rfl) ((hp.get 14 (by rfl) rfl rfl)) (b_sub _ _ _ _ _)) rfl)) ?_
                  refine Steps.cons (fun a w hS hI hp => ok_if (d := 112) rfl rfl (by rw [hS.size]; decide) (((hp.get 12 (by rfl) rfl rfl)).trans (bT c5)) (does_val (x_bin rfl ((hp.get 13 (by rfl) rfl rfl)) ((hp.get 15 (by rfl) rfl rfl)) (b_eql _ _ _ _ _ _)) rfl)) ?_
                  refine Steps.cons (fun a w hS hI hp => ok_on rfl (does_val (x_pickT rfl (((hp.get 12 (by rfl) rfl rfl)).trans (bT c5)) ((hp.get 16 (by rfl) rfl rfl))) rfl)) ?_
                  refine Steps.cons (fun a w hS hI hp => ok_on rfl (does_val (x_move rfl ((hp.get 17 (by rfl) rfl rfl))) rfl)) ?_
                  refine Steps.cons (fun a w hS hI hp => ok_if (d := 118) rfl rfl (by rw [hS.size]; decide) (((hp.get 18 (by rfl) rfl rfl)).trans (bT (decide_eq_true c6))) (does_val (x_move rfl (hS.get 1 rfl)) rfl)) ?_
                  refine Steps.cons (fun a w hS hI hp => ok_if (d := 118) rfl rfl (by rw [hS.size]; decide) (((hp.get 18 (by rfl) rfl rfl)).trans (bT (decide_eq_true c6))) (does_val (x_move rfl (hS.get 12 rfl)) rfl)) ?_
                  refine Steps.cons (fun a w hS hI hp => ok_if (d := 118) rfl rfl (by rw [hS.size]; decide) (((hp.get 18 (by rfl) rfl rfl)).trans (bT (decide_eq_true c6))) (does_val (x_bin rfl (rfl) ((hp.get 20 (by rfl) rfl rfl)) (b_sub _ _ _ _ _)) rfl)) ?_
                  refine Steps.cons (fun a w hS hI hp => ok_if (d := 118) rfl rfl (by rw [hS.size]; decide) (((hp.get 18 (by rfl) rfl rfl)).trans (bT (decide_eq_true c6))) (does_val (x_bin rfl ((hp.get 19 (by rfl) rfl rfl)) ((hp.get 21 (by rfl) rfl rfl)) (b_eql _ _ _ _ _ _)) rfl)) ?_
                  refine Steps.cons (fun a w hS hI hp => ok_on rfl (does_val (x_pickT rfl (((hp.get 18 (by rfl) rfl rfl)).trans (bT (decide_eq_true c6))) ((hp.get 22 (by rfl) rfl rfl))) rfl)) ?_
                  refine Steps.cons (fun a w hS hI hp => ok_on rfl (does_val (x_move rfl ((hp.get 23 (by rfl) rfl rfl))) rfl)) ?_
                  refine Steps.cons (fun a w hS hI hp => ok_if (d := 124) rfl rfl (by rw [hS.size]; decide) (((hp.get 24 (by rfl) rfl rfl)).trans (bT (decide_eq_true c7))) (does_call (by kernel_rfl) rfl ((carillonlaw17_awake.calls  t206 _  At206).mono fun _ _ h => ⟨_, h.1, h.2, rfl⟩))) ?_
                  refine Steps.cons (fun a w hS hI hp => ok_on rfl (does_val (x_pickT rfl (((hp.get 24 (by rfl) rfl rfl)).trans (bT (decide_eq_true c7))) ((hp.get 25 (by rfl) rfl rfl))) rfl)) ?_
                  refine Steps.cons (fun a w hS hI hp => ok_on rfl (does_val (x_assign rfl ((hp.get 26 (by rfl) rfl rfl))) rfl)) ?_
                  exact Steps.nil
                clear hS
                intro at207 w208 hS hI hp
                have hBw208_w := hI.1
                have hBw208_w3 := hI.2.1
                have hBw208_w5 := hI.2.2.1
                have hBw208_w14 := hI.2.2.2.1
                have hBw208_w187 := hI.2.2.2.2.1
                have hBw208_w203 := hI.2.2.2.2.2
                replace hS := ((hS.nil).cons (hS.get 15 rfl)).cons (hS.get 14 rfl)
                have hv10 : sl _ 10 = .bool t206 := hp 27 (by decide)
                have hBw208_w208 := Below.refl w208.heap.size w208
                have hS := hS.cons hv10
                clear hp hI hv10
                refine hK205 _ _ ?_
                clear hK205 K205
                refine wp_ret ?_
                (try simp only [Exit.then, Exit.inBlock])
                exact bodyPost_ret (v := .bool true) (by rw [results_tmp rfl]; exact congrArg (Result.ok · _) ((hS.get 0 rfl).trans (congrArg Value.bool hret))) hS.nodef ⟨rfl, hBw208_w⟩
              · rw [if_neg c7] at H
                exact absurd H (by simp)
            · rw [if_neg c6] at H
              exact absurd H (by simp)
          · rw [if_neg c5] at H
            exact absurd H (by simp)
        · rw [if_neg c4] at H
          exact absurd H (by simp)

/-- The one pure statement of carillonlaw17_DelayApart. -/
def carillonlaw17_DelayApart.Pure : Prop := ∀ (a0_0 : Int) (a0_1 : Int) (a1_0 : Int) (a1_1 : Int) (a2 : Int) (a3 : Int) (a4 : Int), (Lit.int .u64 a0_0).wf = true → (Lit.int .i64 a0_1).wf = true → (Lit.int .u64 a1_0).wf = true → (Lit.int .i64 a1_1).wf = true → (Lit.int .i64 a2).wf = true → (Lit.int .i64 a3).wf = true → (Lit.int .i64 a4).wf = true → carillonlaw17_DelayApart.f a0_0 a0_1 a1_0 a1_1 a2 a3 a4 = some true
theorem carillonlaw17_DelayApart.walk (P : carillonlaw17_DelayApart.Pure) (a0_0 : Int) (a0_1 : Int) (a1_0 : Int) (a1_1 : Int) (a2 : Int) (a3 : Int) (a4 : Int) (w : World) (w0_0 : (Lit.int .u64 a0_0).wf = true) (w0_1 : (Lit.int .i64 a0_1).wf = true) (w1_0 : (Lit.int .u64 a1_0).wf = true) (w1_1 : (Lit.int .i64 a1_1).wf = true) (w2 : (Lit.int .i64 a2).wf = true) (w3 : (Lit.int .i64 a3).wf = true) (w4 : (Lit.int .i64 a4).wf = true) :
    Calls Try.prog 7 #[.agg #[.int .u64 a0_0, .int .i64 a0_1], .agg #[.int .u64 a1_0, .int .i64 a1_1], .int .i64 a2, .int .i64 a3, .int .i64 a4] w fun e w' => e = .returned (.bool true) ∧ Below w.heap.size w w' := by
  have h := P a0_0 a0_1 a1_0 a1_1 a2 a3 a4 w0_0 w0_1 w1_0 w1_1 w2 w3 w4
  refine (carillonlaw17_DelayApart.calls a0_0 a0_1 a1_0 a1_1 a2 a3 a4 w  h).mono ?_
  rintro e w' ⟨rfl, hd⟩
  exact ⟨rfl, hd⟩

end Go.Proofs.Ytpfjpfbhgeoadaa.P
