/- Functions and loops of the given program as Lean functions, and that the code comes to what they say: written by this session's own program; Lean checks it. -/
import Derived.Test.YtpfjpfbhgeoadaaPx0
import Derived.Test.YtpfjpfbhgeoadaaPx1
import Derived.Test.YtpfjpfbhgeoadaaPx2
import Derived.Test.YtpfjpfbhgeoadaaPx3
import Derived.Test.YtpfjpfbhgeoadaaPx4
namespace Go.Proofs.Ytpfjpfbhgeoadaa.P
open Go.RowKit Go.Proofs.YtpfjpfbhgeoadaaW.PrintWords Go.Proofs.YtpfjpfbhgeoadaaW.PrintLast Go.Proofs.YtpfjpfbhgeoadaaW.PrintMore
attribute [local go_sem] max2_int min2_int max_two min_two max_three min_three max_four min_four   -- for this text's walks alone
set_option linter.unusedVariables false
set_option linter.unusedSimpArgs false

/-! ### carillonlaw17_DelayRound: function 4: by our own printer -/
def carillonlaw17_DelayRound.f (a0_0 : Int) (a0_1 : Int) (a1_0 : Int) (a1_1 : Int) (a2 : Int) (a3 : Int) (a4 : Int) (a5 : Int) (a6_0 : Int) (a6_1 : Int) : Option (Bool) := (delay_New.f a0_0 a0_1 3).bind fun t17 => ((carillonlaw00_Place.f a3 1125899906842624).bind fun t29 => ((carillonlaw00_Place.f a4 1125899906842624).bind fun t30 => ((delay_Exchange_Request.f t17.1 t17.2.1 t17.2.2.1 t17.2.2.2.1 t17.2.2.2.2.1 t17.2.2.2.2.2.1 t17.2.2.2.2.2.2 a2 1).bind fun t37 => ((carillonlaw00_Place.f a5 1099511627776).bind fun t48 => (if ((t37.2.2.2.2.1 == a0_0) && (t37.2.2.2.2.2.1 == a0_1)) = true then (if t37.2.1 = 3 then ((delay_Exchange_Sent.f t37.2.2.2.2.2.2.2.2.2.2.2.2.2.2.2.2.2.2.2.2.2.2.2.1 t37.2.2.2.2.2.2.2.2.2.2.2.2.2.2.2.2.2.2.2.2.2.2.2.2.1 t37.2.2.2.2.2.2.2.2.2.2.2.2.2.2.2.2.2.2.2.2.2.2.2.2.2.1 t37.2.2.2.2.2.2.2.2.2.2.2.2.2.2.2.2.2.2.2.2.2.2.2.2.2.2.1 t37.2.2.2.2.2.2.2.2.2.2.2.2.2.2.2.2.2.2.2.2.2.2.2.2.2.2.2.1 t37.2.2.2.2.2.2.2.2.2.2.2.2.2.2.2.2.2.2.2.2.2.2.2.2.2.2.2.2.1 t37.2.2.2.2.2.2.2.2.2.2.2.2.2.2.2.2.2.2.2.2.2.2.2.2.2.2.2.2.2 t37.2.2.2.2.2.2.1 t29).bind fun t57 => (if t57.1 = true then ((delay_Exchange_Sent.f t57.2.1 t57.2.2.1 t57.2.2.2.1 t57.2.2.2.2.1 t57.2.2.2.2.2.1 t57.2.2.2.2.2.2.1 t57.2.2.2.2.2.2.2 t37.2.2.2.2.2.2.1 t29).bind fun t75 => (if t75.1 = true then (some false) else ((delay_Answer.f t37.1 t37.2.1 t37.2.2.1 t48 t37.2.2.2.2.1 t37.2.2.2.2.2.1 t37.2.2.2.2.2.2.1 t37.2.2.2.2.2.2.2.1 t37.2.2.2.2.2.2.2.2.1 t37.2.2.2.2.2.2.2.2.2.1 t37.2.2.2.2.2.2.2.2.2.2.1 t37.2.2.2.2.2.2.2.2.2.2.2.1 t37.2.2.2.2.2.2.2.2.2.2.2.2.1 t37.2.2.2.2.2.2.2.2.2.2.2.2.2.1 t37.2.2.2.2.2.2.2.2.2.2.2.2.2.2.1 t37.2.2.2.2.2.2.2.2.2.2.2.2.2.2.2.1 t37.2.2.2.2.2.2.2.2.2.2.2.2.2.2.2.2.1 t37.2.2.2.2.2.2.2.2.2.2.2.2.2.2.2.2.2.1 t37.2.2.2.2.2.2.2.2.2.2.2.2.2.2.2.2.2.2.1 t37.2.2.2.2.2.2.2.2.2.2.2.2.2.2.2.2.2.2.2.1 t37.2.2.2.2.2.2.2.2.2.2.2.2.2.2.2.2.2.2.2.2.1 t37.2.2.2.2.2.2.2.2.2.2.2.2.2.2.2.2.2.2.2.2.2.1 t37.2.2.2.2.2.2.2.2.2.2.2.2.2.2.2.2.2.2.2.2.2.2.1 a1_0 a1_1 t30 0).bind fun t81 => (if t81.2.2.2.2.2.2.2.2.2.2.2.2.2.2.2.2.2.2.2.2.2.2.2 = true then (if ((t81.2.2.2.2.2.2.2.2.2.1 == a0_0) && (t81.2.2.2.2.2.2.2.2.2.2.1 == a0_1)) = true then (if ((t81.2.2.2.2.1 == a1_0) && (t81.2.2.2.2.2.1 == a1_1)) = true then (if t81.2.2.2.2.2.2.1 = t37.2.2.2.2.2.2.1 then (if t81.2.2.2.2.2.2.2.2.1 = t30 then (if ((a6_0 == a0_0) && (a6_1 == a0_1)) = true then ((delay_Exchange_Response.f t75.2.1 t75.2.2.1 t75.2.2.2.1 t75.2.2.2.2.1 t75.2.2.2.2.2.1 t75.2.2.2.2.2.2.1 t75.2.2.2.2.2.2.2 t81.1 t81.2.1 t81.2.2.1 t81.2.2.2.1 t81.2.2.2.2.1 t81.2.2.2.2.2.1 t81.2.2.2.2.2.2.1 t81.2.2.2.2.2.2.2.1 t81.2.2.2.2.2.2.2.2.1 t81.2.2.2.2.2.2.2.2.2.1 t81.2.2.2.2.2.2.2.2.2.2.1 t81.2.2.2.2.2.2.2.2.2.2.2.1 t81.2.2.2.2.2.2.2.2.2.2.2.2.1 t81.2.2.2.2.2.2.2.2.2.2.2.2.2.1 t81.2.2.2.2.2.2.2.2.2.2.2.2.2.2.1 t81.2.2.2.2.2.2.2.2.2.2.2.2.2.2.2.1 t81.2.2.2.2.2.2.2.2.2.2.2.2.2.2.2.2.1 t81.2.2.2.2.2.2.2.2.2.2.2.2.2.2.2.2.2.1 t81.2.2.2.2.2.2.2.2.2.2.2.2.2.2.2.2.2.2.1 t81.2.2.2.2.2.2.2.2.2.2.2.2.2.2.2.2.2.2.2.1 t81.2.2.2.2.2.2.2.2.2.2.2.2.2.2.2.2.2.2.2.2.1 t81.2.2.2.2.2.2.2.2.2.2.2.2.2.2.2.2.2.2.2.2.2.1 t81.2.2.2.2.2.2.2.2.2.2.2.2.2.2.2.2.2.2.2.2.2.2.1).bind fun t120 => ((delay_Exchange_Response.f t120.2.2.1 t120.2.2.2.1 t120.2.2.2.2.1 t120.2.2.2.2.2.1 t120.2.2.2.2.2.2.1 t120.2.2.2.2.2.2.2.1 t120.2.2.2.2.2.2.2.2 t81.1 t81.2.1 t81.2.2.1 t81.2.2.2.1 t81.2.2.2.2.1 t81.2.2.2.2.2.1 t81.2.2.2.2.2.2.1 t81.2.2.2.2.2.2.2.1 t81.2.2.2.2.2.2.2.2.1 t81.2.2.2.2.2.2.2.2.2.1 t81.2.2.2.2.2.2.2.2.2.2.1 t81.2.2.2.2.2.2.2.2.2.2.2.1 t81.2.2.2.2.2.2.2.2.2.2.2.2.1 t81.2.2.2.2.2.2.2.2.2.2.2.2.2.1 t81.2.2.2.2.2.2.2.2.2.2.2.2.2.2.1 t81.2.2.2.2.2.2.2.2.2.2.2.2.2.2.2.1 t81.2.2.2.2.2.2.2.2.2.2.2.2.2.2.2.2.1 t81.2.2.2.2.2.2.2.2.2.2.2.2.2.2.2.2.2.1 t81.2.2.2.2.2.2.2.2.2.2.2.2.2.2.2.2.2.2.1 t81.2.2.2.2.2.2.2.2.2.2.2.2.2.2.2.2.2.2.2.1 t81.2.2.2.2.2.2.2.2.2.2.2.2.2.2.2.2.2.2.2.2.1 t81.2.2.2.2.2.2.2.2.2.2.2.2.2.2.2.2.2.2.2.2.2.1 t81.2.2.2.2.2.2.2.2.2.2.2.2.2.2.2.2.2.2.2.2.2.2.1).bind fun t139 => (if t120.2.1 = true then (if t139.2.1 = true then (some false) else (if t120.1 = (wrap64 ((wrap64 (t30 - t29)) - (wrap64 (Int.tdiv t48 65536)))) then ((carillonlaw17_awake.f ).bind fun t155 => (some t155)) else (some false))) else (some false)))) else ((delay_Exchange_Response.f t75.2.1 t75.2.2.1 t75.2.2.2.1 t75.2.2.2.2.1 t75.2.2.2.2.2.1 t75.2.2.2.2.2.2.1 t75.2.2.2.2.2.2.2 t81.1 t81.2.1 t81.2.2.1 t81.2.2.2.1 t81.2.2.2.2.1 t81.2.2.2.2.2.1 t81.2.2.2.2.2.2.1 t81.2.2.2.2.2.2.2.1 t81.2.2.2.2.2.2.2.2.1 a6_0 a6_1 t81.2.2.2.2.2.2.2.2.2.2.2.1 t81.2.2.2.2.2.2.2.2.2.2.2.2.1 t81.2.2.2.2.2.2.2.2.2.2.2.2.2.1 t81.2.2.2.2.2.2.2.2.2.2.2.2.2.2.1 t81.2.2.2.2.2.2.2.2.2.2.2.2.2.2.2.1 t81.2.2.2.2.2.2.2.2.2.2.2.2.2.2.2.2.1 t81.2.2.2.2.2.2.2.2.2.2.2.2.2.2.2.2.2.1 t81.2.2.2.2.2.2.2.2.2.2.2.2.2.2.2.2.2.2.1 t81.2.2.2.2.2.2.2.2.2.2.2.2.2.2.2.2.2.2.2.1 t81.2.2.2.2.2.2.2.2.2.2.2.2.2.2.2.2.2.2.2.2.1 t81.2.2.2.2.2.2.2.2.2.2.2.2.2.2.2.2.2.2.2.2.2.1 t81.2.2.2.2.2.2.2.2.2.2.2.2.2.2.2.2.2.2.2.2.2.2.1).bind fun t120 => (if t120.2.1 = true then (some false) else ((delay_Exchange_Response.f t120.2.2.1 t120.2.2.2.1 t120.2.2.2.2.1 t120.2.2.2.2.2.1 t120.2.2.2.2.2.2.1 t120.2.2.2.2.2.2.2.1 t120.2.2.2.2.2.2.2.2 t81.1 t81.2.1 t81.2.2.1 t81.2.2.2.1 t81.2.2.2.2.1 t81.2.2.2.2.2.1 t81.2.2.2.2.2.2.1 t81.2.2.2.2.2.2.2.1 t81.2.2.2.2.2.2.2.2.1 t81.2.2.2.2.2.2.2.2.2.1 t81.2.2.2.2.2.2.2.2.2.2.1 t81.2.2.2.2.2.2.2.2.2.2.2.1 t81.2.2.2.2.2.2.2.2.2.2.2.2.1 t81.2.2.2.2.2.2.2.2.2.2.2.2.2.1 t81.2.2.2.2.2.2.2.2.2.2.2.2.2.2.1 t81.2.2.2.2.2.2.2.2.2.2.2.2.2.2.2.1 t81.2.2.2.2.2.2.2.2.2.2.2.2.2.2.2.2.1 t81.2.2.2.2.2.2.2.2.2.2.2.2.2.2.2.2.2.1 t81.2.2.2.2.2.2.2.2.2.2.2.2.2.2.2.2.2.2.1 t81.2.2.2.2.2.2.2.2.2.2.2.2.2.2.2.2.2.2.2.1 t81.2.2.2.2.2.2.2.2.2.2.2.2.2.2.2.2.2.2.2.2.1 t81.2.2.2.2.2.2.2.2.2.2.2.2.2.2.2.2.2.2.2.2.2.1 t81.2.2.2.2.2.2.2.2.2.2.2.2.2.2.2.2.2.2.2.2.2.2.1).bind fun t142 => ((delay_Exchange_Response.f t142.2.2.1 t142.2.2.2.1 t142.2.2.2.2.1 t142.2.2.2.2.2.1 t142.2.2.2.2.2.2.1 t142.2.2.2.2.2.2.2.1 t142.2.2.2.2.2.2.2.2 t81.1 t81.2.1 t81.2.2.1 t81.2.2.2.1 t81.2.2.2.2.1 t81.2.2.2.2.2.1 t81.2.2.2.2.2.2.1 t81.2.2.2.2.2.2.2.1 t81.2.2.2.2.2.2.2.2.1 t81.2.2.2.2.2.2.2.2.2.1 t81.2.2.2.2.2.2.2.2.2.2.1 t81.2.2.2.2.2.2.2.2.2.2.2.1 t81.2.2.2.2.2.2.2.2.2.2.2.2.1 t81.2.2.2.2.2.2.2.2.2.2.2.2.2.1 t81.2.2.2.2.2.2.2.2.2.2.2.2.2.2.1 t81.2.2.2.2.2.2.2.2.2.2.2.2.2.2.2.1 t81.2.2.2.2.2.2.2.2.2.2.2.2.2.2.2.2.1 t81.2.2.2.2.2.2.2.2.2.2.2.2.2.2.2.2.2.1 t81.2.2.2.2.2.2.2.2.2.2.2.2.2.2.2.2.2.2.1 t81.2.2.2.2.2.2.2.2.2.2.2.2.2.2.2.2.2.2.2.1 t81.2.2.2.2.2.2.2.2.2.2.2.2.2.2.2.2.2.2.2.2.1 t81.2.2.2.2.2.2.2.2.2.2.2.2.2.2.2.2.2.2.2.2.2.1 t81.2.2.2.2.2.2.2.2.2.2.2.2.2.2.2.2.2.2.2.2.2.2.1).bind fun t161 => (if t142.2.1 = true then (if t161.2.1 = true then (some false) else (if t142.1 = (wrap64 ((wrap64 (t30 - t29)) - (wrap64 (Int.tdiv t48 65536)))) then ((carillonlaw17_awake.f ).bind fun t177 => (some t177)) else (some false))) else (some false))))))) else (some false)) else (some false)) else (some false)) else (some false)) else (some false))))) else (some false))) else (some false)) else (some false))))))
open Go.Proofs.Ytpfjpfbhgeoadaa.E in
set_option maxRecDepth 100000 in
theorem carillonlaw17_DelayRound.neq24 (x y : Operand) (w : World) (a0 : Int) (a1 : Int) (b0 : Int) (b1 : Int) : (do eqGuard .neq 24 x y (.agg #[.int .u64 a0, .int .i64 a1]) (.agg #[.int .u64 b0, .int .i64 b1]); binOp .neq 24 (.agg #[.int .u64 a0, .int .i64 a1]) (.agg #[.int .u64 b0, .int .i64 b1]) : Sem Value).run Try.prog w = .ok (.bool (!((a0 == b0) && (a1 == b1)))) w := by
  have hu3 := Try.underlying3
  have hu22 := Try.underlying22
  have hu24 := Try.underlying24
  conv => lhs; simp [eqGuard, go_sem, hu3, hu22, hu24]
  exact ite_nand (ite_nlast)
open Go.Proofs.Ytpfjpfbhgeoadaa.E in
set_option maxHeartbeats 8000000 in
set_option maxRecDepth 100000 in
theorem carillonlaw17_DelayRound.calls (a0_0 : Int) (a0_1 : Int) (a1_0 : Int) (a1_1 : Int) (a2 : Int) (a3 : Int) (a4 : Int) (a5 : Int) (a6_0 : Int) (a6_1 : Int) (w : World) (h : carillonlaw17_DelayRound.f a0_0 a0_1 a1_0 a1_1 a2 a3 a4 a5 a6_0 a6_1 = some true) :
    Calls Try.prog 4 #[.agg #[.int .u64 a0_0, .int .i64 a0_1], .agg #[.int .u64 a1_0, .int .i64 a1_1], .int .i64 a2, .int .i64 a3, .int .i64 a4, .int .i64 a5, .agg #[.int .u64 a6_0, .int .i64 a6_1]] w fun e w' => e = .returned (.bool true) ∧ Below w.heap.size w w' := by
  have H := h
  clear h
  unfold carillonlaw17_DelayRound.f at H
  obtain ⟨t17, At17, H⟩ := Option.bind_eq_some_iff.mp H
  obtain ⟨t17_1, t17_2, t17_3, t17_4, t17_5, t17_6, t17_7⟩ := t17
  (try dsimp only at H)
  obtain ⟨t29, At29, H⟩ := Option.bind_eq_some_iff.mp H
  obtain ⟨t30, At30, H⟩ := Option.bind_eq_some_iff.mp H
  obtain ⟨t37, At37, H⟩ := Option.bind_eq_some_iff.mp H
  obtain ⟨t37_1, t37_2, t37_3, t37_4, t37_5, t37_6, t37_7, t37_8, t37_9, t37_10, t37_11, t37_12, t37_13, t37_14, t37_15, t37_16, t37_17, t37_18, t37_19, t37_20, t37_21, t37_22, t37_23, t37_24, t37_25, t37_26, t37_27, t37_28, t37_29, t37_30⟩ := t37
  (try dsimp only at H)
  obtain ⟨t48, At48, H⟩ := Option.bind_eq_some_iff.mp H
  by_cases c1 : ((t37_5 == a0_0) && (t37_6 == a0_1)) = true
  · rw [if_pos c1] at H
    by_cases c2 : t37_2 = 3
    · rw [if_pos c2] at H
      obtain ⟨t57, At57, H⟩ := Option.bind_eq_some_iff.mp H
      obtain ⟨t57_1, t57_2, t57_3, t57_4, t57_5, t57_6, t57_7, t57_8⟩ := t57
      (try dsimp only at H)
      by_cases c3 : t57_1 = true
      · rw [if_pos c3] at H
        obtain ⟨t75, At75, H⟩ := Option.bind_eq_some_iff.mp H
        obtain ⟨t75_1, t75_2, t75_3, t75_4, t75_5, t75_6, t75_7, t75_8⟩ := t75
        (try dsimp only at H)
        by_cases c4 : t75_1 = true
        · rw [if_pos c4] at H
          exact absurd H (by simp)
        · rw [if_neg c4] at H
          obtain ⟨t81, At81, H⟩ := Option.bind_eq_some_iff.mp H
          obtain ⟨t81_1, t81_2, t81_3, t81_4, t81_5, t81_6, t81_7, t81_8, t81_9, t81_10, t81_11, t81_12, t81_13, t81_14, t81_15, t81_16, t81_17, t81_18, t81_19, t81_20, t81_21, t81_22, t81_23, t81_24⟩ := t81
          (try dsimp only at H)
          by_cases c5 : t81_24 = true
          · rw [if_pos c5] at H
            by_cases c6 : ((t81_10 == a0_0) && (t81_11 == a0_1)) = true
            · rw [if_pos c6] at H
              by_cases c7 : ((t81_5 == a1_0) && (t81_6 == a1_1)) = true
              · rw [if_pos c7] at H
                by_cases c8 : t81_7 = t37_7
                · rw [if_pos c8] at H
                  by_cases c9 : t81_9 = t30
                  · rw [if_pos c9] at H
                    by_cases c10 : ((a6_0 == a0_0) && (a6_1 == a0_1)) = true
                    · rw [if_pos c10] at H
                      obtain ⟨t120, At120, H⟩ := Option.bind_eq_some_iff.mp H
                      obtain ⟨t120_1, t120_2, t120_3, t120_4, t120_5, t120_6, t120_7, t120_8, t120_9⟩ := t120
                      (try dsimp only at H)
                      obtain ⟨t139, At139, H⟩ := Option.bind_eq_some_iff.mp H
                      obtain ⟨t139_1, t139_2, t139_3, t139_4, t139_5, t139_6, t139_7, t139_8, t139_9⟩ := t139
                      (try dsimp only at H)
                      by_cases c11 : t120_2 = true
                      · rw [if_pos c11] at H
                        by_cases c12 : t139_2 = true
                        · rw [if_pos c12] at H
                          exact absurd H (by simp)
                        · rw [if_neg c12] at H
                          by_cases c13 : t120_1 = (wrap64 ((wrap64 (t30 - t29)) - (wrap64 (Int.tdiv t48 65536))))
                          · rw [if_pos c13] at H
                            obtain ⟨t155, At155, H⟩ := Option.bind_eq_some_iff.mp H
                            have hret := Option.some.inj H
                            clear H
                            refine calls_of_wp (fn := Try.f4) (by kernel_rfl) rfl ?_
                            have hS := St.enter #[.agg #[.int .u64 a0_0, .int .i64 a0_1], .agg #[.int .u64 a1_0, .int .i64 a1_1], .int .i64 a2, .int .i64 a3, .int .i64 a4, .int .i64 a5, .agg #[.int .u64 a6_0, .int .i64 a6_1]] 144 (by simp) [(0, .agg #[.int .u64 a0_0, .int .i64 a0_1]), (1, .agg #[.int .u64 a1_0, .int .i64 a1_1]), (2, .int .i64 a2), (3, .int .i64 a3), (4, .int .i64 a4), (5, .int .i64 a5), (6, .agg #[.int .u64 a6_0, .int .i64 a6_1])] (by simp)
                            have HB0 := Below.refl w.heap.size w
                            refine wp_seq_k (fun K1 hK1 => ?_)
                            refine reg_seq_tail 1 (N := 144) (bs := [(0, .agg #[.int .u64 a0_0, .int .i64 a0_1]), (1, .agg #[.int .u64 a1_0, .int .i64 a1_1]), (2, .int .i64 a2), (3, .int .i64 a3), (4, .int .i64 a4), (5, .int .i64 a5), (6, .agg #[.int .u64 a6_0, .int .i64 a6_1])]) (I := fun x => Below w.heap.size w x) (ps := [IsB #[.int .u64 a0_0, .int .i64 a0_1] 24 w.heap.size]) (by kernel_rfl) ?_ ?_ rfl hS HB0 ?_ ?_
                            · exact fun x y hI hb => below_step hI hb
                            · exact AllStay.cons (Stays.b _ _ _) (AllStay.nil)
                            · refine Steps.cons (fun a w hS hI hp => ok_on rfl (does_var (x_box rfl (congrArg Value.cells (hS.get 0 rfl))) (hI).size)) ?_
                              exact Steps.nil
                            clear hS
                            intro at2 w3 hS hI hp
                            have hBw3_w := hI
                            replace hS := ((((((hS.nil).cons (hS.get 6 rfl)).cons (hS.get 5 rfl)).cons (hS.get 4 rfl)).cons (hS.get 3 rfl)).cons (hS.get 2 rfl)).cons (hS.get 1 rfl)
                            obtain ⟨g4, hv7, hgeg4, hbxg4⟩ := (show IsB _ 24 _ (sl _ 7) _ from hp 0 (by decide))
                            have hBw3_w3 := Below.refl w3.heap.size w3
                            have hS := hS.cons hv7
                            clear hp hI hv7
                            show wpList _ _ _ [_, _, _] _ _
                            refine list_step rfl (R := fun v w' => Below _ _ w' ∧ (IsB #[.int .u64 a1_0, .int .i64 a1_1] 24 w3.heap.size) v w') (does_var (x_box rfl (congrArg Value.cells (hS.get 1 rfl))) (hBw3_w3).size) ?_
                            rintro vw5 w5 ⟨hb, he⟩
                            have hBw5_w := below_step hBw3_w hb
                            have hBw5_w3 := below_step hBw3_w3 hb
                            have hBw5_w5 := Below.refl w5.heap.size w5
                            obtain ⟨g6, rfl, hgeg6, hbxg6⟩ := he
                            have hne7 : g6 ≠ g4 := Nat.ne_of_gt (Nat.lt_of_lt_of_le (blk_lt ((hBw3_w3.block g4 (blk_lt hbxg4)).trans hbxg4)) hgeg6)
                            refine hS.next (v := .pointer (some ⟨g6, 0, none⟩)) (d := 8) rfl (by decide) (by rfl) ?_
                            clear hS
                            intro at8 hS
                            refine list_step rfl (R := fun v w' => Below _ _ w' ∧ (IsB #[.int .u64 a6_0, .int .i64 a6_1] 24 w5.heap.size) v w') (does_var (x_box rfl (congrArg Value.cells (hS.get 7 rfl))) (hBw5_w5).size) ?_
                            rintro vw9 w9 ⟨hb, he⟩
                            have hBw9_w := below_step hBw5_w hb
                            have hBw9_w3 := below_step hBw5_w3 hb
                            have hBw9_w5 := below_step hBw5_w5 hb
                            have hBw9_w9 := Below.refl w9.heap.size w9
                            obtain ⟨g10, rfl, hgeg10, hbxg10⟩ := he
                            have hne11 : g10 ≠ g4 := Nat.ne_of_gt (Nat.lt_of_lt_of_le (blk_lt ((hBw5_w3.block g4 (blk_lt hbxg4)).trans hbxg4)) hgeg10)
                            have hne12 : g10 ≠ g6 := Nat.ne_of_gt (Nat.lt_of_lt_of_le (blk_lt ((hBw5_w5.block g6 (blk_lt hbxg6)).trans hbxg6)) hgeg10)
                            refine hS.next (v := .pointer (some ⟨g10, 0, none⟩)) (d := 13) rfl (by decide) (by rfl) ?_
                            clear hS
                            intro at13 hS
                            refine list_step rfl (R := fun v w' => Below _ _ w' ∧ (IsV (.bool false)) v w') (does_val (x_assign rfl (rfl)) rfl) ?_
                            rintro vw14 w14 ⟨hb, he⟩
                            have hBw14_w := below_step hBw9_w hb
                            have hBw14_w3 := below_step hBw9_w3 hb
                            have hBw14_w5 := below_step hBw9_w5 hb
                            have hBw14_w9 := below_step hBw9_w9 hb
                            have hBw14_w14 := Below.refl w14.heap.size w14
                            obtain rfl : vw14 = .bool false := he
                            refine hS.next (v := .bool false) (d := 14) rfl (by decide) (by rfl) ?_
                            clear hS
                            intro at15 hS
                            refine wpList_nil ?_
                            refine hK1 _ _ ?_
                            clear hK1 K1
                            refine wp_seq_k (fun K16 hK16 => ?_)
                            refine reg_seq (N := 144) (bs := [(14, .bool false), (13, .pointer (some ⟨g10, 0, none⟩)), (8, .pointer (some ⟨g6, 0, none⟩)), (7, .pointer (some ⟨g4, 0, none⟩)), (1, .agg #[.int .u64 a1_0, .int .i64 a1_1]), (2, .int .i64 a2), (3, .int .i64 a3), (4, .int .i64 a4), (5, .int .i64 a5), (6, .agg #[.int .u64 a6_0, .int .i64 a6_1])]) (I := fun x => Below w.heap.size w x ∧ Below w3.heap.size w3 x ∧ Below w5.heap.size w5 x ∧ Below w9.heap.size w9 x ∧ Below w14.heap.size w14 x) (ps := [IsV (.agg #[.int .u64 a0_0, .int .i64 a0_1]), IsB #[.int .u64 t17_1, .int .i64 t17_2, .int .i64 t17_3, .int .i64 t17_4, .int .i64 t17_5, .bool t17_6, .bool t17_7] 54 w14.heap.size, IsB #[.int .u64 t17_1, .int .i64 t17_2, .int .i64 t17_3, .int .i64 t17_4, .int .i64 t17_5, .bool t17_6, .bool t17_7] 54 w14.heap.size]) (by kernel_rfl) ?_ ?_ rfl hS ⟨hBw14_w, hBw14_w3, hBw14_w5, hBw14_w9, hBw14_w14⟩ ?_ ?_
                            · exact fun x y hI hb => ⟨below_step hI.1 hb, below_step hI.2.1 hb, below_step hI.2.2.1 hb, below_step hI.2.2.2.1 hb, below_step hI.2.2.2.2 hb⟩
                            · exact AllStay.cons (Stays.v _) (AllStay.cons (Stays.b _ _ _) (AllStay.cons (Stays.b _ _ _) (AllStay.nil)))
                            · refine Steps.cons (fun a w hS hI hp => ok_on rfl (does_loadrow rfl (hS.get 3 rfl) (((hI.2.1).block g4 (blk_lt hbxg4)).trans hbxg4) Try.underlying24 rfl (by kernel_rfl) rfl)) ?_
                              refine Steps.cons (fun a w hS hI hp => ok_on rfl (does_call (by kernel_rfl) (ar2 ((hp.get 0 (by rfl) rfl rfl)) (rfl)) ((delay_New.calls a0_0 a0_1 3 t17_1 t17_2 t17_3 t17_4 t17_5 t17_6 t17_7 _  At17).mono fun _ _ h => h.elim fun g_ h => ⟨_, h.1, h.2.2.2, g_, rfl, Nat.le_trans hI.2.2.2.2.size h.2.1, h.2.2.1⟩))) ?_
                              refine Steps.cons (fun a w hS hI hp => ok_on rfl (does_val (x_assign rfl rfl) ((hp.get 1 (by rfl) rfl rfl)))) ?_
                              exact Steps.nil
                            clear hS
                            intro at18 w19 hS hI hp
                            have hBw19_w := hI.1
                            have hBw19_w3 := hI.2.1
                            have hBw19_w5 := hI.2.2.1
                            have hBw19_w9 := hI.2.2.2.1
                            have hBw19_w14 := hI.2.2.2.2
                            replace hS := ((((((((hS.nil).cons (hS.get 8 rfl)).cons (hS.get 7 rfl)).cons (hS.get 6 rfl)).cons (hS.get 5 rfl)).cons (hS.get 3 rfl)).cons (hS.get 2 rfl)).cons (hS.get 1 rfl)).cons (hS.get 0 rfl)
                            obtain ⟨g20, hv15, hgeg20, hbxg20⟩ := (show IsB _ 54 _ (sl _ 15) _ from hp 2 (by decide))
                            have hne21 : g20 ≠ g4 := Nat.ne_of_gt (Nat.lt_of_lt_of_le (blk_lt ((hBw14_w3.block g4 (blk_lt hbxg4)).trans hbxg4)) hgeg20)
                            have hne22 : g20 ≠ g6 := Nat.ne_of_gt (Nat.lt_of_lt_of_le (blk_lt ((hBw14_w5.block g6 (blk_lt hbxg6)).trans hbxg6)) hgeg20)
                            have hne23 : g20 ≠ g10 := Nat.ne_of_gt (Nat.lt_of_lt_of_le (blk_lt ((hBw14_w9.block g10 (blk_lt hbxg10)).trans hbxg10)) hgeg20)
                            have hBw19_w19 := Below.refl w19.heap.size w19
                            have hS := hS.cons hv15
                            clear hp hI hv15
                            refine hK16 _ _ ?_
                            clear hK16 K16
                            refine wp_seq_k (fun K24 hK24 => ?_)
                            refine wp_seq_k (fun K25 hK25 => ?_)
                            refine reg_seq (N := 144) (bs := [(15, .pointer (some ⟨g20, 0, none⟩)), (14, .bool false), (13, .pointer (some ⟨g10, 0, none⟩)), (8, .pointer (some ⟨g6, 0, none⟩)), (7, .pointer (some ⟨g4, 0, none⟩)), (2, .int .i64 a2), (3, .int .i64 a3), (4, .int .i64 a4), (5, .int .i64 a5)]) (I := fun x => Below w.heap.size w x ∧ Below w3.heap.size w3 x ∧ Below w5.heap.size w5 x ∧ Below w9.heap.size w9 x ∧ Below w14.heap.size w14 x ∧ Below w19.heap.size w19 x) (ps := [IsV (.pointer (some ⟨g20, 0, none⟩)), IsV (.bool false)]) (by kernel_rfl) ?_ ?_ rfl hS ⟨hBw19_w, hBw19_w3, hBw19_w5, hBw19_w9, hBw19_w14, hBw19_w19⟩ ?_ ?_
                            · exact fun x y hI hb => ⟨below_step hI.1 hb, below_step hI.2.1 hb, below_step hI.2.2.1 hb, below_step hI.2.2.2.1 hb, below_step hI.2.2.2.2.1 hb, below_step hI.2.2.2.2.2 hb⟩
                            · exact AllStay.cons (Stays.v _) (AllStay.cons (Stays.v _) (AllStay.nil))
                            · refine Steps.cons (fun a w hS hI hp => ok_on rfl (does_val (x_move rfl (hS.get 0 rfl)) rfl)) ?_
                              refine Steps.cons (fun a w hS hI hp => ok_on rfl (does_val (x_bin rfl ((hp.get 0 (by rfl) rfl rfl)) (rfl) (b_eqp 26 54 _ _ _ Try.underlying26)) rfl)) ?_
                              exact Steps.nil
                            clear hS
                            intro at26 w27 hS hI hp
                            have hBw27_w := hI.1
                            have hBw27_w3 := hI.2.1
                            have hBw27_w5 := hI.2.2.1
                            have hBw27_w9 := hI.2.2.2.1
                            have hBw27_w14 := hI.2.2.2.2.1
                            have hBw27_w19 := hI.2.2.2.2.2
                            have hv31 : sl _ 31 = .bool false := hp 1 (by decide)
                            have hBw27_w27 := Below.refl w27.heap.size w27
                            have hS := hS.cons hv31
                            clear hp hI hv31
                            refine hK25 _ _ ?_
                            clear hK25 K25
                            refine wp_cond_false ((hS.get 0 rfl).trans (bF rfl)) ?_
                            refine wp_skip ?_
                            refine hK24 _ _ ?_
                            clear hK24 K24
                            refine wp_seq_k (fun K28 hK28 => ?_)
                            refine reg_seq (N := 144) (bs := [(31, .bool false), (15, .pointer (some ⟨g20, 0, none⟩)), (14, .bool false), (13, .pointer (some ⟨g10, 0, none⟩)), (8, .pointer (some ⟨g6, 0, none⟩)), (7, .pointer (some ⟨g4, 0, none⟩)), (2, .int .i64 a2), (3, .int .i64 a3), (4, .int .i64 a4), (5, .int .i64 a5)]) (I := fun x => Below w.heap.size w x ∧ Below w3.heap.size w3 x ∧ Below w5.heap.size w5 x ∧ Below w9.heap.size w9 x ∧ Below w14.heap.size w14 x ∧ Below w19.heap.size w19 x ∧ Below w27.heap.size w27 x) (ps := [IsV (.int .i64 a3), IsV (.int .i64 t29), IsV (.int .i64 a4), IsV (.int .i64 t30), IsV (.int .i64 t29), IsV (.int .i64 t30)]) (by kernel_rfl) ?_ ?_ rfl hS ⟨hBw27_w, hBw27_w3, hBw27_w5, hBw27_w9, hBw27_w14, hBw27_w19, hBw27_w27⟩ ?_ ?_
                            · exact fun x y hI hb => ⟨below_step hI.1 hb, below_step hI.2.1 hb, below_step hI.2.2.1 hb, below_step hI.2.2.2.1 hb, below_step hI.2.2.2.2.1 hb, below_step hI.2.2.2.2.2.1 hb, below_step hI.2.2.2.2.2.2 hb⟩
                            · exact AllStay.cons (Stays.v _) (AllStay.cons (Stays.v _) (AllStay.cons (Stays.v _) (AllStay.cons (Stays.v _) (AllStay.cons (Stays.v _) (AllStay.cons (Stays.v _) (AllStay.nil))))))
                            · refine Steps.cons (fun a w hS hI hp => ok_on rfl (does_val (x_move rfl (hS.get 7 rfl)) rfl)) ?_
                              refine Steps.cons (fun a w hS hI hp => ok_on rfl (does_call (by kernel_rfl) (ar2 ((hp.get 0 (by rfl) rfl rfl)) (rfl)) ((carillonlaw00_Place.calls a3 1125899906842624 t29 _  At29).mono fun _ _ h => ⟨_, h.1, h.2.below, rfl⟩))) ?_
                              refine Steps.cons (fun a w hS hI hp => ok_on rfl (does_val (x_move rfl (hS.get 8 rfl)) rfl)) ?_
                              refine Steps.cons (fun a w hS hI hp => ok_on rfl (does_call (by kernel_rfl) (ar2 ((hp.get 2 (by rfl) rfl rfl)) (rfl)) ((carillonlaw00_Place.calls a4 1125899906842624 t30 _  At30).mono fun _ _ h => ⟨_, h.1, h.2.below, rfl⟩))) ?_
                              refine Steps.cons (fun a w hS hI hp => ok_on rfl (does_val (x_assign rfl ((hp.get 1 (by rfl) rfl rfl))) rfl)) ?_
                              refine Steps.cons (fun a w hS hI hp => ok_on rfl (does_val (x_assign rfl ((hp.get 3 (by rfl) rfl rfl))) rfl)) ?_
                              exact Steps.nil
                            clear hS
                            intro at31 w32 hS hI hp
                            have hBw32_w := hI.1
                            have hBw32_w3 := hI.2.1
                            have hBw32_w5 := hI.2.2.1
                            have hBw32_w9 := hI.2.2.2.1
                            have hBw32_w14 := hI.2.2.2.2.1
                            have hBw32_w19 := hI.2.2.2.2.2.1
                            have hBw32_w27 := hI.2.2.2.2.2.2
                            replace hS := ((((((((hS.nil).cons (hS.get 9 rfl)).cons (hS.get 6 rfl)).cons (hS.get 5 rfl)).cons (hS.get 4 rfl)).cons (hS.get 3 rfl)).cons (hS.get 2 rfl)).cons (hS.get 1 rfl)).cons (hS.get 0 rfl)
                            have hv16 : sl _ 16 = .int .i64 t29 := hp 4 (by decide)
                            have hv17 : sl _ 17 = .int .i64 t30 := hp 5 (by decide)
                            have hBw32_w32 := Below.refl w32.heap.size w32
                            have hS := hS.cons hv16
                            have hS := hS.cons hv17
                            clear hp hI hv16 hv17
                            refine hK28 _ _ ?_
                            clear hK28 K28
                            refine wp_seq_k (fun K33 hK33 => ?_)
                            refine reg_seq_tail 2 (N := 144) (bs := [(17, .int .i64 t30), (16, .int .i64 t29), (31, .bool false), (15, .pointer (some ⟨g20, 0, none⟩)), (14, .bool false), (13, .pointer (some ⟨g10, 0, none⟩)), (8, .pointer (some ⟨g6, 0, none⟩)), (7, .pointer (some ⟨g4, 0, none⟩)), (2, .int .i64 a2), (5, .int .i64 a5)]) (I := fun x => Below w.heap.size w x ∧ Below w3.heap.size w3 x ∧ Below w5.heap.size w5 x ∧ Below w9.heap.size w9 x ∧ Below w14.heap.size w14 x ∧ Below w19.heap.size w19 x ∧ Below w32.heap.size w32 x) (ps := [IsV (.pointer (some ⟨g20, 0, none⟩)), IsV (.int .i64 a2)]) (by kernel_rfl) ?_ ?_ rfl hS ⟨hBw32_w, hBw32_w3, hBw32_w5, hBw32_w9, hBw32_w14, hBw32_w19, hBw32_w32⟩ ?_ ?_
                            · exact fun x y hI hb => ⟨below_step hI.1 hb, below_step hI.2.1 hb, below_step hI.2.2.1 hb, below_step hI.2.2.2.1 hb, below_step hI.2.2.2.2.1 hb, below_step hI.2.2.2.2.2.1 hb, below_step hI.2.2.2.2.2.2 hb⟩
                            · exact AllStay.cons (Stays.v _) (AllStay.cons (Stays.v _) (AllStay.nil))
                            · refine Steps.cons (fun a w hS hI hp => ok_on rfl (does_val (x_move rfl (hS.get 3 rfl)) rfl)) ?_
                              refine Steps.cons (fun a w hS hI hp => ok_on rfl (does_val (x_move rfl (hS.get 8 rfl)) rfl)) ?_
                              exact Steps.nil
                            clear hS
                            intro at34 w35 hS hI hp
                            have hBw35_w := hI.1
                            have hBw35_w3 := hI.2.1
                            have hBw35_w5 := hI.2.2.1
                            have hBw35_w9 := hI.2.2.2.1
                            have hBw35_w14 := hI.2.2.2.2.1
                            have hBw35_w19 := hI.2.2.2.2.2.1
                            have hBw35_w32 := hI.2.2.2.2.2.2
                            replace hS := (((((((((hS.nil).cons (hS.get 9 rfl)).cons (hS.get 7 rfl)).cons (hS.get 6 rfl)).cons (hS.get 5 rfl)).cons (hS.get 4 rfl)).cons (hS.get 3 rfl)).cons (hS.get 2 rfl)).cons (hS.get 1 rfl)).cons (hS.get 0 rfl)
                            have hv36 : sl _ 36 = .pointer (some ⟨g20, 0, none⟩) := hp 0 (by decide)
                            have hv37 : sl _ 37 = .int .i64 a2 := hp 1 (by decide)
                            have hBw35_w35 := Below.refl w35.heap.size w35
                            have hS := hS.cons hv36
                            have hS := hS.cons hv37
                            clear hp hI hv36 hv37
                            show wpList _ _ _ [_, _, _] _ _
                            refine list_step rfl (R := fun v w' => v = .agg #[.int .i64 t37_1, .int .i64 t37_2, .int .i64 t37_3, .int .i64 t37_4, .int .u64 t37_5, .int .i64 t37_6, .int .i64 t37_7, .int .i64 t37_8, .int .i64 t37_9, .int .u64 t37_10, .int .i64 t37_11, .int .i64 t37_12, .int .i64 t37_13, .int .i64 t37_14, .int .i64 t37_15, .int .i64 t37_16, .int .i64 t37_17, .int .u64 t37_18, .int .i64 t37_19, .int .i64 t37_20, .int .i64 t37_21, .int .i64 t37_22, .int .i64 t37_23] ∧ w'.heap[g20]? = some (.cells #[.int .u64 t37_24, .int .i64 t37_25, .int .i64 t37_26, .int .i64 t37_27, .int .i64 t37_28, .bool t37_29, .bool t37_30] 54 (0, 0)) ∧ Tch g20 _ w') (does_call (by kernel_rfl) (ar3 (hS.get 1 rfl) (hS.get 0 rfl) (rfl)) ((delay_Exchange_Request.calls g20 t17_1 t17_2 t17_3 t17_4 t17_5 t17_6 t17_7 a2 1 t37_1 t37_2 t37_3 t37_4 t37_5 t37_6 t37_7 t37_8 t37_9 t37_10 t37_11 t37_12 t37_13 t37_14 t37_15 t37_16 t37_17 t37_18 t37_19 t37_20 t37_21 t37_22 t37_23 t37_24 t37_25 t37_26 t37_27 t37_28 t37_29 t37_30 _ ((hBw35_w19.block g20 (blk_lt hbxg20)).trans hbxg20) At37).mono fun _ _ h => ⟨_, h.1, rfl, h.2⟩)) ?_
                            rintro vw36 w36 ⟨rfl, hbxw36, hT⟩
                            have hBw36_w := hT.below hBw35_w (Nat.le_trans (hBw14_w).size hgeg20) (hBw35_w).size
                            have hBw36_w3 := hT.below hBw35_w3 (Nat.le_trans (hBw14_w3).size hgeg20) (hBw35_w3).size
                            have hBw36_w5 := hT.below hBw35_w5 (Nat.le_trans (hBw14_w5).size hgeg20) (hBw35_w5).size
                            have hBw36_w9 := hT.below hBw35_w9 (Nat.le_trans (hBw14_w9).size hgeg20) (hBw35_w9).size
                            have hBw36_w14 := hT.below hBw35_w14 hgeg20 (hBw35_w14).size
                            have hBw36_w36 := Below.refl w36.heap.size w36
                            clear hT
                            refine hS.next (v := .agg #[.int .i64 t37_1, .int .i64 t37_2, .int .i64 t37_3, .int .i64 t37_4, .int .u64 t37_5, .int .i64 t37_6, .int .i64 t37_7, .int .i64 t37_8, .int .i64 t37_9, .int .u64 t37_10, .int .i64 t37_11, .int .i64 t37_12, .int .i64 t37_13, .int .i64 t37_14, .int .i64 t37_15, .int .i64 t37_16, .int .i64 t37_17, .int .u64 t37_18, .int .i64 t37_19, .int .i64 t37_20, .int .i64 t37_21, .int .i64 t37_22, .int .i64 t37_23]) (d := 38) rfl (by decide) (by rfl) ?_
                            clear hS
                            intro at38 hS
                            refine list_step rfl (R := fun v w' => Below _ _ w' ∧ (IsB #[.int .i64 0, .int .i64 0, .int .i64 0, .int .i64 0, .int .u64 0, .int .i64 0, .int .i64 0, .int .i64 0, .int .i64 0, .int .u64 0, .int .i64 0, .int .i64 0, .int .i64 0, .int .i64 0, .int .i64 0, .int .i64 0, .int .i64 0, .int .u64 0, .int .i64 0, .int .i64 0, .int .i64 0, .int .i64 0, .int .i64 0] 34 w36.heap.size) v w') (does_var (x_alloc rfl (by kernel_rfl)) (hBw36_w36).size) ?_
                            rintro vw39 w39 ⟨hb, he⟩
                            have hBw39_w := below_step hBw36_w hb
                            have hBw39_w3 := below_step hBw36_w3 hb
                            have hBw39_w5 := below_step hBw36_w5 hb
                            have hBw39_w9 := below_step hBw36_w9 hb
                            have hBw39_w14 := below_step hBw36_w14 hb
                            have hBw39_w36 := below_step hBw36_w36 hb
                            have hBw39_w39 := Below.refl w39.heap.size w39
                            obtain ⟨g40, rfl, hgeg40, hbxg40⟩ := he
                            have hne41 : g40 ≠ g4 := Nat.ne_of_gt (Nat.lt_of_lt_of_le (blk_lt ((hBw36_w3.block g4 (blk_lt hbxg4)).trans hbxg4)) hgeg40)
                            have hne42 : g40 ≠ g6 := Nat.ne_of_gt (Nat.lt_of_lt_of_le (blk_lt ((hBw36_w5.block g6 (blk_lt hbxg6)).trans hbxg6)) hgeg40)
                            have hne43 : g40 ≠ g10 := Nat.ne_of_gt (Nat.lt_of_lt_of_le (blk_lt ((hBw36_w9.block g10 (blk_lt hbxg10)).trans hbxg10)) hgeg40)
                            have hne44 : g40 ≠ g20 := Nat.ne_of_gt (Nat.lt_of_lt_of_le (blk_lt ((hBw36_w36.block g20 (blk_lt hbxw36)).trans hbxw36)) hgeg40)
                            refine hS.next (v := .pointer (some ⟨g40, 0, none⟩)) (d := 18) rfl (by decide) (by rfl) ?_
                            clear hS
                            intro at45 hS
                            refine list_step rfl (does_storeAll (g := g40) (cs := #[.int .i64 t37_1, .int .i64 t37_2, .int .i64 t37_3, .int .i64 t37_4, .int .u64 t37_5, .int .i64 t37_6, .int .i64 t37_7, .int .i64 t37_8, .int .i64 t37_9, .int .u64 t37_10, .int .i64 t37_11, .int .i64 t37_12, .int .i64 t37_13, .int .i64 t37_14, .int .i64 t37_15, .int .i64 t37_16, .int .i64 t37_17, .int .u64 t37_18, .int .i64 t37_19, .int .i64 t37_20, .int .i64 t37_21, .int .i64 t37_22, .int .i64 t37_23]) rfl (hS.get 0 rfl) (hS.get 1 rfl) ((hBw39_w39.block g40 (blk_lt hbxg40)).trans hbxg40) (by kernel_rfl) (by kernel_rfl) (by kernel_rfl)) ?_
                            rintro vw46 w46 ⟨rfl, hbxw46, hT⟩
                            have hBw46_w := hT.below hBw39_w (Nat.le_trans (hBw36_w).size hgeg40) (hBw39_w).size
                            have hBw46_w3 := hT.below hBw39_w3 (Nat.le_trans (hBw36_w3).size hgeg40) (hBw39_w3).size
                            have hBw46_w5 := hT.below hBw39_w5 (Nat.le_trans (hBw36_w5).size hgeg40) (hBw39_w5).size
                            have hBw46_w9 := hT.below hBw39_w9 (Nat.le_trans (hBw36_w9).size hgeg40) (hBw39_w9).size
                            have hBw46_w14 := hT.below hBw39_w14 (Nat.le_trans (hBw36_w14).size hgeg40) (hBw39_w14).size
                            have hBw46_w36 := hT.below hBw39_w36 hgeg40 (hBw39_w36).size
                            have hBw46_w46 := Below.refl w46.heap.size w46
                            clear hT
                            refine wpList_nil ?_
                            refine hK33 _ _ ?_
                            clear hK33 K33
                            refine wp_seq_k (fun K47 hK47 => ?_)
                            refine reg_seq_tail 3 (N := 144) (bs := [(18, .pointer (some ⟨g40, 0, none⟩)), (38, .agg #[.int .i64 t37_1, .int .i64 t37_2, .int .i64 t37_3, .int .i64 t37_4, .int .u64 t37_5, .int .i64 t37_6, .int .i64 t37_7, .int .i64 t37_8, .int .i64 t37_9, .int .u64 t37_10, .int .i64 t37_11, .int .i64 t37_12, .int .i64 t37_13, .int .i64 t37_14, .int .i64 t37_15, .int .i64 t37_16, .int .i64 t37_17, .int .u64 t37_18, .int .i64 t37_19, .int .i64 t37_20, .int .i64 t37_21, .int .i64 t37_22, .int .i64 t37_23]), (37, .int .i64 a2), (36, .pointer (some ⟨g20, 0, none⟩)), (17, .int .i64 t30), (16, .int .i64 t29), (31, .bool false), (15, .pointer (some ⟨g20, 0, none⟩)), (14, .bool false), (13, .pointer (some ⟨g10, 0, none⟩)), (8, .pointer (some ⟨g6, 0, none⟩)), (7, .pointer (some ⟨g4, 0, none⟩)), (5, .int .i64 a5)]) (I := fun x => Below w.heap.size w x ∧ Below w3.heap.size w3 x ∧ Below w5.heap.size w5 x ∧ Below w9.heap.size w9 x ∧ Below w14.heap.size w14 x ∧ Below w36.heap.size w36 x ∧ Below w46.heap.size w46 x) (ps := [IsV (.int .i64 a5), IsV (.int .i64 t48), IsV (.pointer (some ⟨g40, 3, none⟩))]) (by kernel_rfl) ?_ ?_ rfl hS ⟨hBw46_w, hBw46_w3, hBw46_w5, hBw46_w9, hBw46_w14, hBw46_w36, hBw46_w46⟩ ?_ ?_
                            · exact fun x y hI hb => ⟨below_step hI.1 hb, below_step hI.2.1 hb, below_step hI.2.2.1 hb, below_step hI.2.2.2.1 hb, below_step hI.2.2.2.2.1 hb, below_step hI.2.2.2.2.2.1 hb, below_step hI.2.2.2.2.2.2 hb⟩
                            · exact AllStay.cons (Stays.v _) (AllStay.cons (Stays.v _) (AllStay.cons (Stays.v _) (AllStay.nil)))
                            · refine Steps.cons (fun a w hS hI hp => ok_on rfl (does_val (x_move rfl (hS.get 12 rfl)) rfl)) ?_
                              refine Steps.cons (fun a w hS hI hp => ok_on rfl (does_call (by kernel_rfl) (ar2 ((hp.get 0 (by rfl) rfl rfl)) (rfl)) ((carillonlaw00_Place.calls a5 1099511627776 t48 _  At48).mono fun _ _ h => ⟨_, h.1, h.2.below, rfl⟩))) ?_
                              refine Steps.cons (fun a w hS hI hp => ok_on rfl (does_val (x_field rfl (hS.get 0 rfl) Try.underlying34 rfl (by kernel_rfl)) rfl)) ?_
                              exact Steps.nil
                            clear hS
                            intro at49 w50 hS hI hp
                            have hBw50_w := hI.1
                            have hBw50_w3 := hI.2.1
                            have hBw50_w5 := hI.2.2.1
                            have hBw50_w9 := hI.2.2.2.1
                            have hBw50_w14 := hI.2.2.2.2.1
                            have hBw50_w36 := hI.2.2.2.2.2.1
                            have hBw50_w46 := hI.2.2.2.2.2.2
                            replace hS := (((((((((hS.nil).cons (hS.get 11 rfl)).cons (hS.get 10 rfl)).cons (hS.get 9 rfl)).cons (hS.get 8 rfl)).cons (hS.get 7 rfl)).cons (hS.get 6 rfl)).cons (hS.get 5 rfl)).cons (hS.get 4 rfl)).cons (hS.get 0 rfl)
                            have hv40 : sl _ 40 = .int .i64 t48 := hp 1 (by decide)
                            have hv41 : sl _ 41 = .pointer (some ⟨g40, 3, none⟩) := hp 2 (by decide)
                            have hBw50_w50 := Below.refl w50.heap.size w50
                            have hS := hS.cons hv40
                            have hS := hS.cons hv41
                            clear hp hI hv40 hv41
                            show wpList _ _ _ [_] _ _
                            refine list_step rfl (does_store (g := g40) (off := 3) (v := .int .i64 t48) (new := #[.int .i64 t37_1, .int .i64 t37_2, .int .i64 t37_3, .int .i64 t48, .int .u64 t37_5, .int .i64 t37_6, .int .i64 t37_7, .int .i64 t37_8, .int .i64 t37_9, .int .u64 t37_10, .int .i64 t37_11, .int .i64 t37_12, .int .i64 t37_13, .int .i64 t37_14, .int .i64 t37_15, .int .i64 t37_16, .int .i64 t37_17, .int .u64 t37_18, .int .i64 t37_19, .int .i64 t37_20, .int .i64 t37_21, .int .i64 t37_22, .int .i64 t37_23]) rfl (hS.get 0 rfl) (hS.get 1 rfl) ((hBw50_w46.block g40 (blk_lt hbxw46)).trans hbxw46) (by kernel_rfl) (by kernel_rfl) (by kernel_rfl) (by kernel_rfl)) ?_
                            rintro vw51 w51 ⟨rfl, hbxw51, hT⟩
                            have hBw51_w := hT.below hBw50_w (Nat.le_trans (hBw36_w).size hgeg40) (hBw50_w).size
                            have hBw51_w3 := hT.below hBw50_w3 (Nat.le_trans (hBw36_w3).size hgeg40) (hBw50_w3).size
                            have hBw51_w5 := hT.below hBw50_w5 (Nat.le_trans (hBw36_w5).size hgeg40) (hBw50_w5).size
                            have hBw51_w9 := hT.below hBw50_w9 (Nat.le_trans (hBw36_w9).size hgeg40) (hBw50_w9).size
                            have hBw51_w14 := hT.below hBw50_w14 (Nat.le_trans (hBw36_w14).size hgeg40) (hBw50_w14).size
                            have hBw51_w36 := hT.below hBw50_w36 hgeg40 (hBw50_w36).size
                            have hBw51_w51 := Below.refl w51.heap.size w51
                            clear hT
                            refine wpList_nil ?_
                            refine hK47 _ _ ?_
                            clear hK47 K47
                            refine wp_seq_k (fun K52 hK52 => ?_)
                            refine wp_seq_k (fun K53 hK53 => ?_)
                            refine reg_seq_tail 14 (N := 144) (bs := [(41, .pointer (some ⟨g40, 3, none⟩)), (40, .int .i64 t48), (18, .pointer (some ⟨g40, 0, none⟩)), (17, .int .i64 t30), (16, .int .i64 t29), (31, .bool false), (15, .pointer (some ⟨g20, 0, none⟩)), (14, .bool false), (13, .pointer (some ⟨g10, 0, none⟩)), (8, .pointer (some ⟨g6, 0, none⟩)), (7, .pointer (some ⟨g4, 0, none⟩))]) (I := fun x => Below w.heap.size w x ∧ Below w3.heap.size w3 x ∧ Below w5.heap.size w5 x ∧ Below w9.heap.size w9 x ∧ Below w14.heap.size w14 x ∧ Below w36.heap.size w36 x ∧ Below w51.heap.size w51 x) (ps := [IsV (.pointer (some ⟨g40, 4, none⟩)), IsV (.agg #[.int .u64 t37_5, .int .i64 t37_6]), IsV (.agg #[.int .u64 a0_0, .int .i64 a0_1]), IsV (.bool (!((t37_5 == a0_0) && (t37_6 == a0_1)))), IsV (.bool (!((t37_5 == a0_0) && (t37_6 == a0_1)))), IsV (.pointer (some ⟨g40, 1, none⟩)), IsV (.int .i64 t37_2), IsV (.bool (!decide (t37_2 = 3))), IsV (.bool (!decide (t37_2 = 3))), IsV (.bool (!decide (t37_2 = 3))), IsV (.pointer (some ⟨g20, 0, none⟩)), IsV (.pointer (some ⟨g40, 6, none⟩)), IsV (.int .i64 t37_7), IsV (.int .i64 t29)]) (by kernel_rfl) ?_ ?_ rfl hS ⟨hBw51_w, hBw51_w3, hBw51_w5, hBw51_w9, hBw51_w14, hBw51_w36, hBw51_w51⟩ ?_ ?_
                            · exact fun x y hI hb => ⟨below_step hI.1 hb, below_step hI.2.1 hb, below_step hI.2.2.1 hb, below_step hI.2.2.2.1 hb, below_step hI.2.2.2.2.1 hb, below_step hI.2.2.2.2.2.1 hb, below_step hI.2.2.2.2.2.2 hb⟩
                            · exact AllStay.cons (Stays.v _) (AllStay.cons (Stays.v _) (AllStay.cons (Stays.v _) (AllStay.cons (Stays.v _) (AllStay.cons (Stays.v _) (AllStay.cons (Stays.v _) (AllStay.cons (Stays.v _) (AllStay.cons (Stays.v _) (AllStay.cons (Stays.v _) (AllStay.cons (Stays.v _) (AllStay.cons (Stays.v _) (AllStay.cons (Stays.v _) (AllStay.cons (Stays.v _) (AllStay.cons (Stays.v _) (AllStay.nil))))))))))))))
                            · refine Steps.cons (fun a w hS hI hp => ok_on rfl (does_val (x_field rfl (hS.get 2 rfl) Try.underlying34 rfl (by kernel_rfl)) rfl)) ?_
                              refine Steps.cons (fun a w hS hI hp => ok_on rfl (does_loadmid (cs := [.int .u64 t37_5, .int .i64 t37_6]) rfl ((hp.get 0 (by rfl) rfl rfl)) (((hI.2.2.2.2.2.2).block g40 (blk_lt hbxw51)).trans hbxw51) rfl Try.underlying24 rfl (by kernel_rfl) rfl)) ?_
                              refine Steps.cons (fun a w hS hI hp => ok_on rfl (does_loadrow rfl (hS.get 10 rfl) (((hI.2.1).block g4 (blk_lt hbxg4)).trans hbxg4) Try.underlying24 rfl (by kernel_rfl) rfl)) ?_
                              refine Steps.cons (fun a w hS hI hp => ok_on rfl (does_val (x_bin rfl ((hp.get 1 (by rfl) rfl rfl)) ((hp.get 2 (by rfl) rfl rfl)) (carillonlaw17_DelayRound.neq24 _ _ _ t37_5 t37_6 a0_0 a0_1)) rfl)) ?_
                              refine Steps.cons (fun a w hS hI hp => ok_on rfl (does_val (x_move rfl ((hp.get 3 (by rfl) rfl rfl))) rfl)) ?_
                              refine Steps.cons (fun a w hS hI hp => ok_if (d := 46) rfl rfl (by rw [hS.size]; decide) (((hp.get 4 (by rfl) rfl rfl)).trans (bF (congrArg (!·) c1))) (does_val (x_field rfl (hS.get 2 rfl) Try.underlying34 rfl (by kernel_rfl)) rfl)) ?_
                              refine Steps.cons (fun a w hS hI hp => ok_if (d := 46) rfl rfl (by rw [hS.size]; decide) (((hp.get 4 (by rfl) rfl rfl)).trans (bF (congrArg (!·) c1))) (does_val (x_load1 (d := .int .i64) rfl ((hp.get 5 (by rfl) rfl rfl)) (by kernel_rfl) rfl ((blk_cell (((hI.2.2.2.2.2.2).block g40 (blk_lt hbxw51)).trans hbxw51) 1).trans rfl)) rfl)) ?_
                              refine Steps.cons (fun a w hS hI hp => ok_if (d := 46) rfl rfl (by rw [hS.size]; decide) (((hp.get 4 (by rfl) rfl rfl)).trans (bF (congrArg (!·) c1))) (does_val (x_bin rfl ((hp.get 6 (by rfl) rfl rfl)) (rfl) (b_neq _ _ _ _ _ _)) rfl)) ?_
                              refine Steps.cons (fun a w hS hI hp => ok_on rfl (does_val (x_pickF rfl (((hp.get 4 (by rfl) rfl rfl)).trans (bF (congrArg (!·) c1))) ((hp.get 7 (by rfl) rfl rfl))) rfl)) ?_
                              refine Steps.cons (fun a w hS hI hp => ok_on rfl (does_val (x_move rfl ((hp.get 8 (by rfl) rfl rfl))) rfl)) ?_
                              refine Steps.cons (fun a w hS hI hp => ok_if (d := 51) rfl rfl (by rw [hS.size]; decide) (((hp.get 9 (by rfl) rfl rfl)).trans (bF (congrArg (!·) (decide_eq_true c2)))) (does_val (x_move rfl (hS.get 6 rfl)) rfl)) ?_
                              refine Steps.cons (fun a w hS hI hp => ok_if (d := 51) rfl rfl (by rw [hS.size]; decide) (((hp.get 9 (by rfl) rfl rfl)).trans (bF (congrArg (!·) (decide_eq_true c2)))) (does_val (x_field rfl (hS.get 2 rfl) Try.underlying34 rfl (by kernel_rfl)) rfl)) ?_
                              refine Steps.cons (fun a w hS hI hp => ok_if (d := 51) rfl rfl (by rw [hS.size]; decide) (((hp.get 9 (by rfl) rfl rfl)).trans (bF (congrArg (!·) (decide_eq_true c2)))) (does_val (x_load1 (d := .int .i64) rfl ((hp.get 11 (by rfl) rfl rfl)) (by kernel_rfl) rfl ((blk_cell (((hI.2.2.2.2.2.2).block g40 (blk_lt hbxw51)).trans hbxw51) 6).trans rfl)) rfl)) ?_
                              refine Steps.cons (fun a w hS hI hp => ok_if (d := 51) rfl rfl (by rw [hS.size]; decide) (((hp.get 9 (by rfl) rfl rfl)).trans (bF (congrArg (!·) (decide_eq_true c2)))) (does_val (x_move rfl (hS.get 4 rfl)) rfl)) ?_
                              exact Steps.nil
                            clear hS
                            intro at54 w55 hS hI hp
                            have hBw55_w := hI.1
                            have hBw55_w3 := hI.2.1
                            have hBw55_w5 := hI.2.2.1
                            have hBw55_w9 := hI.2.2.2.1
                            have hBw55_w14 := hI.2.2.2.2.1
                            have hBw55_w36 := hI.2.2.2.2.2.1
                            have hBw55_w51 := hI.2.2.2.2.2.2
                            replace hS := (((((((((hS.nil).cons (hS.get 10 rfl)).cons (hS.get 9 rfl)).cons (hS.get 8 rfl)).cons (hS.get 7 rfl)).cons (hS.get 6 rfl)).cons (hS.get 5 rfl)).cons (hS.get 4 rfl)).cons (hS.get 3 rfl)).cons (hS.get 2 rfl)
                            have hv51 : sl _ 51 = .bool (!decide (t37_2 = 3)) := hp 9 (by decide)
                            have hv52 : sl _ 52 = .pointer (some ⟨g20, 0, none⟩) := hp 10 (by decide)
                            have hv54 : sl _ 54 = .int .i64 t37_7 := hp 12 (by decide)
                            have hv55 : sl _ 55 = .int .i64 t29 := hp 13 (by decide)
                            have hBw55_w55 := Below.refl w55.heap.size w55
                            have hS := hS.cons hv51
                            have hS := hS.cons hv52
                            have hS := hS.cons hv54
                            have hS := hS.cons hv55
                            clear hp hI hv51 hv52 hv54 hv55
                            show wpList _ _ _ [_, _, _, _, _, _, _, _, _, _] _ _
                            refine list_if (d := 51) rfl rfl (by rw [hS.size]; decide) ((hS.get 3 rfl).trans (bF (congrArg (!·) (decide_eq_true c2)))) (R := fun v w' => v = .bool t57_1 ∧ w'.heap[g20]? = some (.cells #[.int .u64 t57_2, .int .i64 t57_3, .int .i64 t57_4, .int .i64 t57_5, .int .i64 t57_6, .bool t57_7, .bool t57_8] 54 (0, 0)) ∧ Tch g20 _ w') (does_call (by kernel_rfl) (ar3 (hS.get 2 rfl) (hS.get 1 rfl) (hS.get 0 rfl)) ((delay_Exchange_Sent.calls g20 t37_24 t37_25 t37_26 t37_27 t37_28 t37_29 t37_30 t37_7 t29 t57_1 t57_2 t57_3 t57_4 t57_5 t57_6 t57_7 t57_8 _ ((hBw55_w36.block g20 (blk_lt hbxw36)).trans hbxw36) At57).mono fun _ _ h => ⟨_, h.1, rfl, h.2⟩)) ?_
                            rintro vw56 w56 ⟨rfl, hbxw56, hT⟩
                            have hn58 := hT.blk ((hBw55_w51.block g40 (blk_lt hbxw51)).trans hbxw51) hne44
                            have hBw56_w := hT.below hBw55_w (Nat.le_trans (hBw14_w).size hgeg20) (hBw55_w).size
                            have hBw56_w3 := hT.below hBw55_w3 (Nat.le_trans (hBw14_w3).size hgeg20) (hBw55_w3).size
                            have hBw56_w5 := hT.below hBw55_w5 (Nat.le_trans (hBw14_w5).size hgeg20) (hBw55_w5).size
                            have hBw56_w9 := hT.below hBw55_w9 (Nat.le_trans (hBw14_w9).size hgeg20) (hBw55_w9).size
                            have hBw56_w14 := hT.below hBw55_w14 hgeg20 (hBw55_w14).size
                            have hBw56_w56 := Below.refl w56.heap.size w56
                            clear hT
                            refine hS.next (v := .bool t57_1) (d := 56) rfl (by decide) (by rfl) ?_
                            clear hS
                            intro at59 hS
                            refine list_if (d := 51) rfl rfl (by rw [hS.size]; decide) ((hS.get 4 rfl).trans (bF (congrArg (!·) (decide_eq_true c2)))) (R := fun v w' => Below _ _ w' ∧ (IsV (.bool (!t57_1))) v w') (does_val (x_not rfl (hS.get 0 rfl)) rfl) ?_
                            rintro vw60 w60 ⟨hb, he⟩
                            have hBw60_w := below_step hBw56_w hb
                            have hBw60_w3 := below_step hBw56_w3 hb
                            have hBw60_w5 := below_step hBw56_w5 hb
                            have hBw60_w9 := below_step hBw56_w9 hb
                            have hBw60_w14 := below_step hBw56_w14 hb
                            have hBw60_w56 := below_step hBw56_w56 hb
                            have hBw60_w60 := Below.refl w60.heap.size w60
                            obtain rfl : vw60 = .bool (!t57_1) := he
                            refine hS.next (v := .bool (!t57_1)) (d := 57) rfl (by decide) (by rfl) ?_
                            clear hS
                            intro at61 hS
                            refine list_step rfl (R := fun v w' => Below _ _ w' ∧ (IsV (.bool (!t57_1))) v w') (does_val (x_pickF rfl ((hS.get 5 rfl).trans (bF (congrArg (!·) (decide_eq_true c2)))) (hS.get 0 rfl)) rfl) ?_
                            rintro vw62 w62 ⟨hb, he⟩
                            have hBw62_w := below_step hBw60_w hb
                            have hBw62_w3 := below_step hBw60_w3 hb
                            have hBw62_w5 := below_step hBw60_w5 hb
                            have hBw62_w9 := below_step hBw60_w9 hb
                            have hBw62_w14 := below_step hBw60_w14 hb
                            have hBw62_w56 := below_step hBw60_w56 hb
                            have hBw62_w60 := below_step hBw60_w60 hb
                            have hBw62_w62 := Below.refl w62.heap.size w62
                            obtain rfl : vw62 = .bool (!t57_1) := he
                            refine hS.next (v := .bool (!t57_1)) (d := 58) rfl (by decide) (by rfl) ?_
                            clear hS
                            intro at63 hS
                            refine list_step rfl (R := fun v w' => Below _ _ w' ∧ (IsV (.bool (!t57_1))) v w') (does_val (x_move rfl (hS.get 0 rfl)) rfl) ?_
                            rintro vw64 w64 ⟨hb, he⟩
                            have hBw64_w := below_step hBw62_w hb
                            have hBw64_w3 := below_step hBw62_w3 hb
                            have hBw64_w5 := below_step hBw62_w5 hb
                            have hBw64_w9 := below_step hBw62_w9 hb
                            have hBw64_w14 := below_step hBw62_w14 hb
                            have hBw64_w56 := below_step hBw62_w56 hb
                            have hBw64_w62 := below_step hBw62_w62 hb
                            have hBw64_w64 := Below.refl w64.heap.size w64
                            obtain rfl : vw64 = .bool (!t57_1) := he
                            refine hS.next (v := .bool (!t57_1)) (d := 59) rfl (by decide) (by rfl) ?_
                            clear hS
                            intro at65 hS
                            refine list_if (d := 59) rfl rfl (by rw [hS.size]; decide) ((hS.get 0 rfl).trans (bF (congrArg (!·) c3))) (R := fun v w' => Below _ _ w' ∧ (IsV (.pointer (some ⟨g20, 0, none⟩))) v w') (does_val (x_move rfl (hS.get 12 rfl)) rfl) ?_
                            rintro vw66 w66 ⟨hb, he⟩
                            have hBw66_w := below_step hBw64_w hb
                            have hBw66_w3 := below_step hBw64_w3 hb
                            have hBw66_w5 := below_step hBw64_w5 hb
                            have hBw66_w9 := below_step hBw64_w9 hb
                            have hBw66_w14 := below_step hBw64_w14 hb
                            have hBw66_w56 := below_step hBw64_w56 hb
                            have hBw66_w64 := below_step hBw64_w64 hb
                            have hBw66_w66 := Below.refl w66.heap.size w66
                            obtain rfl : vw66 = .pointer (some ⟨g20, 0, none⟩) := he
                            refine hS.next (v := .pointer (some ⟨g20, 0, none⟩)) (d := 60) rfl (by decide) (by rfl) ?_
                            clear hS
                            intro at67 hS
                            refine list_if (d := 59) rfl rfl (by rw [hS.size]; decide) ((hS.get 1 rfl).trans (bF (congrArg (!·) c3))) (R := fun v w' => Below _ _ w' ∧ (IsV (.pointer (some ⟨g40, 6, none⟩))) v w') (does_val (x_field rfl (hS.get 9 rfl) Try.underlying34 rfl (by kernel_rfl)) rfl) ?_
                            rintro vw68 w68 ⟨hb, he⟩
                            have hBw68_w := below_step hBw66_w hb
                            have hBw68_w3 := below_step hBw66_w3 hb
                            have hBw68_w5 := below_step hBw66_w5 hb
                            have hBw68_w9 := below_step hBw66_w9 hb
                            have hBw68_w14 := below_step hBw66_w14 hb
                            have hBw68_w56 := below_step hBw66_w56 hb
                            have hBw68_w66 := below_step hBw66_w66 hb
                            have hBw68_w68 := Below.refl w68.heap.size w68
                            obtain rfl : vw68 = .pointer (some ⟨g40, 6, none⟩) := he
                            refine hS.next (v := .pointer (some ⟨g40, 6, none⟩)) (d := 61) rfl (by decide) (by rfl) ?_
                            clear hS
                            intro at69 hS
                            refine list_if (d := 59) rfl rfl (by rw [hS.size]; decide) ((hS.get 2 rfl).trans (bF (congrArg (!·) c3))) (R := fun v w' => Below _ _ w' ∧ (IsV (.int .i64 t37_7)) v w') (does_val (x_load1 (d := .int .i64) rfl (hS.get 0 rfl) (by kernel_rfl) rfl ((blk_cell (((hBw68_w56).block g40 (blk_lt hn58)).trans hn58) 6).trans rfl)) rfl) ?_
                            rintro vw70 w70 ⟨hb, he⟩
                            have hBw70_w := below_step hBw68_w hb
                            have hBw70_w3 := below_step hBw68_w3 hb
                            have hBw70_w5 := below_step hBw68_w5 hb
                            have hBw70_w9 := below_step hBw68_w9 hb
                            have hBw70_w14 := below_step hBw68_w14 hb
                            have hBw70_w56 := below_step hBw68_w56 hb
                            have hBw70_w68 := below_step hBw68_w68 hb
                            have hBw70_w70 := Below.refl w70.heap.size w70
                            obtain rfl : vw70 = .int .i64 t37_7 := he
                            refine hS.next (v := .int .i64 t37_7) (d := 62) rfl (by decide) (by rfl) ?_
                            clear hS
                            intro at71 hS
                            refine list_if (d := 59) rfl rfl (by rw [hS.size]; decide) ((hS.get 3 rfl).trans (bF (congrArg (!·) c3))) (R := fun v w' => Below _ _ w' ∧ (IsV (.int .i64 t29)) v w') (does_val (x_move rfl (hS.get 13 rfl)) rfl) ?_
                            rintro vw72 w72 ⟨hb, he⟩
                            have hBw72_w := below_step hBw70_w hb
                            have hBw72_w3 := below_step hBw70_w3 hb
                            have hBw72_w5 := below_step hBw70_w5 hb
                            have hBw72_w9 := below_step hBw70_w9 hb
                            have hBw72_w14 := below_step hBw70_w14 hb
                            have hBw72_w56 := below_step hBw70_w56 hb
                            have hBw72_w70 := below_step hBw70_w70 hb
                            have hBw72_w72 := Below.refl w72.heap.size w72
                            obtain rfl : vw72 = .int .i64 t29 := he
                            refine hS.next (v := .int .i64 t29) (d := 63) rfl (by decide) (by rfl) ?_
                            clear hS
                            intro at73 hS
                            refine list_if (d := 59) rfl rfl (by rw [hS.size]; decide) ((hS.get 4 rfl).trans (bF (congrArg (!·) c3))) (R := fun v w' => v = .bool t75_1 ∧ w'.heap[g20]? = some (.cells #[.int .u64 t75_2, .int .i64 t75_3, .int .i64 t75_4, .int .i64 t75_5, .int .i64 t75_6, .bool t75_7, .bool t75_8] 54 (0, 0)) ∧ Tch g20 _ w') (does_call (by kernel_rfl) (ar3 (hS.get 3 rfl) (hS.get 1 rfl) (hS.get 0 rfl)) ((delay_Exchange_Sent.calls g20 t57_2 t57_3 t57_4 t57_5 t57_6 t57_7 t57_8 t37_7 t29 t75_1 t75_2 t75_3 t75_4 t75_5 t75_6 t75_7 t75_8 _ ((hBw72_w56.block g20 (blk_lt hbxw56)).trans hbxw56) At75).mono fun _ _ h => ⟨_, h.1, rfl, h.2⟩)) ?_
                            rintro vw74 w74 ⟨rfl, hbxw74, hT⟩
                            have hn76 := hT.blk ((hBw72_w56.block g40 (blk_lt hn58)).trans hn58) hne44
                            have hBw74_w := hT.below hBw72_w (Nat.le_trans (hBw14_w).size hgeg20) (hBw72_w).size
                            have hBw74_w3 := hT.below hBw72_w3 (Nat.le_trans (hBw14_w3).size hgeg20) (hBw72_w3).size
                            have hBw74_w5 := hT.below hBw72_w5 (Nat.le_trans (hBw14_w5).size hgeg20) (hBw72_w5).size
                            have hBw74_w9 := hT.below hBw72_w9 (Nat.le_trans (hBw14_w9).size hgeg20) (hBw72_w9).size
                            have hBw74_w14 := hT.below hBw72_w14 hgeg20 (hBw72_w14).size
                            have hBw74_w74 := Below.refl w74.heap.size w74
                            clear hT
                            refine hS.next (v := .bool t75_1) (d := 64) rfl (by decide) (by rfl) ?_
                            clear hS
                            intro at77 hS
                            refine list_step rfl (R := fun v w' => Below _ _ w' ∧ (IsV (.bool t75_1)) v w') (does_val (x_pickF rfl ((hS.get 5 rfl).trans (bF (congrArg (!·) c3))) (hS.get 0 rfl)) rfl) ?_
                            rintro vw78 w78 ⟨hb, he⟩
                            have hBw78_w := below_step hBw74_w hb
                            have hBw78_w3 := below_step hBw74_w3 hb
                            have hBw78_w5 := below_step hBw74_w5 hb
                            have hBw78_w9 := below_step hBw74_w9 hb
                            have hBw78_w14 := below_step hBw74_w14 hb
                            have hBw78_w74 := below_step hBw74_w74 hb
                            have hBw78_w78 := Below.refl w78.heap.size w78
                            obtain rfl : vw78 = .bool t75_1 := he
                            refine hS.next (v := .bool t75_1) (d := 65) rfl (by decide) (by rfl) ?_
                            clear hS
                            intro at79 hS
                            refine wpList_nil ?_
                            refine hK53 _ _ ?_
                            clear hK53 K53
                            refine wp_cond_false ((hS.get 0 rfl).trans (bF (Bool.eq_false_iff.2 c4))) ?_
                            refine wp_skip ?_
                            refine hK52 _ _ ?_
                            clear hK52 K52
                            refine wp_seq_k (fun K80 hK80 => ?_)
                            refine reg_seq_tail 8 (N := 144) (bs := [(65, .bool t75_1), (64, .bool t75_1), (63, .int .i64 t29), (62, .int .i64 t37_7), (61, .pointer (some ⟨g40, 6, none⟩)), (60, .pointer (some ⟨g20, 0, none⟩)), (59, .bool (!t57_1)), (58, .bool (!t57_1)), (57, .bool (!t57_1)), (56, .bool t57_1), (55, .int .i64 t29), (54, .int .i64 t37_7), (52, .pointer (some ⟨g20, 0, none⟩)), (51, .bool (!decide (t37_2 = 3))), (18, .pointer (some ⟨g40, 0, none⟩)), (17, .int .i64 t30), (16, .int .i64 t29), (31, .bool false), (15, .pointer (some ⟨g20, 0, none⟩)), (14, .bool false), (13, .pointer (some ⟨g10, 0, none⟩)), (8, .pointer (some ⟨g6, 0, none⟩)), (7, .pointer (some ⟨g4, 0, none⟩))]) (I := fun x => Below w.heap.size w x ∧ Below w3.heap.size w3 x ∧ Below w5.heap.size w5 x ∧ Below w9.heap.size w9 x ∧ Below w14.heap.size w14 x ∧ Below w74.heap.size w74 x ∧ Below w78.heap.size w78 x) (ps := [IsV (.agg #[.int .i64 t37_1, .int .i64 t37_2, .int .i64 t37_3, .int .i64 t48, .int .u64 t37_5, .int .i64 t37_6, .int .i64 t37_7, .int .i64 t37_8, .int .i64 t37_9, .int .u64 t37_10, .int .i64 t37_11, .int .i64 t37_12, .int .i64 t37_13, .int .i64 t37_14, .int .i64 t37_15, .int .i64 t37_16, .int .i64 t37_17, .int .u64 t37_18, .int .i64 t37_19, .int .i64 t37_20, .int .i64 t37_21, .int .i64 t37_22, .int .i64 t37_23]), IsV (.agg #[.int .u64 a1_0, .int .i64 a1_1]), IsV (.int .i64 t30), IsV (.tuple #[.agg #[.int .i64 t81_1, .int .i64 t81_2, .int .i64 t81_3, .int .i64 t81_4, .int .u64 t81_5, .int .i64 t81_6, .int .i64 t81_7, .int .i64 t81_8, .int .i64 t81_9, .int .u64 t81_10, .int .i64 t81_11, .int .i64 t81_12, .int .i64 t81_13, .int .i64 t81_14, .int .i64 t81_15, .int .i64 t81_16, .int .i64 t81_17, .int .u64 t81_18, .int .i64 t81_19, .int .i64 t81_20, .int .i64 t81_21, .int .i64 t81_22, .int .i64 t81_23], .bool t81_24]), IsV (.tuple #[.agg #[.int .i64 t81_1, .int .i64 t81_2, .int .i64 t81_3, .int .i64 t81_4, .int .u64 t81_5, .int .i64 t81_6, .int .i64 t81_7, .int .i64 t81_8, .int .i64 t81_9, .int .u64 t81_10, .int .i64 t81_11, .int .i64 t81_12, .int .i64 t81_13, .int .i64 t81_14, .int .i64 t81_15, .int .i64 t81_16, .int .i64 t81_17, .int .u64 t81_18, .int .i64 t81_19, .int .i64 t81_20, .int .i64 t81_21, .int .i64 t81_22, .int .i64 t81_23], .bool t81_24]), IsV (.agg #[.int .i64 t81_1, .int .i64 t81_2, .int .i64 t81_3, .int .i64 t81_4, .int .u64 t81_5, .int .i64 t81_6, .int .i64 t81_7, .int .i64 t81_8, .int .i64 t81_9, .int .u64 t81_10, .int .i64 t81_11, .int .i64 t81_12, .int .i64 t81_13, .int .i64 t81_14, .int .i64 t81_15, .int .i64 t81_16, .int .i64 t81_17, .int .u64 t81_18, .int .i64 t81_19, .int .i64 t81_20, .int .i64 t81_21, .int .i64 t81_22, .int .i64 t81_23]), IsV (.bool t81_24), IsB #[.int .i64 0, .int .i64 0, .int .i64 0, .int .i64 0, .int .u64 0, .int .i64 0, .int .i64 0, .int .i64 0, .int .i64 0, .int .u64 0, .int .i64 0, .int .i64 0, .int .i64 0, .int .i64 0, .int .i64 0, .int .i64 0, .int .i64 0, .int .u64 0, .int .i64 0, .int .i64 0, .int .i64 0, .int .i64 0, .int .i64 0] 34 w78.heap.size]) (by kernel_rfl) ?_ ?_ rfl hS ⟨hBw78_w, hBw78_w3, hBw78_w5, hBw78_w9, hBw78_w14, hBw78_w74, hBw78_w78⟩ ?_ ?_
                            · exact fun x y hI hb => ⟨below_step hI.1 hb, below_step hI.2.1 hb, below_step hI.2.2.1 hb, below_step hI.2.2.2.1 hb, below_step hI.2.2.2.2.1 hb, below_step hI.2.2.2.2.2.1 hb, below_step hI.2.2.2.2.2.2 hb⟩
                            · exact AllStay.cons (Stays.v _) (AllStay.cons (Stays.v _) (AllStay.cons (Stays.v _) (AllStay.cons (Stays.v _) (AllStay.cons (Stays.v _) (AllStay.cons (Stays.v _) (AllStay.cons (Stays.v _) (AllStay.cons (Stays.b _ _ _) (AllStay.nil))))))))
                            · refine Steps.cons (fun a w hS hI hp => ok_on rfl (does_loadrow rfl (hS.get 14 rfl) (((hI.2.2.2.2.2.1).block g40 (blk_lt hn76)).trans hn76) Try.underlying34 rfl (by kernel_rfl) rfl)) ?_
                              refine Steps.cons (fun a w hS hI hp => ok_on rfl (does_loadrow rfl (hS.get 21 rfl) (((hI.2.2.1).block g6 (blk_lt hbxg6)).trans hbxg6) Try.underlying24 rfl (by kernel_rfl) rfl)) ?_
                              refine Steps.cons (fun a w hS hI hp => ok_on rfl (does_val (x_move rfl (hS.get 15 rfl)) rfl)) ?_
                              refine Steps.cons (fun a w hS hI hp => ok_on rfl (does_call (by kernel_rfl) (ar4 ((hp.get 0 (by rfl) rfl rfl)) ((hp.get 1 (by rfl) rfl rfl)) ((hp.get 2 (by rfl) rfl rfl)) (rfl)) ((delay_Answer.calls t37_1 t37_2 t37_3 t48 t37_5 t37_6 t37_7 t37_8 t37_9 t37_10 t37_11 t37_12 t37_13 t37_14 t37_15 t37_16 t37_17 t37_18 t37_19 t37_20 t37_21 t37_22 t37_23 a1_0 a1_1 t30 0 t81_1 t81_2 t81_3 t81_4 t81_5 t81_6 t81_7 t81_8 t81_9 t81_10 t81_11 t81_12 t81_13 t81_14 t81_15 t81_16 t81_17 t81_18 t81_19 t81_20 t81_21 t81_22 t81_23 t81_24 _  At81).mono fun _ _ h => ⟨_, h.1, h.2, rfl⟩))) ?_
                              refine Steps.cons (fun a w hS hI hp => ok_on rfl (does_val (x_move rfl ((hp.get 3 (by rfl) rfl rfl))) rfl)) ?_
                              refine Steps.cons (fun a w hS hI hp => ok_on rfl (does_val (x_extract rfl ((hp.get 4 (by rfl) rfl rfl)) rfl) rfl)) ?_
                              refine Steps.cons (fun a w hS hI hp => ok_on rfl (does_val (x_extract rfl ((hp.get 4 (by rfl) rfl rfl)) rfl) rfl)) ?_
                              refine Steps.cons (fun a w hS hI hp => ok_on rfl (does_var (x_alloc rfl (by kernel_rfl)) (hI.2.2.2.2.2.2).size)) ?_
                              exact Steps.nil
                            clear hS
                            intro at82 w83 hS hI hp
                            have hBw83_w := hI.1
                            have hBw83_w3 := hI.2.1
                            have hBw83_w5 := hI.2.2.1
                            have hBw83_w9 := hI.2.2.2.1
                            have hBw83_w14 := hI.2.2.2.2.1
                            have hBw83_w74 := hI.2.2.2.2.2.1
                            have hBw83_w78 := hI.2.2.2.2.2.2
                            replace hS := ((((((((((hS.nil).cons (hS.get 22 rfl)).cons (hS.get 21 rfl)).cons (hS.get 20 rfl)).cons (hS.get 19 rfl)).cons (hS.get 18 rfl)).cons (hS.get 17 rfl)).cons (hS.get 16 rfl)).cons (hS.get 15 rfl)).cons (hS.get 14 rfl)).cons (hS.get 0 rfl)
                            have hv71 : sl _ 71 = .agg #[.int .i64 t81_1, .int .i64 t81_2, .int .i64 t81_3, .int .i64 t81_4, .int .u64 t81_5, .int .i64 t81_6, .int .i64 t81_7, .int .i64 t81_8, .int .i64 t81_9, .int .u64 t81_10, .int .i64 t81_11, .int .i64 t81_12, .int .i64 t81_13, .int .i64 t81_14, .int .i64 t81_15, .int .i64 t81_16, .int .i64 t81_17, .int .u64 t81_18, .int .i64 t81_19, .int .i64 t81_20, .int .i64 t81_21, .int .i64 t81_22, .int .i64 t81_23] := hp 5 (by decide)
                            have hv72 : sl _ 72 = .bool t81_24 := hp 6 (by decide)
                            obtain ⟨g84, hv19, hgeg84, hbxg84⟩ := (show IsB _ 34 _ (sl _ 19) _ from hp 7 (by decide))
                            have hne85 : g84 ≠ g4 := Nat.ne_of_gt (Nat.lt_of_lt_of_le (blk_lt ((hBw78_w3.block g4 (blk_lt hbxg4)).trans hbxg4)) hgeg84)
                            have hne86 : g84 ≠ g6 := Nat.ne_of_gt (Nat.lt_of_lt_of_le (blk_lt ((hBw78_w5.block g6 (blk_lt hbxg6)).trans hbxg6)) hgeg84)
                            have hne87 : g84 ≠ g10 := Nat.ne_of_gt (Nat.lt_of_lt_of_le (blk_lt ((hBw78_w9.block g10 (blk_lt hbxg10)).trans hbxg10)) hgeg84)
                            have hne88 : g84 ≠ g20 := Nat.ne_of_gt (Nat.lt_of_lt_of_le (blk_lt ((hBw78_w74.block g20 (blk_lt hbxw74)).trans hbxw74)) hgeg84)
                            have hne89 : g84 ≠ g40 := Nat.ne_of_gt (Nat.lt_of_lt_of_le (blk_lt ((hBw78_w74.block g40 (blk_lt hn76)).trans hn76)) hgeg84)
                            have hBw83_w83 := Below.refl w83.heap.size w83
                            have hS := hS.cons hv71
                            have hS := hS.cons hv72
                            have hS := hS.cons hv19
                            clear hp hI hv71 hv72 hv19
                            show wpList _ _ _ [_, _] _ _
                            refine list_step rfl (does_storeAll (g := g84) (cs := #[.int .i64 t81_1, .int .i64 t81_2, .int .i64 t81_3, .int .i64 t81_4, .int .u64 t81_5, .int .i64 t81_6, .int .i64 t81_7, .int .i64 t81_8, .int .i64 t81_9, .int .u64 t81_10, .int .i64 t81_11, .int .i64 t81_12, .int .i64 t81_13, .int .i64 t81_14, .int .i64 t81_15, .int .i64 t81_16, .int .i64 t81_17, .int .u64 t81_18, .int .i64 t81_19, .int .i64 t81_20, .int .i64 t81_21, .int .i64 t81_22, .int .i64 t81_23]) rfl (hS.get 0 rfl) (hS.get 2 rfl) ((hBw83_w83.block g84 (blk_lt hbxg84)).trans hbxg84) (by kernel_rfl) (by kernel_rfl) (by kernel_rfl)) ?_
                            rintro vw90 w90 ⟨rfl, hbxw90, hT⟩
                            have hBw90_w := hT.below hBw83_w (Nat.le_trans (hBw78_w).size hgeg84) (hBw83_w).size
                            have hBw90_w3 := hT.below hBw83_w3 (Nat.le_trans (hBw78_w3).size hgeg84) (hBw83_w3).size
                            have hBw90_w5 := hT.below hBw83_w5 (Nat.le_trans (hBw78_w5).size hgeg84) (hBw83_w5).size
                            have hBw90_w9 := hT.below hBw83_w9 (Nat.le_trans (hBw78_w9).size hgeg84) (hBw83_w9).size
                            have hBw90_w14 := hT.below hBw83_w14 (Nat.le_trans (hBw78_w14).size hgeg84) (hBw83_w14).size
                            have hBw90_w74 := hT.below hBw83_w74 (Nat.le_trans (hBw78_w74).size hgeg84) (hBw83_w74).size
                            have hBw90_w78 := hT.below hBw83_w78 hgeg84 (hBw83_w78).size
                            have hBw90_w90 := Below.refl w90.heap.size w90
                            clear hT
                            refine list_step rfl (R := fun v w' => Below _ _ w' ∧ (IsV (.bool t81_24)) v w') (does_val (x_assign rfl (hS.get 1 rfl)) rfl) ?_
                            rintro vw91 w91 ⟨hb, he⟩
                            have hBw91_w := below_step hBw90_w hb
                            have hBw91_w3 := below_step hBw90_w3 hb
                            have hBw91_w5 := below_step hBw90_w5 hb
                            have hBw91_w9 := below_step hBw90_w9 hb
                            have hBw91_w14 := below_step hBw90_w14 hb
                            have hBw91_w74 := below_step hBw90_w74 hb
                            have hBw91_w78 := below_step hBw90_w78 hb
                            have hBw91_w90 := below_step hBw90_w90 hb
                            have hBw91_w91 := Below.refl w91.heap.size w91
                            obtain rfl : vw91 = .bool t81_24 := he
                            refine hS.next (v := .bool t81_24) (d := 20) rfl (by decide) (by rfl) ?_
                            clear hS
                            intro at92 hS
                            refine wpList_nil ?_
                            refine hK80 _ _ ?_
                            clear hK80 K80
                            refine wp_seq_k (fun K93 hK93 => ?_)
                            refine wp_seq_k (fun K94 hK94 => ?_)
                            refine reg_seq (N := 144) (bs := [(20, .bool t81_24), (19, .pointer (some ⟨g84, 0, none⟩)), (72, .bool t81_24), (71, .agg #[.int .i64 t81_1, .int .i64 t81_2, .int .i64 t81_3, .int .i64 t81_4, .int .u64 t81_5, .int .i64 t81_6, .int .i64 t81_7, .int .i64 t81_8, .int .i64 t81_9, .int .u64 t81_10, .int .i64 t81_11, .int .i64 t81_12, .int .i64 t81_13, .int .i64 t81_14, .int .i64 t81_15, .int .i64 t81_16, .int .i64 t81_17, .int .u64 t81_18, .int .i64 t81_19, .int .i64 t81_20, .int .i64 t81_21, .int .i64 t81_22, .int .i64 t81_23]), (65, .bool t75_1), (18, .pointer (some ⟨g40, 0, none⟩)), (17, .int .i64 t30), (16, .int .i64 t29), (31, .bool false), (15, .pointer (some ⟨g20, 0, none⟩)), (14, .bool false), (13, .pointer (some ⟨g10, 0, none⟩)), (8, .pointer (some ⟨g6, 0, none⟩)), (7, .pointer (some ⟨g4, 0, none⟩))]) (I := fun x => Below w.heap.size w x ∧ Below w3.heap.size w3 x ∧ Below w5.heap.size w5 x ∧ Below w9.heap.size w9 x ∧ Below w14.heap.size w14 x ∧ Below w74.heap.size w74 x ∧ Below w78.heap.size w78 x ∧ Below w90.heap.size w90 x ∧ Below w91.heap.size w91 x) (ps := [IsV (.bool t81_24), IsV (.bool (!t81_24)), IsV (.bool (!t81_24)), IsV (.pointer (some ⟨g84, 9, none⟩)), IsV (.agg #[.int .u64 t81_10, .int .i64 t81_11]), IsV (.agg #[.int .u64 a0_0, .int .i64 a0_1]), IsV (.bool (!((t81_10 == a0_0) && (t81_11 == a0_1)))), IsV (.bool (!((t81_10 == a0_0) && (t81_11 == a0_1)))), IsV (.bool (!((t81_10 == a0_0) && (t81_11 == a0_1)))), IsV (.pointer (some ⟨g84, 4, none⟩)), IsV (.agg #[.int .u64 t81_5, .int .i64 t81_6]), IsV (.agg #[.int .u64 a1_0, .int .i64 a1_1]), IsV (.bool (!((t81_5 == a1_0) && (t81_6 == a1_1)))), IsV (.bool (!((t81_5 == a1_0) && (t81_6 == a1_1)))), IsV (.bool (!((t81_5 == a1_0) && (t81_6 == a1_1)))), IsV (.pointer (some ⟨g84, 6, none⟩)), IsV (.int .i64 t81_7), IsV (.pointer (some ⟨g40, 6, none⟩)), IsV (.int .i64 t37_7), IsV (.bool (!decide (t81_7 = t37_7))), IsV (.bool (!decide (t81_7 = t37_7))), IsV (.bool (!decide (t81_7 = t37_7))), IsV (.pointer (some ⟨g84, 8, none⟩)), IsV (.int .i64 t81_9), IsV (.int .i64 t30), IsV (.bool (!decide (t81_9 = t30))), IsV (.bool (!decide (t81_9 = t30)))]) (by kernel_rfl) ?_ ?_ rfl hS ⟨hBw91_w, hBw91_w3, hBw91_w5, hBw91_w9, hBw91_w14, hBw91_w74, hBw91_w78, hBw91_w90, hBw91_w91⟩ ?_ ?_
                            · exact fun x y hI hb => ⟨below_step hI.1 hb, below_step hI.2.1 hb, below_step hI.2.2.1 hb, below_step hI.2.2.2.1 hb, below_step hI.2.2.2.2.1 hb, below_step hI.2.2.2.2.2.1 hb, below_step hI.2.2.2.2.2.2.1 hb, below_step hI.2.2.2.2.2.2.2.1 hb, below_step hI.2.2.2.2.2.2.2.2 hb⟩
                            · exact AllStay.cons (Stays.v _) (AllStay.cons (Stays.v _) (AllStay.cons (Stays.v _) (AllStay.cons (Stays.v _) (AllStay.cons (Stays.v _) (AllStay.cons (Stays.v _) (AllStay.cons (Stays.v _) (AllStay.cons (Stays.v _) (AllStay.cons (Stays.v _) (AllStay.cons (Stays.v _) (AllStay.cons (Stays.v _) (AllStay.cons (Stays.v _) (AllStay.cons (Stays.v _) (AllStay.cons (Stays.v _) (AllStay.cons (Stays.v _) (AllStay.cons (Stays.v _) (AllStay.cons (Stays.v _) (AllStay.cons (Stays.v _) (AllStay.cons (Stays.v _) (AllStay.cons (Stays.v _) (AllStay.cons (Stays.v _) (AllStay.cons (Stays.v _) (AllStay.cons (Stays.v _) (AllStay.cons (Stays.v _) (AllStay.cons (Stays.v _) (AllStay.cons (Stays.v _) (AllStay.cons (Stays.v _) (AllStay.nil)))))))))))))))))))))))))))
                            · refine Steps.cons (fun a w hS hI hp => ok_on rfl (does_val (x_move rfl (hS.get 0 rfl)) rfl)) ?_
                              refine Steps.cons (fun a w hS hI hp => ok_on rfl (does_val (x_not rfl ((hp.get 0 (by rfl) rfl rfl))) rfl)) ?_
                              refine Steps.cons (fun a w hS hI hp => ok_on rfl (does_val (x_move rfl ((hp.get 1 (by rfl) rfl rfl))) rfl)) ?_
                              refine Steps.cons (fun a w hS hI hp => ok_if (d := 75) rfl rfl (by rw [hS.size]; decide) (((hp.get 2 (by rfl) rfl rfl)).trans (bF (congrArg (!·) c5))) (does_val (x_field rfl (hS.get 1 rfl) Try.underlying34 rfl (by kernel_rfl)) rfl)) ?_
                              refine Steps.cons (fun a w hS hI hp => ok_if (d := 75) rfl rfl (by rw [hS.size]; decide) (((hp.get 2 (by rfl) rfl rfl)).trans (bF (congrArg (!·) c5))) (does_loadmid (cs := [.int .u64 t81_10, .int .i64 t81_11]) rfl ((hp.get 3 (by rfl) rfl rfl)) (((hI.2.2.2.2.2.2.2.1).block g84 (blk_lt hbxw90)).trans hbxw90) rfl Try.underlying24 rfl (by kernel_rfl) rfl)) ?_
                              refine Steps.cons (fun a w hS hI hp => ok_if (d := 75) rfl rfl (by rw [hS.size]; decide) (((hp.get 2 (by rfl) rfl rfl)).trans (bF (congrArg (!·) c5))) (does_loadrow rfl (hS.get 13 rfl) (((hI.2.1).block g4 (blk_lt hbxg4)).trans hbxg4) Try.underlying24 rfl (by kernel_rfl) rfl)) ?_
                              refine Steps.cons (fun a w hS hI hp => ok_if (d := 75) rfl rfl (by rw [hS.size]; decide) (((hp.get 2 (by rfl) rfl rfl)).trans (bF (congrArg (!·) c5))) (does_val (x_bin rfl ((hp.get 4 (by rfl) rfl rfl)) ((hp.get 5 (by rfl) rfl rfl)) (carillonlaw17_DelayRound.neq24 _ _ _ t81_10 t81_11 a0_0 a0_1)) rfl)) ?_
                              refine Steps.cons (fun a w hS hI hp => ok_on rfl (does_val (x_pickF rfl (((hp.get 2 (by rfl) rfl rfl)).trans (bF (congrArg (!·) c5))) ((hp.get 6 (by rfl) rfl rfl))) rfl)) ?_
                              refine Steps.cons (fun a w hS hI hp => ok_on rfl (does_val (x_move rfl ((hp.get 7 (by rfl) rfl rfl))) rfl)) ?_
                              refine Steps.cons (fun a w hS hI hp => ok_if (d := 81) rfl rfl (by rw [hS.size]; decide) (((hp.get 8 (by rfl) rfl rfl)).trans (bF (congrArg (!·) c6))) (does_val (x_field rfl (hS.get 1 rfl) Try.underlying34 rfl (by kernel_rfl)) rfl)) ?_
                              refine Steps.cons (fun a w hS hI hp => ok_if (d := 81) rfl rfl (by rw [hS.size]; decide) (((hp.get 8 (by rfl) rfl rfl)).trans (bF (congrArg (!·) c6))) (does_loadmid (cs := [.int .u64 t81_5, .int .i64 t81_6]) rfl ((hp.get 9 (by rfl) rfl rfl)) (((hI.2.2.2.2.2.2.2.1).block g84 (blk_lt hbxw90)).trans hbxw90) rfl Try.underlying24 rfl (by kernel_rfl) rfl)) ?_
                              refine Steps.cons (fun a w hS hI hp => ok_if (d := 81) rfl rfl (by rw [hS.size]; decide) (((hp.get 8 (by rfl) rfl rfl)).trans (bF (congrArg (!·) c6))) (does_loadrow rfl (hS.get 12 rfl) (((hI.2.2.1).block g6 (blk_lt hbxg6)).trans hbxg6) Try.underlying24 rfl (by kernel_rfl) rfl)) ?_
                              refine Steps.cons (fun a w hS hI hp => ok_if (d := 81) rfl rfl (by rw [hS.size]; decide) (((hp.get 8 (by rfl) rfl rfl)).trans (bF (congrArg (!·) c6))) (does_val (x_bin rfl ((hp.get 10 (by rfl) rfl rfl)) ((hp.get 11 (by rfl) rfl rfl)) (carillonlaw17_DelayRound.neq24 _ _ _ t81_5 t81_6 a1_0 a1_1)) rfl)) ?_
                              refine Steps.cons (fun a w hS hI hp => ok_on rfl (does_val (x_pickF rfl (((hp.get 8 (by rfl) rfl rfl)).trans (bF (congrArg (!·) c6))) ((hp.get 12 (by rfl) rfl rfl))) rfl)) ?_
                              refine Steps.cons (fun a w hS hI hp => ok_on rfl (does_val (x_move rfl ((hp.get 13 (by rfl) rfl rfl))) rfl)) ?_
                              refine Steps.cons (fun a w hS hI hp => ok_if (d := 87) rfl rfl (by rw [hS.size]; decide) (((hp.get 14 (by rfl) rfl rfl)).trans (bF (congrArg (!·) c7))) (does_val (x_field rfl (hS.get 1 rfl) Try.underlying34 rfl (by kernel_rfl)) rfl)) ?_
                              refine Steps.cons (fun a w hS hI hp => ok_if (d := 87) rfl rfl (by rw [hS.size]; decide) (((hp.get 14 (by rfl) rfl rfl)).trans (bF (congrArg (!·) c7))) (does_val (x_load1 (d := .int .i64) rfl ((hp.get 15 (by rfl) rfl rfl)) (by kernel_rfl) rfl ((blk_cell (((hI.2.2.2.2.2.2.2.1).block g84 (blk_lt hbxw90)).trans hbxw90) 6).trans rfl)) rfl)) ?_
                              refine Steps.cons (fun a w hS hI hp => ok_if (d := 87) rfl rfl (by rw [hS.size]; decide) (((hp.get 14 (by rfl) rfl rfl)).trans (bF (congrArg (!·) c7))) (does_val (x_field rfl (hS.get 5 rfl) Try.underlying34 rfl (by kernel_rfl)) rfl)) ?_
                              refine Steps.cons (fun a w hS hI hp => ok_if (d := 87) rfl rfl (by rw [hS.size]; decide) (((hp.get 14 (by rfl) rfl rfl)).trans (bF (congrArg (!·) c7))) (does_val (x_load1 (d := .int .i64) rfl ((hp.get 17 (by rfl) rfl rfl)) (by kernel_rfl) rfl ((blk_cell (((hI.2.2.2.2.2.1).block g40 (blk_lt hn76)).trans hn76) 6).trans rfl)) rfl)) ?_
                              refine Steps.cons (fun a w hS hI hp => ok_if (d := 87) rfl rfl (by rw [hS.size]; decide) (((hp.get 14 (by rfl) rfl rfl)).trans (bF (congrArg (!·) c7))) (does_val (x_bin rfl ((hp.get 16 (by rfl) rfl rfl)) ((hp.get 18 (by rfl) rfl rfl)) (b_neq _ _ _ _ _ _)) rfl)) ?_
                              refine Steps.cons (fun a w hS hI hp => ok_on rfl (does_val (x_pickF rfl (((hp.get 14 (by rfl) rfl rfl)).trans (bF (congrArg (!·) c7))) ((hp.get 19 (by rfl) rfl rfl))) rfl)) ?_
                              refine Steps.cons (fun a w hS hI hp => ok_on rfl (does_val (x_move rfl ((hp.get 20 (by rfl) rfl rfl))) rfl)) ?_
                              refine Steps.cons (fun a w hS hI hp => ok_if (d := 94) rfl rfl (by rw [hS.size]; decide) (((hp.get 21 (by rfl) rfl rfl)).trans (bF (congrArg (!·) (decide_eq_true c8)))) (does_val (x_field rfl (hS.get 1 rfl) Try.underlying34 rfl (by kernel_rfl)) rfl)) ?_
                              refine Steps.cons (fun a w hS hI hp => ok_if (d := 94) rfl rfl (by rw [hS.size]; decide) (((hp.get 21 (by rfl) rfl rfl)).trans (bF (congrArg (!·) (decide_eq_true c8)))) (does_val (x_load1 (d := .int .i64) rfl ((hp.get 22 (by rfl) rfl rfl)) (by kernel_rfl) rfl ((blk_cell (((hI.2.2.2.2.2.2.2.1).block g84 (blk_lt hbxw90)).trans hbxw90) 8).trans rfl)) rfl)) ?_
                              refine Steps.cons (fun a w hS hI hp => ok_if (d := 94) rfl rfl (by rw [hS.size]; decide) (((hp.get 21 (by rfl) rfl rfl)).trans (bF (congrArg (!·) (decide_eq_true c8)))) (does_val (x_move rfl (hS.get 6 rfl)) rfl)) ?_
                              refine Steps.cons (fun a w hS hI hp => ok_if (d := 94) rfl rfl (by rw [hS.size]; decide) (((hp.get 21 (by rfl) rfl rfl)).trans (bF (congrArg (!·) (decide_eq_true c8)))) (does_val (x_bin rfl ((hp.get 23 (by rfl) rfl rfl)) ((hp.get 24 (by rfl) rfl rfl)) (b_neq _ _ _ _ _ _)) rfl)) ?_
                              refine Steps.cons (fun a w hS hI hp => ok_on rfl (does_val (x_pickF rfl (((hp.get 21 (by rfl) rfl rfl)).trans (bF (congrArg (!·) (decide_eq_true c8)))) ((hp.get 25 (by rfl) rfl rfl))) rfl)) ?_
                              exact Steps.nil
                            clear hS
                            intro at95 w96 hS hI hp
                            have hBw96_w := hI.1
                            have hBw96_w3 := hI.2.1
                            have hBw96_w5 := hI.2.2.1
                            have hBw96_w9 := hI.2.2.2.1
                            have hBw96_w14 := hI.2.2.2.2.1
                            have hBw96_w74 := hI.2.2.2.2.2.1
                            have hBw96_w78 := hI.2.2.2.2.2.2.1
                            have hBw96_w90 := hI.2.2.2.2.2.2.2.1
                            have hBw96_w91 := hI.2.2.2.2.2.2.2.2
                            replace hS := ((((((((((hS.nil).cons (hS.get 13 rfl)).cons (hS.get 11 rfl)).cons (hS.get 10 rfl)).cons (hS.get 9 rfl)).cons (hS.get 8 rfl)).cons (hS.get 7 rfl)).cons (hS.get 6 rfl)).cons (hS.get 5 rfl)).cons (hS.get 4 rfl)).cons (hS.get 1 rfl)
                            have hv99 : sl _ 99 = .bool (!decide (t81_9 = t30)) := hp 26 (by decide)
                            have hBw96_w96 := Below.refl w96.heap.size w96
                            have hS := hS.cons hv99
                            clear hp hI hv99
                            refine hK94 _ _ ?_
                            clear hK94 K94
                            refine wp_cond_false ((hS.get 0 rfl).trans (bF (congrArg (!·) (decide_eq_true c9)))) ?_
                            refine wp_skip ?_
                            refine hK93 _ _ ?_
                            clear hK93 K93
                            refine wp_seq_k (fun K97 hK97 => ?_)
                            refine reg_seq_tail 2 (N := 144) (bs := [(99, .bool (!decide (t81_9 = t30))), (19, .pointer (some ⟨g84, 0, none⟩)), (65, .bool t75_1), (18, .pointer (some ⟨g40, 0, none⟩)), (17, .int .i64 t30), (16, .int .i64 t29), (31, .bool false), (15, .pointer (some ⟨g20, 0, none⟩)), (14, .bool false), (13, .pointer (some ⟨g10, 0, none⟩)), (7, .pointer (some ⟨g4, 0, none⟩))]) (I := fun x => Below w.heap.size w x ∧ Below w3.heap.size w3 x ∧ Below w5.heap.size w5 x ∧ Below w9.heap.size w9 x ∧ Below w14.heap.size w14 x ∧ Below w74.heap.size w74 x ∧ Below w78.heap.size w78 x ∧ Below w90.heap.size w90 x ∧ Below w96.heap.size w96 x) (ps := [IsV (.agg #[.int .i64 t81_1, .int .i64 t81_2, .int .i64 t81_3, .int .i64 t81_4, .int .u64 t81_5, .int .i64 t81_6, .int .i64 t81_7, .int .i64 t81_8, .int .i64 t81_9, .int .u64 t81_10, .int .i64 t81_11, .int .i64 t81_12, .int .i64 t81_13, .int .i64 t81_14, .int .i64 t81_15, .int .i64 t81_16, .int .i64 t81_17, .int .u64 t81_18, .int .i64 t81_19, .int .i64 t81_20, .int .i64 t81_21, .int .i64 t81_22, .int .i64 t81_23]), IsB #[.int .i64 0, .int .i64 0, .int .i64 0, .int .i64 0, .int .u64 0, .int .i64 0, .int .i64 0, .int .i64 0, .int .i64 0, .int .u64 0, .int .i64 0, .int .i64 0, .int .i64 0, .int .i64 0, .int .i64 0, .int .i64 0, .int .i64 0, .int .u64 0, .int .i64 0, .int .i64 0, .int .i64 0, .int .i64 0, .int .i64 0] 34 w96.heap.size]) (by kernel_rfl) ?_ ?_ rfl hS ⟨hBw96_w, hBw96_w3, hBw96_w5, hBw96_w9, hBw96_w14, hBw96_w74, hBw96_w78, hBw96_w90, hBw96_w96⟩ ?_ ?_
                            · exact fun x y hI hb => ⟨below_step hI.1 hb, below_step hI.2.1 hb, below_step hI.2.2.1 hb, below_step hI.2.2.2.1 hb, below_step hI.2.2.2.2.1 hb, below_step hI.2.2.2.2.2.1 hb, below_step hI.2.2.2.2.2.2.1 hb, below_step hI.2.2.2.2.2.2.2.1 hb, below_step hI.2.2.2.2.2.2.2.2 hb⟩
                            · exact AllStay.cons (Stays.v _) (AllStay.cons (Stays.b _ _ _) (AllStay.nil))
                            · refine Steps.cons (fun a w hS hI hp => ok_on rfl (does_loadrow rfl (hS.get 1 rfl) (((hI.2.2.2.2.2.2.2.1).block g84 (blk_lt hbxw90)).trans hbxw90) Try.underlying34 rfl (by kernel_rfl) rfl)) ?_
                              refine Steps.cons (fun a w hS hI hp => ok_on rfl (does_var (x_alloc rfl (by kernel_rfl)) (hI.2.2.2.2.2.2.2.2).size)) ?_
                              exact Steps.nil
                            clear hS
                            intro at98 w99 hS hI hp
                            have hBw99_w := hI.1
                            have hBw99_w3 := hI.2.1
                            have hBw99_w5 := hI.2.2.1
                            have hBw99_w9 := hI.2.2.2.1
                            have hBw99_w14 := hI.2.2.2.2.1
                            have hBw99_w74 := hI.2.2.2.2.2.1
                            have hBw99_w78 := hI.2.2.2.2.2.2.1
                            have hBw99_w90 := hI.2.2.2.2.2.2.2.1
                            have hBw99_w96 := hI.2.2.2.2.2.2.2.2
                            have hv100 : sl _ 100 = .agg #[.int .i64 t81_1, .int .i64 t81_2, .int .i64 t81_3, .int .i64 t81_4, .int .u64 t81_5, .int .i64 t81_6, .int .i64 t81_7, .int .i64 t81_8, .int .i64 t81_9, .int .u64 t81_10, .int .i64 t81_11, .int .i64 t81_12, .int .i64 t81_13, .int .i64 t81_14, .int .i64 t81_15, .int .i64 t81_16, .int .i64 t81_17, .int .u64 t81_18, .int .i64 t81_19, .int .i64 t81_20, .int .i64 t81_21, .int .i64 t81_22, .int .i64 t81_23] := hp 0 (by decide)
                            obtain ⟨g100, hv21, hgeg100, hbxg100⟩ := (show IsB _ 34 _ (sl _ 21) _ from hp 1 (by decide))
                            have hne101 : g100 ≠ g4 := Nat.ne_of_gt (Nat.lt_of_lt_of_le (blk_lt ((hBw96_w3.block g4 (blk_lt hbxg4)).trans hbxg4)) hgeg100)
                            have hne102 : g100 ≠ g6 := Nat.ne_of_gt (Nat.lt_of_lt_of_le (blk_lt ((hBw96_w5.block g6 (blk_lt hbxg6)).trans hbxg6)) hgeg100)
                            have hne103 : g100 ≠ g10 := Nat.ne_of_gt (Nat.lt_of_lt_of_le (blk_lt ((hBw96_w9.block g10 (blk_lt hbxg10)).trans hbxg10)) hgeg100)
                            have hne104 : g100 ≠ g20 := Nat.ne_of_gt (Nat.lt_of_lt_of_le (blk_lt ((hBw96_w74.block g20 (blk_lt hbxw74)).trans hbxw74)) hgeg100)
                            have hne105 : g100 ≠ g40 := Nat.ne_of_gt (Nat.lt_of_lt_of_le (blk_lt ((hBw96_w74.block g40 (blk_lt hn76)).trans hn76)) hgeg100)
                            have hne106 : g100 ≠ g84 := Nat.ne_of_gt (Nat.lt_of_lt_of_le (blk_lt ((hBw96_w90.block g84 (blk_lt hbxw90)).trans hbxw90)) hgeg100)
                            have hBw99_w99 := Below.refl w99.heap.size w99
                            have hS := hS.cons hv100
                            have hS := hS.cons hv21
                            clear hp hI hv100 hv21
                            show wpList _ _ _ [_] _ _
                            refine list_step rfl (does_storeAll (g := g100) (cs := #[.int .i64 t81_1, .int .i64 t81_2, .int .i64 t81_3, .int .i64 t81_4, .int .u64 t81_5, .int .i64 t81_6, .int .i64 t81_7, .int .i64 t81_8, .int .i64 t81_9, .int .u64 t81_10, .int .i64 t81_11, .int .i64 t81_12, .int .i64 t81_13, .int .i64 t81_14, .int .i64 t81_15, .int .i64 t81_16, .int .i64 t81_17, .int .u64 t81_18, .int .i64 t81_19, .int .i64 t81_20, .int .i64 t81_21, .int .i64 t81_22, .int .i64 t81_23]) rfl (hS.get 0 rfl) (hS.get 1 rfl) ((hBw99_w99.block g100 (blk_lt hbxg100)).trans hbxg100) (by kernel_rfl) (by kernel_rfl) (by kernel_rfl)) ?_
                            rintro vw107 w107 ⟨rfl, hbxw107, hT⟩
                            have hBw107_w := hT.below hBw99_w (Nat.le_trans (hBw96_w).size hgeg100) (hBw99_w).size
                            have hBw107_w3 := hT.below hBw99_w3 (Nat.le_trans (hBw96_w3).size hgeg100) (hBw99_w3).size
                            have hBw107_w5 := hT.below hBw99_w5 (Nat.le_trans (hBw96_w5).size hgeg100) (hBw99_w5).size
                            have hBw107_w9 := hT.below hBw99_w9 (Nat.le_trans (hBw96_w9).size hgeg100) (hBw99_w9).size
                            have hBw107_w14 := hT.below hBw99_w14 (Nat.le_trans (hBw96_w14).size hgeg100) (hBw99_w14).size
                            have hBw107_w74 := hT.below hBw99_w74 (Nat.le_trans (hBw96_w74).size hgeg100) (hBw99_w74).size
                            have hBw107_w78 := hT.below hBw99_w78 (Nat.le_trans (hBw96_w78).size hgeg100) (hBw99_w78).size
                            have hBw107_w90 := hT.below hBw99_w90 (Nat.le_trans (hBw96_w90).size hgeg100) (hBw99_w90).size
                            have hBw107_w96 := hT.below hBw99_w96 hgeg100 (hBw99_w96).size
                            have hBw107_w107 := Below.refl w107.heap.size w107
                            clear hT
                            refine wpList_nil ?_
                            refine hK97 _ _ ?_
                            clear hK97 K97
                            refine wp_seq_k (fun K108 hK108 => ?_)
                            refine reg_seq_tail 2 (N := 144) (bs := [(21, .pointer (some ⟨g100, 0, none⟩)), (100, .agg #[.int .i64 t81_1, .int .i64 t81_2, .int .i64 t81_3, .int .i64 t81_4, .int .u64 t81_5, .int .i64 t81_6, .int .i64 t81_7, .int .i64 t81_8, .int .i64 t81_9, .int .u64 t81_10, .int .i64 t81_11, .int .i64 t81_12, .int .i64 t81_13, .int .i64 t81_14, .int .i64 t81_15, .int .i64 t81_16, .int .i64 t81_17, .int .u64 t81_18, .int .i64 t81_19, .int .i64 t81_20, .int .i64 t81_21, .int .i64 t81_22, .int .i64 t81_23]), (99, .bool (!decide (t81_9 = t30))), (19, .pointer (some ⟨g84, 0, none⟩)), (65, .bool t75_1), (18, .pointer (some ⟨g40, 0, none⟩)), (17, .int .i64 t30), (16, .int .i64 t29), (31, .bool false), (15, .pointer (some ⟨g20, 0, none⟩)), (14, .bool false), (13, .pointer (some ⟨g10, 0, none⟩)), (7, .pointer (some ⟨g4, 0, none⟩))]) (I := fun x => Below w.heap.size w x ∧ Below w3.heap.size w3 x ∧ Below w5.heap.size w5 x ∧ Below w9.heap.size w9 x ∧ Below w14.heap.size w14 x ∧ Below w74.heap.size w74 x ∧ Below w78.heap.size w78 x ∧ Below w90.heap.size w90 x ∧ Below w96.heap.size w96 x ∧ Below w107.heap.size w107 x) (ps := [IsV (.agg #[.int .u64 a6_0, .int .i64 a6_1]), IsV (.pointer (some ⟨g100, 9, none⟩))]) (by kernel_rfl) ?_ ?_ rfl hS ⟨hBw107_w, hBw107_w3, hBw107_w5, hBw107_w9, hBw107_w14, hBw107_w74, hBw107_w78, hBw107_w90, hBw107_w96, hBw107_w107⟩ ?_ ?_
                            · exact fun x y hI hb => ⟨below_step hI.1 hb, below_step hI.2.1 hb, below_step hI.2.2.1 hb, below_step hI.2.2.2.1 hb, below_step hI.2.2.2.2.1 hb, below_step hI.2.2.2.2.2.1 hb, below_step hI.2.2.2.2.2.2.1 hb, below_step hI.2.2.2.2.2.2.2.1 hb, below_step hI.2.2.2.2.2.2.2.2.1 hb, below_step hI.2.2.2.2.2.2.2.2.2 hb⟩
                            · exact AllStay.cons (Stays.v _) (AllStay.cons (Stays.v _) (AllStay.nil))
                            · refine Steps.cons (fun a w hS hI hp => ok_on rfl (does_loadrow rfl (hS.get 11 rfl) (((hI.2.2.2.1).block g10 (blk_lt hbxg10)).trans hbxg10) Try.underlying24 rfl (by kernel_rfl) rfl)) ?_
                              refine Steps.cons (fun a w hS hI hp => ok_on rfl (does_val (x_field rfl (hS.get 0 rfl) Try.underlying34 rfl (by kernel_rfl)) rfl)) ?_
                              exact Steps.nil
                            clear hS
                            intro at109 w110 hS hI hp
                            have hBw110_w := hI.1
                            have hBw110_w3 := hI.2.1
                            have hBw110_w5 := hI.2.2.1
                            have hBw110_w9 := hI.2.2.2.1
                            have hBw110_w14 := hI.2.2.2.2.1
                            have hBw110_w74 := hI.2.2.2.2.2.1
                            have hBw110_w78 := hI.2.2.2.2.2.2.1
                            have hBw110_w90 := hI.2.2.2.2.2.2.2.1
                            have hBw110_w96 := hI.2.2.2.2.2.2.2.2.1
                            have hBw110_w107 := hI.2.2.2.2.2.2.2.2.2
                            replace hS := ((((((((((((hS.nil).cons (hS.get 12 rfl)).cons (hS.get 11 rfl)).cons (hS.get 10 rfl)).cons (hS.get 9 rfl)).cons (hS.get 8 rfl)).cons (hS.get 7 rfl)).cons (hS.get 6 rfl)).cons (hS.get 5 rfl)).cons (hS.get 4 rfl)).cons (hS.get 3 rfl)).cons (hS.get 2 rfl)).cons (hS.get 0 rfl)
                            have hv101 : sl _ 101 = .agg #[.int .u64 a6_0, .int .i64 a6_1] := hp 0 (by decide)
                            have hv102 : sl _ 102 = .pointer (some ⟨g100, 9, none⟩) := hp 1 (by decide)
                            have hBw110_w110 := Below.refl w110.heap.size w110
                            have hS := hS.cons hv101
                            have hS := hS.cons hv102
                            clear hp hI hv101 hv102
                            show wpList _ _ _ [_] _ _
                            refine list_step rfl (does_store (g := g100) (off := 9) (v := .agg #[.int .u64 a6_0, .int .i64 a6_1]) (new := #[.int .i64 t81_1, .int .i64 t81_2, .int .i64 t81_3, .int .i64 t81_4, .int .u64 t81_5, .int .i64 t81_6, .int .i64 t81_7, .int .i64 t81_8, .int .i64 t81_9, .int .u64 a6_0, .int .i64 a6_1, .int .i64 t81_12, .int .i64 t81_13, .int .i64 t81_14, .int .i64 t81_15, .int .i64 t81_16, .int .i64 t81_17, .int .u64 t81_18, .int .i64 t81_19, .int .i64 t81_20, .int .i64 t81_21, .int .i64 t81_22, .int .i64 t81_23]) rfl (hS.get 0 rfl) (hS.get 1 rfl) ((hBw110_w107.block g100 (blk_lt hbxw107)).trans hbxw107) (by kernel_rfl) (by kernel_rfl) (by kernel_rfl) (by kernel_rfl)) ?_
                            rintro vw111 w111 ⟨rfl, hbxw111, hT⟩
                            have hBw111_w := hT.below hBw110_w (Nat.le_trans (hBw96_w).size hgeg100) (hBw110_w).size
                            have hBw111_w3 := hT.below hBw110_w3 (Nat.le_trans (hBw96_w3).size hgeg100) (hBw110_w3).size
                            have hBw111_w5 := hT.below hBw110_w5 (Nat.le_trans (hBw96_w5).size hgeg100) (hBw110_w5).size
                            have hBw111_w9 := hT.below hBw110_w9 (Nat.le_trans (hBw96_w9).size hgeg100) (hBw110_w9).size
                            have hBw111_w14 := hT.below hBw110_w14 (Nat.le_trans (hBw96_w14).size hgeg100) (hBw110_w14).size
                            have hBw111_w74 := hT.below hBw110_w74 (Nat.le_trans (hBw96_w74).size hgeg100) (hBw110_w74).size
                            have hBw111_w78 := hT.below hBw110_w78 (Nat.le_trans (hBw96_w78).size hgeg100) (hBw110_w78).size
                            have hBw111_w90 := hT.below hBw110_w90 (Nat.le_trans (hBw96_w90).size hgeg100) (hBw110_w90).size
                            have hBw111_w96 := hT.below hBw110_w96 hgeg100 (hBw110_w96).size
                            have hBw111_w111 := Below.refl w111.heap.size w111
                            clear hT
                            refine wpList_nil ?_
                            refine hK108 _ _ ?_
                            clear hK108 K108
                            refine wp_seq_k (fun K112 hK112 => ?_)
                            refine wp_seq_k (fun K113 hK113 => ?_)
                            refine reg_seq (N := 144) (bs := [(102, .pointer (some ⟨g100, 9, none⟩)), (101, .agg #[.int .u64 a6_0, .int .i64 a6_1]), (21, .pointer (some ⟨g100, 0, none⟩)), (99, .bool (!decide (t81_9 = t30))), (19, .pointer (some ⟨g84, 0, none⟩)), (65, .bool t75_1), (18, .pointer (some ⟨g40, 0, none⟩)), (17, .int .i64 t30), (16, .int .i64 t29), (31, .bool false), (15, .pointer (some ⟨g20, 0, none⟩)), (14, .bool false), (13, .pointer (some ⟨g10, 0, none⟩)), (7, .pointer (some ⟨g4, 0, none⟩))]) (I := fun x => Below w.heap.size w x ∧ Below w3.heap.size w3 x ∧ Below w5.heap.size w5 x ∧ Below w9.heap.size w9 x ∧ Below w14.heap.size w14 x ∧ Below w74.heap.size w74 x ∧ Below w78.heap.size w78 x ∧ Below w90.heap.size w90 x ∧ Below w96.heap.size w96 x ∧ Below w111.heap.size w111 x) (ps := [IsV (.agg #[.int .u64 a6_0, .int .i64 a6_1]), IsV (.agg #[.int .u64 a0_0, .int .i64 a0_1]), IsV (.bool (!((a6_0 == a0_0) && (a6_1 == a0_1))))]) (by kernel_rfl) ?_ ?_ rfl hS ⟨hBw111_w, hBw111_w3, hBw111_w5, hBw111_w9, hBw111_w14, hBw111_w74, hBw111_w78, hBw111_w90, hBw111_w96, hBw111_w111⟩ ?_ ?_
                            · exact fun x y hI hb => ⟨below_step hI.1 hb, below_step hI.2.1 hb, below_step hI.2.2.1 hb, below_step hI.2.2.2.1 hb, below_step hI.2.2.2.2.1 hb, below_step hI.2.2.2.2.2.1 hb, below_step hI.2.2.2.2.2.2.1 hb, below_step hI.2.2.2.2.2.2.2.1 hb, below_step hI.2.2.2.2.2.2.2.2.1 hb, below_step hI.2.2.2.2.2.2.2.2.2 hb⟩
                            · exact AllStay.cons (Stays.v _) (AllStay.cons (Stays.v _) (AllStay.cons (Stays.v _) (AllStay.nil)))
                            · refine Steps.cons (fun a w hS hI hp => ok_on rfl (does_loadrow rfl (hS.get 12 rfl) (((hI.2.2.2.1).block g10 (blk_lt hbxg10)).trans hbxg10) Try.underlying24 rfl (by kernel_rfl) rfl)) ?_
                              refine Steps.cons (fun a w hS hI hp => ok_on rfl (does_loadrow rfl (hS.get 13 rfl) (((hI.2.1).block g4 (blk_lt hbxg4)).trans hbxg4) Try.underlying24 rfl (by kernel_rfl) rfl)) ?_
                              refine Steps.cons (fun a w hS hI hp => ok_on rfl (does_val (x_bin rfl ((hp.get 0 (by rfl) rfl rfl)) ((hp.get 1 (by rfl) rfl rfl)) (carillonlaw17_DelayRound.neq24 _ _ _ a6_0 a6_1 a0_0 a0_1)) rfl)) ?_
                              exact Steps.nil
                            clear hS
                            intro at114 w115 hS hI hp
                            have hBw115_w := hI.1
                            have hBw115_w3 := hI.2.1
                            have hBw115_w5 := hI.2.2.1
                            have hBw115_w9 := hI.2.2.2.1
                            have hBw115_w14 := hI.2.2.2.2.1
                            have hBw115_w74 := hI.2.2.2.2.2.1
                            have hBw115_w78 := hI.2.2.2.2.2.2.1
                            have hBw115_w90 := hI.2.2.2.2.2.2.2.1
                            have hBw115_w96 := hI.2.2.2.2.2.2.2.2.1
                            have hBw115_w111 := hI.2.2.2.2.2.2.2.2.2
                            replace hS := ((((((((((hS.nil).cons (hS.get 11 rfl)).cons (hS.get 10 rfl)).cons (hS.get 9 rfl)).cons (hS.get 8 rfl)).cons (hS.get 7 rfl)).cons (hS.get 6 rfl)).cons (hS.get 5 rfl)).cons (hS.get 4 rfl)).cons (hS.get 3 rfl)).cons (hS.get 2 rfl)
                            have hv105 : sl _ 105 = .bool (!((a6_0 == a0_0) && (a6_1 == a0_1))) := hp 2 (by decide)
                            have hBw115_w115 := Below.refl w115.heap.size w115
                            have hS := hS.cons hv105
                            clear hp hI hv105
                            refine hK113 _ _ ?_
                            clear hK113 K113
                            refine wp_cond_false ((hS.get 0 rfl).trans (bF (congrArg (!·) c10))) ?_
                            refine wp_skip ?_
                            refine hK112 _ _ ?_
                            clear hK112 K112
                            refine wp_seq_k (fun K116 hK116 => ?_)
                            refine reg_seq_tail 2 (N := 144) (bs := [(105, .bool (!((a6_0 == a0_0) && (a6_1 == a0_1)))), (21, .pointer (some ⟨g100, 0, none⟩)), (99, .bool (!decide (t81_9 = t30))), (19, .pointer (some ⟨g84, 0, none⟩)), (65, .bool t75_1), (18, .pointer (some ⟨g40, 0, none⟩)), (17, .int .i64 t30), (16, .int .i64 t29), (31, .bool false), (15, .pointer (some ⟨g20, 0, none⟩)), (14, .bool false)]) (I := fun x => Below w.heap.size w x ∧ Below w3.heap.size w3 x ∧ Below w5.heap.size w5 x ∧ Below w9.heap.size w9 x ∧ Below w14.heap.size w14 x ∧ Below w74.heap.size w74 x ∧ Below w78.heap.size w78 x ∧ Below w90.heap.size w90 x ∧ Below w96.heap.size w96 x ∧ Below w111.heap.size w111 x ∧ Below w115.heap.size w115 x) (ps := [IsV (.pointer (some ⟨g20, 0, none⟩)), IsV (.agg #[.int .i64 t81_1, .int .i64 t81_2, .int .i64 t81_3, .int .i64 t81_4, .int .u64 t81_5, .int .i64 t81_6, .int .i64 t81_7, .int .i64 t81_8, .int .i64 t81_9, .int .u64 t81_10, .int .i64 t81_11, .int .i64 t81_12, .int .i64 t81_13, .int .i64 t81_14, .int .i64 t81_15, .int .i64 t81_16, .int .i64 t81_17, .int .u64 t81_18, .int .i64 t81_19, .int .i64 t81_20, .int .i64 t81_21, .int .i64 t81_22, .int .i64 t81_23])]) (by kernel_rfl) ?_ ?_ rfl hS ⟨hBw115_w, hBw115_w3, hBw115_w5, hBw115_w9, hBw115_w14, hBw115_w74, hBw115_w78, hBw115_w90, hBw115_w96, hBw115_w111, hBw115_w115⟩ ?_ ?_
                            · exact fun x y hI hb => ⟨below_step hI.1 hb, below_step hI.2.1 hb, below_step hI.2.2.1 hb, below_step hI.2.2.2.1 hb, below_step hI.2.2.2.2.1 hb, below_step hI.2.2.2.2.2.1 hb, below_step hI.2.2.2.2.2.2.1 hb, below_step hI.2.2.2.2.2.2.2.1 hb, below_step hI.2.2.2.2.2.2.2.2.1 hb, below_step hI.2.2.2.2.2.2.2.2.2.1 hb, below_step hI.2.2.2.2.2.2.2.2.2.2 hb⟩
                            · exact AllStay.cons (Stays.v _) (AllStay.cons (Stays.v _) (AllStay.nil))
                            · refine Steps.cons (fun a w hS hI hp => ok_on rfl (does_val (x_move rfl (hS.get 9 rfl)) rfl)) ?_
                              refine Steps.cons (fun a w hS hI hp => ok_on rfl (does_loadrow rfl (hS.get 3 rfl) (((hI.2.2.2.2.2.2.2.1).block g84 (blk_lt hbxw90)).trans hbxw90) Try.underlying34 rfl (by kernel_rfl) rfl)) ?_
                              exact Steps.nil
                            clear hS
                            intro at117 w118 hS hI hp
                            have hBw118_w := hI.1
                            have hBw118_w3 := hI.2.1
                            have hBw118_w5 := hI.2.2.1
                            have hBw118_w9 := hI.2.2.2.1
                            have hBw118_w14 := hI.2.2.2.2.1
                            have hBw118_w74 := hI.2.2.2.2.2.1
                            have hBw118_w78 := hI.2.2.2.2.2.2.1
                            have hBw118_w90 := hI.2.2.2.2.2.2.2.1
                            have hBw118_w96 := hI.2.2.2.2.2.2.2.2.1
                            have hBw118_w111 := hI.2.2.2.2.2.2.2.2.2.1
                            have hBw118_w115 := hI.2.2.2.2.2.2.2.2.2.2
                            replace hS := ((((((((((hS.nil).cons (hS.get 10 rfl)).cons (hS.get 9 rfl)).cons (hS.get 8 rfl)).cons (hS.get 7 rfl)).cons (hS.get 6 rfl)).cons (hS.get 5 rfl)).cons (hS.get 4 rfl)).cons (hS.get 3 rfl)).cons (hS.get 2 rfl)).cons (hS.get 0 rfl)
                            have hv114 : sl _ 114 = .pointer (some ⟨g20, 0, none⟩) := hp 0 (by decide)
                            have hv115 : sl _ 115 = .agg #[.int .i64 t81_1, .int .i64 t81_2, .int .i64 t81_3, .int .i64 t81_4, .int .u64 t81_5, .int .i64 t81_6, .int .i64 t81_7, .int .i64 t81_8, .int .i64 t81_9, .int .u64 t81_10, .int .i64 t81_11, .int .i64 t81_12, .int .i64 t81_13, .int .i64 t81_14, .int .i64 t81_15, .int .i64 t81_16, .int .i64 t81_17, .int .u64 t81_18, .int .i64 t81_19, .int .i64 t81_20, .int .i64 t81_21, .int .i64 t81_22, .int .i64 t81_23] := hp 1 (by decide)
                            have hBw118_w118 := Below.refl w118.heap.size w118
                            have hS := hS.cons hv114
                            have hS := hS.cons hv115
                            clear hp hI hv114 hv115
                            show wpList _ _ _ [_, _, _, _, _, _] _ _
                            refine list_step rfl (R := fun v w' => v = .tuple #[.int .i64 t120_1, .bool t120_2] ∧ w'.heap[g20]? = some (.cells #[.int .u64 t120_3, .int .i64 t120_4, .int .i64 t120_5, .int .i64 t120_6, .int .i64 t120_7, .bool t120_8, .bool t120_9] 54 (0, 0)) ∧ Tch g20 _ w') (does_call (by kernel_rfl) (ar2 (hS.get 1 rfl) (hS.get 0 rfl)) ((delay_Exchange_Response.calls g20 t75_2 t75_3 t75_4 t75_5 t75_6 t75_7 t75_8 t81_1 t81_2 t81_3 t81_4 t81_5 t81_6 t81_7 t81_8 t81_9 t81_10 t81_11 t81_12 t81_13 t81_14 t81_15 t81_16 t81_17 t81_18 t81_19 t81_20 t81_21 t81_22 t81_23 t120_1 t120_2 t120_3 t120_4 t120_5 t120_6 t120_7 t120_8 t120_9 _ ((hBw118_w74.block g20 (blk_lt hbxw74)).trans hbxw74) At120).mono fun _ _ h => ⟨_, h.1, rfl, h.2⟩)) ?_
                            rintro vw119 w119 ⟨rfl, hbxw119, hT⟩
                            have hn121 := hT.blk ((hBw118_w74.block g40 (blk_lt hn76)).trans hn76) hne44
                            have hn122 := hT.blk ((hBw118_w90.block g84 (blk_lt hbxw90)).trans hbxw90) hne88
                            have hn123 := hT.blk ((hBw118_w111.block g100 (blk_lt hbxw111)).trans hbxw111) hne104
                            have hBw119_w := hT.below hBw118_w (Nat.le_trans (hBw14_w).size hgeg20) (hBw118_w).size
                            have hBw119_w3 := hT.below hBw118_w3 (Nat.le_trans (hBw14_w3).size hgeg20) (hBw118_w3).size
                            have hBw119_w5 := hT.below hBw118_w5 (Nat.le_trans (hBw14_w5).size hgeg20) (hBw118_w5).size
                            have hBw119_w9 := hT.below hBw118_w9 (Nat.le_trans (hBw14_w9).size hgeg20) (hBw118_w9).size
                            have hBw119_w14 := hT.below hBw118_w14 hgeg20 (hBw118_w14).size
                            have hBw119_w119 := Below.refl w119.heap.size w119
                            clear hT
                            refine hS.next (v := .tuple #[.int .i64 t120_1, .bool t120_2]) (d := 116) rfl (by decide) (by rfl) ?_
                            clear hS
                            intro at124 hS
                            refine list_step rfl (R := fun v w' => Below _ _ w' ∧ (IsV (.tuple #[.int .i64 t120_1, .bool t120_2])) v w') (does_val (x_move rfl (hS.get 0 rfl)) rfl) ?_
                            rintro vw125 w125 ⟨hb, he⟩
                            have hBw125_w := below_step hBw119_w hb
                            have hBw125_w3 := below_step hBw119_w3 hb
                            have hBw125_w5 := below_step hBw119_w5 hb
                            have hBw125_w9 := below_step hBw119_w9 hb
                            have hBw125_w14 := below_step hBw119_w14 hb
                            have hBw125_w119 := below_step hBw119_w119 hb
                            have hBw125_w125 := Below.refl w125.heap.size w125
                            obtain rfl : vw125 = .tuple #[.int .i64 t120_1, .bool t120_2] := he
                            refine hS.next (v := .tuple #[.int .i64 t120_1, .bool t120_2]) (d := 113) rfl (by decide) (by rfl) ?_
                            clear hS
                            intro at126 hS
                            refine list_step rfl (R := fun v w' => Below _ _ w' ∧ (IsV (.int .i64 t120_1)) v w') (does_val (x_extract rfl (hS.get 0 rfl) rfl) rfl) ?_
                            rintro vw127 w127 ⟨hb, he⟩
                            have hBw127_w := below_step hBw125_w hb
                            have hBw127_w3 := below_step hBw125_w3 hb
                            have hBw127_w5 := below_step hBw125_w5 hb
                            have hBw127_w9 := below_step hBw125_w9 hb
                            have hBw127_w14 := below_step hBw125_w14 hb
                            have hBw127_w119 := below_step hBw125_w119 hb
                            have hBw127_w125 := below_step hBw125_w125 hb
                            have hBw127_w127 := Below.refl w127.heap.size w127
                            obtain rfl : vw127 = .int .i64 t120_1 := he
                            refine hS.next (v := .int .i64 t120_1) (d := 117) rfl (by decide) (by rfl) ?_
                            clear hS
                            intro at128 hS
                            refine list_step rfl (R := fun v w' => Below _ _ w' ∧ (IsV (.bool t120_2)) v w') (does_val (x_extract rfl (hS.get 1 rfl) rfl) rfl) ?_
                            rintro vw129 w129 ⟨hb, he⟩
                            have hBw129_w := below_step hBw127_w hb
                            have hBw129_w3 := below_step hBw127_w3 hb
                            have hBw129_w5 := below_step hBw127_w5 hb
                            have hBw129_w9 := below_step hBw127_w9 hb
                            have hBw129_w14 := below_step hBw127_w14 hb
                            have hBw129_w119 := below_step hBw127_w119 hb
                            have hBw129_w127 := below_step hBw127_w127 hb
                            have hBw129_w129 := Below.refl w129.heap.size w129
                            obtain rfl : vw129 = .bool t120_2 := he
                            refine hS.next (v := .bool t120_2) (d := 118) rfl (by decide) (by rfl) ?_
                            clear hS
                            intro at130 hS
                            refine list_step rfl (R := fun v w' => Below _ _ w' ∧ (IsV (.int .i64 t120_1)) v w') (does_val (x_assign rfl (hS.get 1 rfl)) rfl) ?_
                            rintro vw131 w131 ⟨hb, he⟩
                            have hBw131_w := below_step hBw129_w hb
                            have hBw131_w3 := below_step hBw129_w3 hb
                            have hBw131_w5 := below_step hBw129_w5 hb
                            have hBw131_w9 := below_step hBw129_w9 hb
                            have hBw131_w14 := below_step hBw129_w14 hb
                            have hBw131_w119 := below_step hBw129_w119 hb
                            have hBw131_w129 := below_step hBw129_w129 hb
                            have hBw131_w131 := Below.refl w131.heap.size w131
                            obtain rfl : vw131 = .int .i64 t120_1 := he
                            refine hS.next (v := .int .i64 t120_1) (d := 24) rfl (by decide) (by rfl) ?_
                            clear hS
                            intro at132 hS
                            refine list_step rfl (R := fun v w' => Below _ _ w' ∧ (IsV (.bool t120_2)) v w') (does_val (x_assign rfl (hS.get 1 rfl)) rfl) ?_
                            rintro vw133 w133 ⟨hb, he⟩
                            have hBw133_w := below_step hBw131_w hb
                            have hBw133_w3 := below_step hBw131_w3 hb
                            have hBw133_w5 := below_step hBw131_w5 hb
                            have hBw133_w9 := below_step hBw131_w9 hb
                            have hBw133_w14 := below_step hBw131_w14 hb
                            have hBw133_w119 := below_step hBw131_w119 hb
                            have hBw133_w131 := below_step hBw131_w131 hb
                            have hBw133_w133 := Below.refl w133.heap.size w133
                            obtain rfl : vw133 = .bool t120_2 := he
                            refine hS.next (v := .bool t120_2) (d := 25) rfl (by decide) (by rfl) ?_
                            clear hS
                            intro at134 hS
                            refine wpList_nil ?_
                            refine hK116 _ _ ?_
                            clear hK116 K116
                            refine wp_seq_k (fun K135 hK135 => ?_)
                            refine reg_seq_tail 2 (N := 144) (bs := [(25, .bool t120_2), (24, .int .i64 t120_1), (118, .bool t120_2), (117, .int .i64 t120_1), (113, .tuple #[.int .i64 t120_1, .bool t120_2]), (116, .tuple #[.int .i64 t120_1, .bool t120_2]), (115, .agg #[.int .i64 t81_1, .int .i64 t81_2, .int .i64 t81_3, .int .i64 t81_4, .int .u64 t81_5, .int .i64 t81_6, .int .i64 t81_7, .int .i64 t81_8, .int .i64 t81_9, .int .u64 t81_10, .int .i64 t81_11, .int .i64 t81_12, .int .i64 t81_13, .int .i64 t81_14, .int .i64 t81_15, .int .i64 t81_16, .int .i64 t81_17, .int .u64 t81_18, .int .i64 t81_19, .int .i64 t81_20, .int .i64 t81_21, .int .i64 t81_22, .int .i64 t81_23]), (114, .pointer (some ⟨g20, 0, none⟩)), (105, .bool (!((a6_0 == a0_0) && (a6_1 == a0_1)))), (99, .bool (!decide (t81_9 = t30))), (19, .pointer (some ⟨g84, 0, none⟩)), (65, .bool t75_1), (18, .pointer (some ⟨g40, 0, none⟩)), (17, .int .i64 t30), (16, .int .i64 t29), (31, .bool false), (15, .pointer (some ⟨g20, 0, none⟩)), (14, .bool false)]) (I := fun x => Below w.heap.size w x ∧ Below w3.heap.size w3 x ∧ Below w5.heap.size w5 x ∧ Below w9.heap.size w9 x ∧ Below w14.heap.size w14 x ∧ Below w119.heap.size w119 x ∧ Below w133.heap.size w133 x) (ps := [IsV (.pointer (some ⟨g20, 0, none⟩)), IsV (.agg #[.int .i64 t81_1, .int .i64 t81_2, .int .i64 t81_3, .int .i64 t81_4, .int .u64 t81_5, .int .i64 t81_6, .int .i64 t81_7, .int .i64 t81_8, .int .i64 t81_9, .int .u64 t81_10, .int .i64 t81_11, .int .i64 t81_12, .int .i64 t81_13, .int .i64 t81_14, .int .i64 t81_15, .int .i64 t81_16, .int .i64 t81_17, .int .u64 t81_18, .int .i64 t81_19, .int .i64 t81_20, .int .i64 t81_21, .int .i64 t81_22, .int .i64 t81_23])]) (by kernel_rfl) ?_ ?_ rfl hS ⟨hBw133_w, hBw133_w3, hBw133_w5, hBw133_w9, hBw133_w14, hBw133_w119, hBw133_w133⟩ ?_ ?_
                            · exact fun x y hI hb => ⟨below_step hI.1 hb, below_step hI.2.1 hb, below_step hI.2.2.1 hb, below_step hI.2.2.2.1 hb, below_step hI.2.2.2.2.1 hb, below_step hI.2.2.2.2.2.1 hb, below_step hI.2.2.2.2.2.2 hb⟩
                            · exact AllStay.cons (Stays.v _) (AllStay.cons (Stays.v _) (AllStay.nil))
                            · refine Steps.cons (fun a w hS hI hp => ok_on rfl (does_val (x_move rfl (hS.get 16 rfl)) rfl)) ?_
                              refine Steps.cons (fun a w hS hI hp => ok_on rfl (does_loadrow rfl (hS.get 10 rfl) (((hI.2.2.2.2.2.1).block g84 (blk_lt hn122)).trans hn122) Try.underlying34 rfl (by kernel_rfl) rfl)) ?_
                              exact Steps.nil
                            clear hS
                            intro at136 w137 hS hI hp
                            have hBw137_w := hI.1
                            have hBw137_w3 := hI.2.1
                            have hBw137_w5 := hI.2.2.1
                            have hBw137_w9 := hI.2.2.2.1
                            have hBw137_w14 := hI.2.2.2.2.1
                            have hBw137_w119 := hI.2.2.2.2.2.1
                            have hBw137_w133 := hI.2.2.2.2.2.2
                            replace hS := ((((((((((hS.nil).cons (hS.get 17 rfl)).cons (hS.get 15 rfl)).cons (hS.get 14 rfl)).cons (hS.get 13 rfl)).cons (hS.get 12 rfl)).cons (hS.get 11 rfl)).cons (hS.get 9 rfl)).cons (hS.get 8 rfl)).cons (hS.get 1 rfl)).cons (hS.get 0 rfl)
                            have hv120 : sl _ 120 = .pointer (some ⟨g20, 0, none⟩) := hp 0 (by decide)
                            have hv121 : sl _ 121 = .agg #[.int .i64 t81_1, .int .i64 t81_2, .int .i64 t81_3, .int .i64 t81_4, .int .u64 t81_5, .int .i64 t81_6, .int .i64 t81_7, .int .i64 t81_8, .int .i64 t81_9, .int .u64 t81_10, .int .i64 t81_11, .int .i64 t81_12, .int .i64 t81_13, .int .i64 t81_14, .int .i64 t81_15, .int .i64 t81_16, .int .i64 t81_17, .int .u64 t81_18, .int .i64 t81_19, .int .i64 t81_20, .int .i64 t81_21, .int .i64 t81_22, .int .i64 t81_23] := hp 1 (by decide)
                            have hBw137_w137 := Below.refl w137.heap.size w137
                            have hS := hS.cons hv120
                            have hS := hS.cons hv121
                            clear hp hI hv120 hv121
                            show wpList _ _ _ [_, _, _, _, _, _] _ _
                            refine list_step rfl (R := fun v w' => v = .tuple #[.int .i64 t139_1, .bool t139_2] ∧ w'.heap[g20]? = some (.cells #[.int .u64 t139_3, .int .i64 t139_4, .int .i64 t139_5, .int .i64 t139_6, .int .i64 t139_7, .bool t139_8, .bool t139_9] 54 (0, 0)) ∧ Tch g20 _ w') (does_call (by kernel_rfl) (ar2 (hS.get 1 rfl) (hS.get 0 rfl)) ((delay_Exchange_Response.calls g20 t120_3 t120_4 t120_5 t120_6 t120_7 t120_8 t120_9 t81_1 t81_2 t81_3 t81_4 t81_5 t81_6 t81_7 t81_8 t81_9 t81_10 t81_11 t81_12 t81_13 t81_14 t81_15 t81_16 t81_17 t81_18 t81_19 t81_20 t81_21 t81_22 t81_23 t139_1 t139_2 t139_3 t139_4 t139_5 t139_6 t139_7 t139_8 t139_9 _ ((hBw137_w119.block g20 (blk_lt hbxw119)).trans hbxw119) At139).mono fun _ _ h => ⟨_, h.1, rfl, h.2⟩)) ?_
                            rintro vw138 w138 ⟨rfl, hbxw138, hT⟩
                            have hn140 := hT.blk ((hBw137_w119.block g40 (blk_lt hn121)).trans hn121) hne44
                            have hn141 := hT.blk ((hBw137_w119.block g84 (blk_lt hn122)).trans hn122) hne88
                            have hn142 := hT.blk ((hBw137_w119.block g100 (blk_lt hn123)).trans hn123) hne104
                            have hBw138_w := hT.below hBw137_w (Nat.le_trans (hBw14_w).size hgeg20) (hBw137_w).size
                            have hBw138_w3 := hT.below hBw137_w3 (Nat.le_trans (hBw14_w3).size hgeg20) (hBw137_w3).size
                            have hBw138_w5 := hT.below hBw137_w5 (Nat.le_trans (hBw14_w5).size hgeg20) (hBw137_w5).size
                            have hBw138_w9 := hT.below hBw137_w9 (Nat.le_trans (hBw14_w9).size hgeg20) (hBw137_w9).size
                            have hBw138_w14 := hT.below hBw137_w14 hgeg20 (hBw137_w14).size
                            have hBw138_w138 := Below.refl w138.heap.size w138
                            clear hT
                            refine hS.next (v := .tuple #[.int .i64 t139_1, .bool t139_2]) (d := 122) rfl (by decide) (by rfl) ?_
                            clear hS
                            intro at143 hS
                            refine list_step rfl (R := fun v w' => Below _ _ w' ∧ (IsV (.tuple #[.int .i64 t139_1, .bool t139_2])) v w') (does_val (x_move rfl (hS.get 0 rfl)) rfl) ?_
                            rintro vw144 w144 ⟨hb, he⟩
                            have hBw144_w := below_step hBw138_w hb
                            have hBw144_w3 := below_step hBw138_w3 hb
                            have hBw144_w5 := below_step hBw138_w5 hb
                            have hBw144_w9 := below_step hBw138_w9 hb
                            have hBw144_w14 := below_step hBw138_w14 hb
                            have hBw144_w138 := below_step hBw138_w138 hb
                            have hBw144_w144 := Below.refl w144.heap.size w144
                            obtain rfl : vw144 = .tuple #[.int .i64 t139_1, .bool t139_2] := he
                            refine hS.next (v := .tuple #[.int .i64 t139_1, .bool t139_2]) (d := 119) rfl (by decide) (by rfl) ?_
                            clear hS
                            intro at145 hS
                            refine list_step rfl (R := fun v w' => Below _ _ w' ∧ (IsV (.int .i64 t139_1)) v w') (does_val (x_extract rfl (hS.get 0 rfl) rfl) rfl) ?_
                            rintro vw146 w146 ⟨hb, he⟩
                            have hBw146_w := below_step hBw144_w hb
                            have hBw146_w3 := below_step hBw144_w3 hb
                            have hBw146_w5 := below_step hBw144_w5 hb
                            have hBw146_w9 := below_step hBw144_w9 hb
                            have hBw146_w14 := below_step hBw144_w14 hb
                            have hBw146_w138 := below_step hBw144_w138 hb
                            have hBw146_w144 := below_step hBw144_w144 hb
                            have hBw146_w146 := Below.refl w146.heap.size w146
                            obtain rfl : vw146 = .int .i64 t139_1 := he
                            refine hS.next (v := .int .i64 t139_1) (d := 123) rfl (by decide) (by rfl) ?_
                            clear hS
                            intro at147 hS
                            refine list_step rfl (R := fun v w' => Below _ _ w' ∧ (IsV (.bool t139_2)) v w') (does_val (x_extract rfl (hS.get 1 rfl) rfl) rfl) ?_
                            rintro vw148 w148 ⟨hb, he⟩
                            have hBw148_w := below_step hBw146_w hb
                            have hBw148_w3 := below_step hBw146_w3 hb
                            have hBw148_w5 := below_step hBw146_w5 hb
                            have hBw148_w9 := below_step hBw146_w9 hb
                            have hBw148_w14 := below_step hBw146_w14 hb
                            have hBw148_w138 := below_step hBw146_w138 hb
                            have hBw148_w146 := below_step hBw146_w146 hb
                            have hBw148_w148 := Below.refl w148.heap.size w148
                            obtain rfl : vw148 = .bool t139_2 := he
                            refine hS.next (v := .bool t139_2) (d := 124) rfl (by decide) (by rfl) ?_
                            clear hS
                            intro at149 hS
                            refine list_step rfl (R := fun v w' => Below _ _ w' ∧ (IsV (.int .i64 t139_1)) v w') (does_val (x_assign rfl (hS.get 1 rfl)) rfl) ?_
                            rintro vw150 w150 ⟨hb, he⟩
                            have hBw150_w := below_step hBw148_w hb
                            have hBw150_w3 := below_step hBw148_w3 hb
                            have hBw150_w5 := below_step hBw148_w5 hb
                            have hBw150_w9 := below_step hBw148_w9 hb
                            have hBw150_w14 := below_step hBw148_w14 hb
                            have hBw150_w138 := below_step hBw148_w138 hb
                            have hBw150_w148 := below_step hBw148_w148 hb
                            have hBw150_w150 := Below.refl w150.heap.size w150
                            obtain rfl : vw150 = .int .i64 t139_1 := he
                            refine hS.next (v := .int .i64 t139_1) (d := 26) rfl (by decide) (by rfl) ?_
                            clear hS
                            intro at151 hS
                            refine list_step rfl (R := fun v w' => Below _ _ w' ∧ (IsV (.bool t139_2)) v w') (does_val (x_assign rfl (hS.get 1 rfl)) rfl) ?_
                            rintro vw152 w152 ⟨hb, he⟩
                            have hBw152_w := below_step hBw150_w hb
                            have hBw152_w3 := below_step hBw150_w3 hb
                            have hBw152_w5 := below_step hBw150_w5 hb
                            have hBw152_w9 := below_step hBw150_w9 hb
                            have hBw152_w14 := below_step hBw150_w14 hb
                            have hBw152_w138 := below_step hBw150_w138 hb
                            have hBw152_w150 := below_step hBw150_w150 hb
                            have hBw152_w152 := Below.refl w152.heap.size w152
                            obtain rfl : vw152 = .bool t139_2 := he
                            refine hS.next (v := .bool t139_2) (d := 27) rfl (by decide) (by rfl) ?_
                            clear hS
                            intro at153 hS
                            refine wpList_nil ?_
                            refine hK135 _ _ ?_
                            clear hK135 K135
                            refine wp_seq_k (fun K154 hK154 => ?_)
                            replace hS := (((((((((((((((((hS.nil).cons (hS.get 16 rfl)).cons (hS.get 15 rfl)).cons (hS.get 14 rfl)).cons (hS.get 13 rfl)).cons (hS.get 12 rfl)).cons (hS.get 11 rfl)).cons (hS.get 10 rfl)).cons (hS.get 9 rfl)).cons (hS.get 8 rfl)).cons (hS.get 7 rfl)).cons (hS.get 6 rfl)).cons (hS.get 5 rfl)).cons (hS.get 4 rfl)).cons (hS.get 3 rfl)).cons (hS.get 2 rfl)).cons (hS.get 1 rfl)).cons (hS.get 0 rfl)
                            refine reg_seq (N := 144) (bs := [(27, .bool t139_2), (26, .int .i64 t139_1), (124, .bool t139_2), (123, .int .i64 t139_1), (119, .tuple #[.int .i64 t139_1, .bool t139_2]), (122, .tuple #[.int .i64 t139_1, .bool t139_2]), (121, .agg #[.int .i64 t81_1, .int .i64 t81_2, .int .i64 t81_3, .int .i64 t81_4, .int .u64 t81_5, .int .i64 t81_6, .int .i64 t81_7, .int .i64 t81_8, .int .i64 t81_9, .int .u64 t81_10, .int .i64 t81_11, .int .i64 t81_12, .int .i64 t81_13, .int .i64 t81_14, .int .i64 t81_15, .int .i64 t81_16, .int .i64 t81_17, .int .u64 t81_18, .int .i64 t81_19, .int .i64 t81_20, .int .i64 t81_21, .int .i64 t81_22, .int .i64 t81_23]), (120, .pointer (some ⟨g20, 0, none⟩)), (25, .bool t120_2), (24, .int .i64 t120_1), (105, .bool (!((a6_0 == a0_0) && (a6_1 == a0_1)))), (99, .bool (!decide (t81_9 = t30))), (65, .bool t75_1), (18, .pointer (some ⟨g40, 0, none⟩)), (17, .int .i64 t30), (16, .int .i64 t29), (31, .bool false)]) (I := fun x => Below w.heap.size w x ∧ Below w3.heap.size w3 x ∧ Below w5.heap.size w5 x ∧ Below w9.heap.size w9 x ∧ Below w14.heap.size w14 x ∧ Below w138.heap.size w138 x ∧ Below w152.heap.size w152 x) (ps := [IsV (.bool t120_2), IsV (.bool t120_2), IsV (.bool t139_2), IsV (.bool (!t139_2)), IsV (.bool (!t139_2)), IsV (.bool (!t139_2)), IsV (.int .i64 t120_1), IsV (.int .i64 t30), IsV (.int .i64 t29), IsV (.int .i64 (wrap64 (t30 - t29))), IsV (.pointer (some ⟨g40, 3, none⟩)), IsV (.int .i64 t48), IsV (.int .i64 (wrap64 (Int.tdiv t48 65536))), IsV (.int .i64 (wrap64 ((wrap64 (t30 - t29)) - (wrap64 (Int.tdiv t48 65536))))), IsV (.bool (decide (t120_1 = (wrap64 ((wrap64 (t30 - t29)) - (wrap64 (Int.tdiv t48 65536))))))), IsV (.bool (decide (t120_1 = (wrap64 ((wrap64 (t30 - t29)) - (wrap64 (Int.tdiv t48 65536))))))), IsV (.bool (decide (t120_1 = (wrap64 ((wrap64 (t30 - t29)) - (wrap64 (Int.tdiv t48 65536))))))), IsV (.bool t155), IsV (.bool t155), IsV (.bool t155)]) (by kernel_rfl) ?_ ?_ rfl hS ⟨hBw152_w, hBw152_w3, hBw152_w5, hBw152_w9, hBw152_w14, hBw152_w138, hBw152_w152⟩ ?_ ?_
                            · exact fun x y hI hb => ⟨below_step hI.1 hb, below_step hI.2.1 hb, below_step hI.2.2.1 hb, below_step hI.2.2.2.1 hb, below_step hI.2.2.2.2.1 hb, below_step hI.2.2.2.2.2.1 hb, below_step hI.2.2.2.2.2.2 hb⟩
                            · exact AllStay.cons (Stays.v _) (AllStay.cons (Stays.v _) (AllStay.cons (Stays.v _) (AllStay.cons (Stays.v _) (AllStay.cons (Stays.v _) (AllStay.cons (Stays.v _) (AllStay.cons (Stays.v _) (AllStay.cons (Stays.v _) (AllStay.cons (Stays.v _) (AllStay.cons (Stays.v _) (AllStay.cons (Stays.v _) (AllStay.cons (Stays.v _) (AllStay.cons (Stays.v _) (AllStay.cons (Stays.v _) (AllStay.cons (Stays.v _) (AllStay.cons (Stays.v _) (AllStay.cons (Stays.v _) (AllStay.cons (Stays.v _) (AllStay.cons (Stays.v _) (AllStay.cons (Stays.v _) (AllStay.nil))))))))))))))))))))
                            · refine Steps.cons (fun a w hS hI hp => ok_on rfl (does_val (x_move rfl (hS.get 8 rfl)) rfl)) ?_
                              refine Steps.cons (fun a w hS hI hp => ok_on rfl (does_val (x_move rfl ((hp.get 0 (by rfl) rfl rfl))) rfl)) ?_
                              refine Steps.cons (fun a w hS hI hp => ok_if (d := 126) rfl rfl (by rw [hS.size]; decide) (((hp.get 1 (by rfl) rfl rfl)).trans (bT c11)) (does_val (x_move rfl (hS.get 0 rfl)) rfl)) ?_
                              refine Steps.cons (fun a w hS hI hp => ok_if (d := 126) rfl rfl (by rw [hS.size]; decide) (((hp.get 1 (by rfl) rfl rfl)).trans (bT c11)) (does_val (x_not rfl ((hp.get 2 (by rfl) rfl rfl))) rfl)) ?_
                              refine Steps.cons (fun a w hS hI hp => ok_on rfl (does_val (x_pickT rfl (((hp.get 1 (by rfl) rfl rfl)).trans (bT c11)) ((hp.get 3 (by rfl) rfl rfl))) rfl)) ?_
                              refine Steps.cons (fun a w hS hI hp => ok_on rfl (does_val (x_move rfl ((hp.get 4 (by rfl) rfl rfl))) rfl)) ?_
                              refine Steps.cons (fun a w hS hI hp => ok_if (d := 130) rfl rfl (by rw [hS.size]; decide) (((hp.get 5 (by rfl) rfl rfl)).trans (bT (congrArg (!·) (Bool.eq_false_iff.2 c12)))) (does_val (x_move rfl (hS.get 9 rfl)) rfl)) ?_
                              refine Steps.cons (fun a w hS hI hp => ok_if (d := 130) rfl rfl (by rw [hS.size]; decide) (((hp.get 5 (by rfl) rfl rfl)).trans (bT (congrArg (!·) (Bool.eq_false_iff.2 c12)))) (does_val (x_move rfl (hS.get 14 rfl)) rfl)) ?_
                              refine Steps.cons (fun a w hS hI hp => ok_if (d := 130) rfl rfl (by rw [hS.size]; decide) (((hp.get 5 (by rfl) rfl rfl)).trans (bT (congrArg (!·) (Bool.eq_false_iff.2 c12)))) (does_val (x_move rfl (hS.get 15 rfl)) rfl)) ?_
                              refine Steps.cons (fun a w hS hI hp => ok_if (d := 130) rfl rfl (by rw [hS.size]; decide) (((hp.get 5 (by rfl) rfl rfl)).trans (bT (congrArg (!·) (Bool.eq_false_iff.2 c12)))) (does_val (x_bin rfl ((hp.get 7 (by rfl) rfl rfl)) ((hp.get 8 (by rfl) rfl rfl)) (b_sub _ _ _ _ _)) rfl)) ?_
                              refine Steps.cons (fun a w hS hI hp => ok_if (d := 130) rfl rfl (by rw [hS.size]; decide) (((hp.get 5 (by rfl) rfl rfl)).trans (bT (congrArg (!·) (Bool.eq_false_iff.2 c12)))) (does_val (x_field rfl (hS.get 13 rfl) Try.underlying34 rfl (by kernel_rfl)) rfl)) ?_
                              refine Steps.cons (fun a w hS hI hp => ok_if (d := 130) rfl rfl (by rw [hS.size]; decide) (((hp.get 5 (by rfl) rfl rfl)).trans (bT (congrArg (!·) (Bool.eq_false_iff.2 c12)))) (does_val (x_load1 (d := .int .i64) rfl ((hp.get 10 (by rfl) rfl rfl)) (by kernel_rfl) rfl ((blk_cell (((hI.2.2.2.2.2.1).block g40 (blk_lt hn140)).trans hn140) 3).trans rfl)) rfl)) ?_
                              refine Steps.cons (fun a w hS hI hp => ok_if (d := 130) rfl rfl (by rw [hS.size]; decide) (((hp.get 5 (by rfl) rfl rfl)).trans (bT (congrArg (!·) (Bool.eq_false_iff.2 c12)))) (does_val (x_bin rfl ((hp.get 11 (by rfl) rfl rfl)) (rfl) (b_quo _ _ _ _ _ (by decide))) rfl)) ?_
                              refine Steps.cons (fun a w hS hI hp => ok_if (d := 130) rfl rfl (by rw [hS.size]; decide) (((hp.get 5 (by rfl) rfl rfl)).trans (bT (congrArg (!·) (Bool.eq_false_iff.2 c12)))) (does_val (x_bin rfl ((hp.get 9 (by rfl) rfl rfl)) ((hp.get 12 (by rfl) rfl rfl)) (b_sub _ _ _ _ _)) rfl)) ?_
                              refine Steps.cons (fun a w hS hI hp => ok_if (d := 130) rfl rfl (by rw [hS.size]; decide) (((hp.get 5 (by rfl) rfl rfl)).trans (bT (congrArg (!·) (Bool.eq_false_iff.2 c12)))) (does_val (x_bin rfl ((hp.get 6 (by rfl) rfl rfl)) ((hp.get 13 (by rfl) rfl rfl)) (b_eql _ _ _ _ _ _)) rfl)) ?_
                              refine Steps.cons (fun a w hS hI hp => ok_on rfl (does_val (x_pickT rfl (((hp.get 5 (by rfl) rfl rfl)).trans (bT (congrArg (!·) (Bool.eq_false_iff.2 c12)))) ((hp.get 14 (by rfl) rfl rfl))) rfl)) ?_
                              refine Steps.cons (fun a w hS hI hp => ok_on rfl (does_val (x_move rfl ((hp.get 15 (by rfl) rfl rfl))) rfl)) ?_
                              refine Steps.cons (fun a w hS hI hp => ok_if (d := 141) rfl rfl (by rw [hS.size]; decide) (((hp.get 16 (by rfl) rfl rfl)).trans (bT (decide_eq_true c13))) (does_call (by kernel_rfl) rfl ((carillonlaw17_awake.calls  t155 _  At155).mono fun _ _ h => ⟨_, h.1, h.2, rfl⟩))) ?_
                              refine Steps.cons (fun a w hS hI hp => ok_on rfl (does_val (x_pickT rfl (((hp.get 16 (by rfl) rfl rfl)).trans (bT (decide_eq_true c13))) ((hp.get 17 (by rfl) rfl rfl))) rfl)) ?_
                              refine Steps.cons (fun a w hS hI hp => ok_on rfl (does_val (x_assign rfl ((hp.get 18 (by rfl) rfl rfl))) rfl)) ?_
                              exact Steps.nil
                            clear hS
                            intro at156 w157 hS hI hp
                            have hBw157_w := hI.1
                            have hBw157_w3 := hI.2.1
                            have hBw157_w5 := hI.2.2.1
                            have hBw157_w9 := hI.2.2.2.1
                            have hBw157_w14 := hI.2.2.2.2.1
                            have hBw157_w138 := hI.2.2.2.2.2.1
                            have hBw157_w152 := hI.2.2.2.2.2.2
                            replace hS := ((((hS.nil).cons (hS.get 16 rfl)).cons (hS.get 12 rfl)).cons (hS.get 11 rfl)).cons (hS.get 10 rfl)
                            have hv14 : sl _ 14 = .bool t155 := hp 19 (by decide)
                            have hBw157_w157 := Below.refl w157.heap.size w157
                            have hS := hS.cons hv14
                            clear hp hI hv14
                            refine hK154 _ _ ?_
                            clear hK154 K154
                            refine wp_ret ?_
                            (try simp only [Exit.then, Exit.inBlock])
                            exact bodyPost_ret (v := .bool true) (by rw [results_tmp rfl]; exact congrArg (Result.ok · _) ((hS.get 0 rfl).trans (congrArg Value.bool hret))) hS.nodef ⟨rfl, hBw157_w⟩
                          · rw [if_neg c13] at H
                            exact absurd H (by simp)
                      · rw [if_neg c11] at H
                        exact absurd H (by simp)
                    · rw [if_neg c10] at H
                      obtain ⟨t120, At120, H⟩ := Option.bind_eq_some_iff.mp H
                      obtain ⟨t120_1, t120_2, t120_3, t120_4, t120_5, t120_6, t120_7, t120_8, t120_9⟩ := t120
                      (try dsimp only at H)
                      by_cases c11 : t120_2 = true
                      · rw [if_pos c11] at H
                        exact absurd H (by simp)
                      · rw [if_neg c11] at H
                        obtain ⟨t142, At142, H⟩ := Option.bind_eq_some_iff.mp H
                        obtain ⟨t142_1, t142_2, t142_3, t142_4, t142_5, t142_6, t142_7, t142_8, t142_9⟩ := t142
                        (try dsimp only at H)
                        obtain ⟨t161, At161, H⟩ := Option.bind_eq_some_iff.mp H
                        obtain ⟨t161_1, t161_2, t161_3, t161_4, t161_5, t161_6, t161_7, t161_8, t161_9⟩ := t161
                        (try dsimp only at H)
                        by_cases c12 : t142_2 = true
                        · rw [if_pos c12] at H
                          by_cases c13 : t161_2 = true
                          · rw [if_pos c13] at H
                            exact absurd H (by simp)
                          · rw [if_neg c13] at H
                            by_cases c14 : t142_1 = (wrap64 ((wrap64 (t30 - t29)) - (wrap64 (Int.tdiv t48 65536))))
                            · rw [if_pos c14] at H
                              obtain ⟨t177, At177, H⟩ := Option.bind_eq_some_iff.mp H
                              have hret := Option.some.inj H
                              clear H
                              refine calls_of_wp (fn := Try.f4) (by kernel_rfl) rfl ?_
                              have hS := St.enter #[.agg #[.int .u64 a0_0, .int .i64 a0_1], .agg #[.int .u64 a1_0, .int .i64 a1_1], .int .i64 a2, .int .i64 a3, .int .i64 a4, .int .i64 a5, .agg #[.int .u64 a6_0, .int .i64 a6_1]] 144 (by simp) [(0, .agg #[.int .u64 a0_0, .int .i64 a0_1]), (1, .agg #[.int .u64 a1_0, .int .i64 a1_1]), (2, .int .i64 a2), (3, .int .i64 a3), (4, .int .i64 a4), (5, .int .i64 a5), (6, .agg #[.int .u64 a6_0, .int .i64 a6_1])] (by simp)
                              have HB0 := Below.refl w.heap.size w
                              refine wp_seq_k (fun K1 hK1 => ?_)
                              refine reg_seq_tail 1 (N := 144) (bs := [(0, .agg #[.int .u64 a0_0, .int .i64 a0_1]), (1, .agg #[.int .u64 a1_0, .int .i64 a1_1]), (2, .int .i64 a2), (3, .int .i64 a3), (4, .int .i64 a4), (5, .int .i64 a5), (6, .agg #[.int .u64 a6_0, .int .i64 a6_1])]) (I := fun x => Below w.heap.size w x) (ps := [IsB #[.int .u64 a0_0, .int .i64 a0_1] 24 w.heap.size]) (by kernel_rfl) ?_ ?_ rfl hS HB0 ?_ ?_
                              · exact fun x y hI hb => below_step hI hb
                              · exact AllStay.cons (Stays.b _ _ _) (AllStay.nil)
                              · refine Steps.cons (fun a w hS hI hp => ok_on rfl (does_var (x_box rfl (congrArg Value.cells (hS.get 0 rfl))) (hI).size)) ?_
                                exact Steps.nil
                              clear hS
                              intro at2 w3 hS hI hp
                              have hBw3_w := hI
                              replace hS := ((((((hS.nil).cons (hS.get 6 rfl)).cons (hS.get 5 rfl)).cons (hS.get 4 rfl)).cons (hS.get 3 rfl)).cons (hS.get 2 rfl)).cons (hS.get 1 rfl)
                              obtain ⟨g4, hv7, hgeg4, hbxg4⟩ := (show IsB _ 24 _ (sl _ 7) _ from hp 0 (by decide))
                              have hBw3_w3 := Below.refl w3.heap.size w3
                              have hS := hS.cons hv7
                              clear hp hI hv7
                              show wpList _ _ _ [_, _, _] _ _
                              refine list_step rfl (R := fun v w' => Below _ _ w' ∧ (IsB #[.int .u64 a1_0, .int .i64 a1_1] 24 w3.heap.size) v w') (does_var (x_box rfl (congrArg Value.cells (hS.get 1 rfl))) (hBw3_w3).size) ?_
                              rintro vw5 w5 ⟨hb, he⟩
                              have hBw5_w := below_step hBw3_w hb
                              have hBw5_w3 := below_step hBw3_w3 hb
                              have hBw5_w5 := Below.refl w5.heap.size w5
                              obtain ⟨g6, rfl, hgeg6, hbxg6⟩ := he
                              have hne7 : g6 ≠ g4 := Nat.ne_of_gt (Nat.lt_of_lt_of_le (blk_lt ((hBw3_w3.block g4 (blk_lt hbxg4)).trans hbxg4)) hgeg6)
                              refine hS.next (v := .pointer (some ⟨g6, 0, none⟩)) (d := 8) rfl (by decide) (by rfl) ?_
                              clear hS
                              intro at8 hS
                              refine list_step rfl (R := fun v w' => Below _ _ w' ∧ (IsB #[.int .u64 a6_0, .int .i64 a6_1] 24 w5.heap.size) v w') (does_var (x_box rfl (congrArg Value.cells (hS.get 7 rfl))) (hBw5_w5).size) ?_
                              rintro vw9 w9 ⟨hb, he⟩
                              have hBw9_w := below_step hBw5_w hb
                              have hBw9_w3 := below_step hBw5_w3 hb
                              have hBw9_w5 := below_step hBw5_w5 hb
                              have hBw9_w9 := Below.refl w9.heap.size w9
                              obtain ⟨g10, rfl, hgeg10, hbxg10⟩ := he
                              have hne11 : g10 ≠ g4 := Nat.ne_of_gt (Nat.lt_of_lt_of_le (blk_lt ((hBw5_w3.block g4 (blk_lt hbxg4)).trans hbxg4)) hgeg10)
                              have hne12 : g10 ≠ g6 := Nat.ne_of_gt (Nat.lt_of_lt_of_le (blk_lt ((hBw5_w5.block g6 (blk_lt hbxg6)).trans hbxg6)) hgeg10)
                              refine hS.next (v := .pointer (some ⟨g10, 0, none⟩)) (d := 13) rfl (by decide) (by rfl) ?_
                              clear hS
                              intro at13 hS
                              refine list_step rfl (R := fun v w' => Below _ _ w' ∧ (IsV (.bool false)) v w') (does_val (x_assign rfl (rfl)) rfl) ?_
                              rintro vw14 w14 ⟨hb, he⟩
                              have hBw14_w := below_step hBw9_w hb
                              have hBw14_w3 := below_step hBw9_w3 hb
                              have hBw14_w5 := below_step hBw9_w5 hb
                              have hBw14_w9 := below_step hBw9_w9 hb
                              have hBw14_w14 := Below.refl w14.heap.size w14
                              obtain rfl : vw14 = .bool false := he
                              refine hS.next (v := .bool false) (d := 14) rfl (by decide) (by rfl) ?_
                              clear hS
                              intro at15 hS
                              refine wpList_nil ?_
                              refine hK1 _ _ ?_
                              clear hK1 K1
                              refine wp_seq_k (fun K16 hK16 => ?_)
                              refine reg_seq (N := 144) (bs := [(14, .bool false), (13, .pointer (some ⟨g10, 0, none⟩)), (8, .pointer (some ⟨g6, 0, none⟩)), (7, .pointer (some ⟨g4, 0, none⟩)), (1, .agg #[.int .u64 a1_0, .int .i64 a1_1]), (2, .int .i64 a2), (3, .int .i64 a3), (4, .int .i64 a4), (5, .int .i64 a5), (6, .agg #[.int .u64 a6_0, .int .i64 a6_1])]) (I := fun x => Below w.heap.size w x ∧ Below w3.heap.size w3 x ∧ Below w5.heap.size w5 x ∧ Below w9.heap.size w9 x ∧ Below w14.heap.size w14 x) (ps := [IsV (.agg #[.int .u64 a0_0, .int .i64 a0_1]), IsB #[.int .u64 t17_1, .int .i64 t17_2, .int .i64 t17_3, .int .i64 t17_4, .int .i64 t17_5, .bool t17_6, .bool t17_7] 54 w14.heap.size, IsB #[.int .u64 t17_1, .int .i64 t17_2, .int .i64 t17_3, .int .i64 t17_4, .int .i64 t17_5, .bool t17_6, .bool t17_7] 54 w14.heap.size]) (by kernel_rfl) ?_ ?_ rfl hS ⟨hBw14_w, hBw14_w3, hBw14_w5, hBw14_w9, hBw14_w14⟩ ?_ ?_
                              · exact fun x y hI hb => ⟨below_step hI.1 hb, below_step hI.2.1 hb, below_step hI.2.2.1 hb, below_step hI.2.2.2.1 hb, below_step hI.2.2.2.2 hb⟩
                              · exact AllStay.cons (Stays.v _) (AllStay.cons (Stays.b _ _ _) (AllStay.cons (Stays.b _ _ _) (AllStay.nil)))
                              · refine Steps.cons (fun a w hS hI hp => ok_on rfl (does_loadrow rfl (hS.get 3 rfl) (((hI.2.1).block g4 (blk_lt hbxg4)).trans hbxg4) Try.underlying24 rfl (by kernel_rfl) rfl)) ?_
                                refine Steps.cons (fun a w hS hI hp => ok_on rfl (does_call (by kernel_rfl) (ar2 ((hp.get 0 (by rfl) rfl rfl)) (rfl)) ((delay_New.calls a0_0 a0_1 3 t17_1 t17_2 t17_3 t17_4 t17_5 t17_6 t17_7 _  At17).mono fun _ _ h => h.elim fun g_ h => ⟨_, h.1, h.2.2.2, g_, rfl, Nat.le_trans hI.2.2.2.2.size h.2.1, h.2.2.1⟩))) ?_
                                refine Steps.cons (fun a w hS hI hp => ok_on rfl (does_val (x_assign rfl rfl) ((hp.get 1 (by rfl) rfl rfl)))) ?_
                                exact Steps.nil
                              clear hS
                              intro at18 w19 hS hI hp
                              have hBw19_w := hI.1
                              have hBw19_w3 := hI.2.1
                              have hBw19_w5 := hI.2.2.1
                              have hBw19_w9 := hI.2.2.2.1
                              have hBw19_w14 := hI.2.2.2.2
                              replace hS := ((((((((hS.nil).cons (hS.get 8 rfl)).cons (hS.get 7 rfl)).cons (hS.get 6 rfl)).cons (hS.get 5 rfl)).cons (hS.get 3 rfl)).cons (hS.get 2 rfl)).cons (hS.get 1 rfl)).cons (hS.get 0 rfl)
                              obtain ⟨g20, hv15, hgeg20, hbxg20⟩ := (show IsB _ 54 _ (sl _ 15) _ from hp 2 (by decide))
                              have hne21 : g20 ≠ g4 := Nat.ne_of_gt (Nat.lt_of_lt_of_le (blk_lt ((hBw14_w3.block g4 (blk_lt hbxg4)).trans hbxg4)) hgeg20)
                              have hne22 : g20 ≠ g6 := Nat.ne_of_gt (Nat.lt_of_lt_of_le (blk_lt ((hBw14_w5.block g6 (blk_lt hbxg6)).trans hbxg6)) hgeg20)
                              have hne23 : g20 ≠ g10 := Nat.ne_of_gt (Nat.lt_of_lt_of_le (blk_lt ((hBw14_w9.block g10 (blk_lt hbxg10)).trans hbxg10)) hgeg20)
                              have hBw19_w19 := Below.refl w19.heap.size w19
                              have hS := hS.cons hv15
                              clear hp hI hv15
                              refine hK16 _ _ ?_
                              clear hK16 K16
                              refine wp_seq_k (fun K24 hK24 => ?_)
                              refine wp_seq_k (fun K25 hK25 => ?_)
                              refine reg_seq (N := 144) (bs := [(15, .pointer (some ⟨g20, 0, none⟩)), (14, .bool false), (13, .pointer (some ⟨g10, 0, none⟩)), (8, .pointer (some ⟨g6, 0, none⟩)), (7, .pointer (some ⟨g4, 0, none⟩)), (2, .int .i64 a2), (3, .int .i64 a3), (4, .int .i64 a4), (5, .int .i64 a5)]) (I := fun x => Below w.heap.size w x ∧ Below w3.heap.size w3 x ∧ Below w5.heap.size w5 x ∧ Below w9.heap.size w9 x ∧ Below w14.heap.size w14 x ∧ Below w19.heap.size w19 x) (ps := [IsV (.pointer (some ⟨g20, 0, none⟩)), IsV (.bool false)]) (by kernel_rfl) ?_ ?_ rfl hS ⟨hBw19_w, hBw19_w3, hBw19_w5, hBw19_w9, hBw19_w14, hBw19_w19⟩ ?_ ?_
                              · exact fun x y hI hb => ⟨below_step hI.1 hb, below_step hI.2.1 hb, below_step hI.2.2.1 hb, below_step hI.2.2.2.1 hb, below_step hI.2.2.2.2.1 hb, below_step hI.2.2.2.2.2 hb⟩
                              · exact AllStay.cons (Stays.v _) (AllStay.cons (Stays.v _) (AllStay.nil))
                              · refine Steps.cons (fun a w hS hI hp => ok_on rfl (does_val (x_move rfl (hS.get 0 rfl)) rfl)) ?_
                                refine Steps.cons (fun a w hS hI hp => ok_on rfl (does_val (x_bin rfl ((hp.get 0 (by rfl) rfl rfl)) (rfl) (b_eqp 26 54 _ _ _ Try.underlying26)) rfl)) ?_
                                exact Steps.nil
                              clear hS
                              intro at26 w27 hS hI hp
                              have hBw27_w := hI.1
                              have hBw27_w3 := hI.2.1
                              have hBw27_w5 := hI.2.2.1
                              have hBw27_w9 := hI.2.2.2.1
                              have hBw27_w14 := hI.2.2.2.2.1
                              have hBw27_w19 := hI.2.2.2.2.2
                              have hv31 : sl _ 31 = .bool false := hp 1 (by decide)
                              have hBw27_w27 := Below.refl w27.heap.size w27
                              have hS := hS.cons hv31
                              clear hp hI hv31
                              refine hK25 _ _ ?_
                              clear hK25 K25
                              refine wp_cond_false ((hS.get 0 rfl).trans (bF rfl)) ?_
                              refine wp_skip ?_
                              refine hK24 _ _ ?_
                              clear hK24 K24
                              refine wp_seq_k (fun K28 hK28 => ?_)
                              refine reg_seq (N := 144) (bs := [(31, .bool false), (15, .pointer (some ⟨g20, 0, none⟩)), (14, .bool false), (13, .pointer (some ⟨g10, 0, none⟩)), (8, .pointer (some ⟨g6, 0, none⟩)), (7, .pointer (some ⟨g4, 0, none⟩)), (2, .int .i64 a2), (3, .int .i64 a3), (4, .int .i64 a4), (5, .int .i64 a5)]) (I := fun x => Below w.heap.size w x ∧ Below w3.heap.size w3 x ∧ Below w5.heap.size w5 x ∧ Below w9.heap.size w9 x ∧ Below w14.heap.size w14 x ∧ Below w19.heap.size w19 x ∧ Below w27.heap.size w27 x) (ps := [IsV (.int .i64 a3), IsV (.int .i64 t29), IsV (.int .i64 a4), IsV (.int .i64 t30), IsV (.int .i64 t29), IsV (.int .i64 t30)]) (by kernel_rfl) ?_ ?_ rfl hS ⟨hBw27_w, hBw27_w3, hBw27_w5, hBw27_w9, hBw27_w14, hBw27_w19, hBw27_w27⟩ ?_ ?_
                              · exact fun x y hI hb => ⟨below_step hI.1 hb, below_step hI.2.1 hb, below_step hI.2.2.1 hb, below_step hI.2.2.2.1 hb, below_step hI.2.2.2.2.1 hb, below_step hI.2.2.2.2.2.1 hb, below_step hI.2.2.2.2.2.2 hb⟩
                              · exact AllStay.cons (Stays.v _) (AllStay.cons (Stays.v _) (AllStay.cons (Stays.v _) (AllStay.cons (Stays.v _) (AllStay.cons (Stays.v _) (AllStay.cons (Stays.v _) (AllStay.nil))))))
                              · refine Steps.cons (fun a w hS hI hp => ok_on rfl (does_val (x_move rfl (hS.get 7 rfl)) rfl)) ?_
                                refine Steps.cons (fun a w hS hI hp => ok_on rfl (does_call (by kernel_rfl) (ar2 ((hp.get 0 (by rfl) rfl rfl)) (rfl)) ((carillonlaw00_Place.calls a3 1125899906842624 t29 _  At29).mono fun _ _ h => ⟨_, h.1, h.2.below, rfl⟩))) ?_
                                refine Steps.cons (fun a w hS hI hp => ok_on rfl (does_val (x_move rfl (hS.get 8 rfl)) rfl)) ?_
                                refine Steps.cons (fun a w hS hI hp => ok_on rfl (does_call (by kernel_rfl) (ar2 ((hp.get 2 (by rfl) rfl rfl)) (rfl)) ((carillonlaw00_Place.calls a4 1125899906842624 t30 _  At30).mono fun _ _ h => ⟨_, h.1, h.2.below, rfl⟩))) ?_
                                refine Steps.cons (fun a w hS hI hp => ok_on rfl (does_val (x_assign rfl ((hp.get 1 (by rfl) rfl rfl))) rfl)) ?_
                                refine Steps.cons (fun a w hS hI hp => ok_on rfl (does_val (x_assign rfl ((hp.get 3 (by rfl) rfl rfl))) rfl)) ?_
                                exact Steps.nil
                              clear hS
                              intro at31 w32 hS hI hp
                              have hBw32_w := hI.1
                              have hBw32_w3 := hI.2.1
                              have hBw32_w5 := hI.2.2.1
                              have hBw32_w9 := hI.2.2.2.1
                              have hBw32_w14 := hI.2.2.2.2.1
                              have hBw32_w19 := hI.2.2.2.2.2.1
                              have hBw32_w27 := hI.2.2.2.2.2.2
                              replace hS := ((((((((hS.nil).cons (hS.get 9 rfl)).cons (hS.get 6 rfl)).cons (hS.get 5 rfl)).cons (hS.get 4 rfl)).cons (hS.get 3 rfl)).cons (hS.get 2 rfl)).cons (hS.get 1 rfl)).cons (hS.get 0 rfl)
                              have hv16 : sl _ 16 = .int .i64 t29 := hp 4 (by decide)
                              have hv17 : sl _ 17 = .int .i64 t30 := hp 5 (by decide)
                              have hBw32_w32 := Below.refl w32.heap.size w32
                              have hS := hS.cons hv16
                              have hS := hS.cons hv17
                              clear hp hI hv16 hv17
                              refine hK28 _ _ ?_
                              clear hK28 K28
                              refine wp_seq_k (fun K33 hK33 => ?_)
                              refine reg_seq_tail 2 (N := 144) (bs := [(17, .int .i64 t30), (16, .int .i64 t29), (31, .bool false), (15, .pointer (some ⟨g20, 0, none⟩)), (14, .bool false), (13, .pointer (some ⟨g10, 0, none⟩)), (8, .pointer (some ⟨g6, 0, none⟩)), (7, .pointer (some ⟨g4, 0, none⟩)), (2, .int .i64 a2), (5, .int .i64 a5)]) (I := fun x => Below w.heap.size w x ∧ Below w3.heap.size w3 x ∧ Below w5.heap.size w5 x ∧ Below w9.heap.size w9 x ∧ Below w14.heap.size w14 x ∧ Below w19.heap.size w19 x ∧ Below w32.heap.size w32 x) (ps := [IsV (.pointer (some ⟨g20, 0, none⟩)), IsV (.int .i64 a2)]) (by kernel_rfl) ?_ ?_ rfl hS ⟨hBw32_w, hBw32_w3, hBw32_w5, hBw32_w9, hBw32_w14, hBw32_w19, hBw32_w32⟩ ?_ ?_
                              · exact fun x y hI hb => ⟨below_step hI.1 hb, below_step hI.2.1 hb, below_step hI.2.2.1 hb, below_step hI.2.2.2.1 hb, below_step hI.2.2.2.2.1 hb, below_step hI.2.2.2.2.2.1 hb, below_step hI.2.2.2.2.2.2 hb⟩
                              · exact AllStay.cons (Stays.v _) (AllStay.cons (Stays.v _) (AllStay.nil))
                              · refine Steps.cons (fun a w hS hI hp => ok_on rfl (does_val (x_move rfl (hS.get 3 rfl)) rfl)) ?_
                                refine Steps.cons (fun a w hS hI hp => ok_on rfl (does_val (x_move rfl (hS.get 8 rfl)) rfl)) ?_
                                exact Steps.nil
                              clear hS
                              intro at34 w35 hS hI hp
                              have hBw35_w := hI.1
                              have hBw35_w3 := hI.2.1
                              have hBw35_w5 := hI.2.2.1
                              have hBw35_w9 := hI.2.2.2.1
                              have hBw35_w14 := hI.2.2.2.2.1
                              have hBw35_w19 := hI.2.2.2.2.2.1
                              have hBw35_w32 := hI.2.2.2.2.2.2
                              replace hS := (((((((((hS.nil).cons (hS.get 9 rfl)).cons (hS.get 7 rfl)).cons (hS.get 6 rfl)).cons (hS.get 5 rfl)).cons (hS.get 4 rfl)).cons (hS.get 3 rfl)).cons (hS.get 2 rfl)).cons (hS.get 1 rfl)).cons (hS.get 0 rfl)
                              have hv36 : sl _ 36 = .pointer (some ⟨g20, 0, none⟩) := hp 0 (by decide)
                              have hv37 : sl _ 37 = .int .i64 a2 := hp 1 (by decide)
                              have hBw35_w35 := Below.refl w35.heap.size w35
                              have hS := hS.cons hv36
                              have hS := hS.cons hv37
                              clear hp hI hv36 hv37
                              show wpList _ _ _ [_, _, _] _ _
                              refine list_step rfl (R := fun v w' => v = .agg #[.int .i64 t37_1, .int .i64 t37_2, .int .i64 t37_3, .int .i64 t37_4, .int .u64 t37_5, .int .i64 t37_6, .int .i64 t37_7, .int .i64 t37_8, .int .i64 t37_9, .int .u64 t37_10, .int .i64 t37_11, .int .i64 t37_12, .int .i64 t37_13, .int .i64 t37_14, .int .i64 t37_15, .int .i64 t37_16, .int .i64 t37_17, .int .u64 t37_18, .int .i64 t37_19, .int .i64 t37_20, .int .i64 t37_21, .int .i64 t37_22, .int .i64 t37_23] ∧ w'.heap[g20]? = some (.cells #[.int .u64 t37_24, .int .i64 t37_25, .int .i64 t37_26, .int .i64 t37_27, .int .i64 t37_28, .bool t37_29, .bool t37_30] 54 (0, 0)) ∧ Tch g20 _ w') (does_call (by kernel_rfl) (ar3 (hS.get 1 rfl) (hS.get 0 rfl) (rfl)) ((delay_Exchange_Request.calls g20 t17_1 t17_2 t17_3 t17_4 t17_5 t17_6 t17_7 a2 1 t37_1 t37_2 t37_3 t37_4 t37_5 t37_6 t37_7 t37_8 t37_9 t37_10 t37_11 t37_12 t37_13 t37_14 t37_15 t37_16 t37_17 t37_18 t37_19 t37_20 t37_21 t37_22 t37_23 t37_24 t37_25 t37_26 t37_27 t37_28 t37_29 t37_30 _ ((hBw35_w19.block g20 (blk_lt hbxg20)).trans hbxg20) At37).mono fun _ _ h => ⟨_, h.1, rfl, h.2⟩)) ?_
                              rintro vw36 w36 ⟨rfl, hbxw36, hT⟩
                              have hBw36_w := hT.below hBw35_w (Nat.le_trans (hBw14_w).size hgeg20) (hBw35_w).size
                              have hBw36_w3 := hT.below hBw35_w3 (Nat.le_trans (hBw14_w3).size hgeg20) (hBw35_w3).size
                              have hBw36_w5 := hT.below hBw35_w5 (Nat.le_trans (hBw14_w5).size hgeg20) (hBw35_w5).size
                              have hBw36_w9 := hT.below hBw35_w9 (Nat.le_trans (hBw14_w9).size hgeg20) (hBw35_w9).size
                              have hBw36_w14 := hT.below hBw35_w14 hgeg20 (hBw35_w14).size
                              have hBw36_w36 := Below.refl w36.heap.size w36
                              clear hT
                              refine hS.next (v := .agg #[.int .i64 t37_1, .int .i64 t37_2, .int .i64 t37_3, .int .i64 t37_4, .int .u64 t37_5, .int .i64 t37_6, .int .i64 t37_7, .int .i64 t37_8, .int .i64 t37_9, .int .u64 t37_10, .int .i64 t37_11, .int .i64 t37_12, .int .i64 t37_13, .int .i64 t37_14, .int .i64 t37_15, .int .i64 t37_16, .int .i64 t37_17, .int .u64 t37_18, .int .i64 t37_19, .int .i64 t37_20, .int .i64 t37_21, .int .i64 t37_22, .int .i64 t37_23]) (d := 38) rfl (by decide) (by rfl) ?_
                              clear hS
                              intro at38 hS
                              refine list_step rfl (R := fun v w' => Below _ _ w' ∧ (IsB #[.int .i64 0, .int .i64 0, .int .i64 0, .int .i64 0, .int .u64 0, .int .i64 0, .int .i64 0, .int .i64 0, .int .i64 0, .int .u64 0, .int .i64 0, .int .i64 0, .int .i64 0, .int .i64 0, .int .i64 0, .int .i64 0, .int .i64 0, .int .u64 0, .int .i64 0, .int .i64 0, .int .i64 0, .int .i64 0, .int .i64 0] 34 w36.heap.size) v w') (does_var (x_alloc rfl (by kernel_rfl)) (hBw36_w36).size) ?_
                              rintro vw39 w39 ⟨hb, he⟩
                              have hBw39_w := below_step hBw36_w hb
                              have hBw39_w3 := below_step hBw36_w3 hb
                              have hBw39_w5 := below_step hBw36_w5 hb
                              have hBw39_w9 := below_step hBw36_w9 hb
                              have hBw39_w14 := below_step hBw36_w14 hb
                              have hBw39_w36 := below_step hBw36_w36 hb
                              have hBw39_w39 := Below.refl w39.heap.size w39
                              obtain ⟨g40, rfl, hgeg40, hbxg40⟩ := he
                              have hne41 : g40 ≠ g4 := Nat.ne_of_gt (Nat.lt_of_lt_of_le (blk_lt ((hBw36_w3.block g4 (blk_lt hbxg4)).trans hbxg4)) hgeg40)
                              have hne42 : g40 ≠ g6 := Nat.ne_of_gt (Nat.lt_of_lt_of_le (blk_lt ((hBw36_w5.block g6 (blk_lt hbxg6)).trans hbxg6)) hgeg40)
                              have hne43 : g40 ≠ g10 := Nat.ne_of_gt (Nat.lt_of_lt_of_le (blk_lt ((hBw36_w9.block g10 (blk_lt hbxg10)).trans hbxg10)) hgeg40)
                              have hne44 : g40 ≠ g20 := Nat.ne_of_gt (Nat.lt_of_lt_of_le (blk_lt ((hBw36_w36.block g20 (blk_lt hbxw36)).trans hbxw36)) hgeg40)
                              refine hS.next (v := .pointer (some ⟨g40, 0, none⟩)) (d := 18) rfl (by decide) (by rfl) ?_
                              clear hS
                              intro at45 hS
                              refine list_step rfl (does_storeAll (g := g40) (cs := #[.int .i64 t37_1, .int .i64 t37_2, .int .i64 t37_3, .int .i64 t37_4, .int .u64 t37_5, .int .i64 t37_6, .int .i64 t37_7, .int .i64 t37_8, .int .i64 t37_9, .int .u64 t37_10, .int .i64 t37_11, .int .i64 t37_12, .int .i64 t37_13, .int .i64 t37_14, .int .i64 t37_15, .int .i64 t37_16, .int .i64 t37_17, .int .u64 t37_18, .int .i64 t37_19, .int .i64 t37_20, .int .i64 t37_21, .int .i64 t37_22, .int .i64 t37_23]) rfl (hS.get 0 rfl) (hS.get 1 rfl) ((hBw39_w39.block g40 (blk_lt hbxg40)).trans hbxg40) (by kernel_rfl) (by kernel_rfl) (by kernel_rfl)) ?_
                              rintro vw46 w46 ⟨rfl, hbxw46, hT⟩
                              have hBw46_w := hT.below hBw39_w (Nat.le_trans (hBw36_w).size hgeg40) (hBw39_w).size
                              have hBw46_w3 := hT.below hBw39_w3 (Nat.le_trans (hBw36_w3).size hgeg40) (hBw39_w3).size
                              have hBw46_w5 := hT.below hBw39_w5 (Nat.le_trans (hBw36_w5).size hgeg40) (hBw39_w5).size
                              have hBw46_w9 := hT.below hBw39_w9 (Nat.le_trans (hBw36_w9).size hgeg40) (hBw39_w9).size
                              have hBw46_w14 := hT.below hBw39_w14 (Nat.le_trans (hBw36_w14).size hgeg40) (hBw39_w14).size
                              have hBw46_w36 := hT.below hBw39_w36 hgeg40 (hBw39_w36).size
                              have hBw46_w46 := Below.refl w46.heap.size w46
                              clear hT
                              refine wpList_nil ?_
                              refine hK33 _ _ ?_
                              clear hK33 K33
                              refine wp_seq_k (fun K47 hK47 => ?_)
                              refine reg_seq_tail 3 (N := 144) (bs := [(18, .pointer (some ⟨g40, 0, none⟩)), (38, .agg #[.int .i64 t37_1, .int .i64 t37_2, .int .i64 t37_3, .int .i64 t37_4, .int .u64 t37_5, .int .i64 t37_6, .int .i64 t37_7, .int .i64 t37_8, .int .i64 t37_9, .int .u64 t37_10, .int .i64 t37_11, .int .i64 t37_12, .int .i64 t37_13, .int .i64 t37_14, .int .i64 t37_15, .int .i64 t37_16, .int .i64 t37_17, .int .u64 t37_18, .int .i64 t37_19, .int .i64 t37_20, .int .i64 t37_21, .int .i64 t37_22, .int .i64 t37_23]), (37, .int .i64 a2), (36, .pointer (some ⟨g20, 0, none⟩)), (17, .int .i64 t30), (16, .int .i64 t29), (31, .bool false), (15, .pointer (some ⟨g20, 0, none⟩)), (14, .bool false), (13, .pointer (some ⟨g10, 0, none⟩)), (8, .pointer (some ⟨g6, 0, none⟩)), (7, .pointer (some ⟨g4, 0, none⟩)), (5, .int .i64 a5)]) (I := fun x => Below w.heap.size w x ∧ Below w3.heap.size w3 x ∧ Below w5.heap.size w5 x ∧ Below w9.heap.size w9 x ∧ Below w14.heap.size w14 x ∧ Below w36.heap.size w36 x ∧ Below w46.heap.size w46 x) (ps := [IsV (.int .i64 a5), IsV (.int .i64 t48), IsV (.pointer (some ⟨g40, 3, none⟩))]) (by kernel_rfl) ?_ ?_ rfl hS ⟨hBw46_w, hBw46_w3, hBw46_w5, hBw46_w9, hBw46_w14, hBw46_w36, hBw46_w46⟩ ?_ ?_
                              · exact fun x y hI hb => ⟨below_step hI.1 hb, below_step hI.2.1 hb, below_step hI.2.2.1 hb, below_step hI.2.2.2.1 hb, below_step hI.2.2.2.2.1 hb, below_step hI.2.2.2.2.2.1 hb, below_step hI.2.2.2.2.2.2 hb⟩
                              · exact AllStay.cons (Stays.v _) (AllStay.cons (Stays.v _) (AllStay.cons (Stays.v _) (AllStay.nil)))
                              · refine Steps.cons (fun a w hS hI hp => ok_on rfl (does_val (x_move rfl (hS.get 12 rfl)) rfl)) ?_
                                refine Steps.cons (fun a w hS hI hp => ok_on rfl (does_call (by kernel_rfl) (ar2 ((hp.get 0 (by rfl) rfl rfl)) (rfl)) ((carillonlaw00_Place.calls a5 1099511627776 t48 _  At48).mono fun _ _ h => ⟨_, h.1, h.2.below, rfl⟩))) ?_
                                refine Steps.cons (fun a w hS hI hp => ok_on rfl (does_val (x_field rfl (hS.get 0 rfl) Try.underlying34 rfl (by kernel_rfl)) rfl)) ?_
                                exact Steps.nil
                              clear hS
                              intro at49 w50 hS hI hp
                              have hBw50_w := hI.1
                              have hBw50_w3 := hI.2.1
                              have hBw50_w5 := hI.2.2.1
                              have hBw50_w9 := hI.2.2.2.1
                              have hBw50_w14 := hI.2.2.2.2.1
                              have hBw50_w36 := hI.2.2.2.2.2.1
                              have hBw50_w46 := hI.2.2.2.2.2.2
                              replace hS := (((((((((hS.nil).cons (hS.get 11 rfl)).cons (hS.get 10 rfl)).cons (hS.get 9 rfl)).cons (hS.get 8 rfl)).cons (hS.get 7 rfl)).cons (hS.get 6 rfl)).cons (hS.get 5 rfl)).cons (hS.get 4 rfl)).cons (hS.get 0 rfl)
                              have hv40 : sl _ 40 = .int .i64 t48 := hp 1 (by decide)
                              have hv41 : sl _ 41 = .pointer (some ⟨g40, 3, none⟩) := hp 2 (by decide)
                              have hBw50_w50 := Below.refl w50.heap.size w50
                              have hS := hS.cons hv40
                              have hS := hS.cons hv41
                              clear hp hI hv40 hv41
                              show wpList _ _ _ [_] _ _
                              refine list_step rfl (does_store (g := g40) (off := 3) (v := .int .i64 t48) (new := #[.int .i64 t37_1, .int .i64 t37_2, .int .i64 t37_3, .int .i64 t48, .int .u64 t37_5, .int .i64 t37_6, .int .i64 t37_7, .int .i64 t37_8, .int .i64 t37_9, .int .u64 t37_10, .int .i64 t37_11, .int .i64 t37_12, .int .i64 t37_13, .int .i64 t37_14, .int .i64 t37_15, .int .i64 t37_16, .int .i64 t37_17, .int .u64 t37_18, .int .i64 t37_19, .int .i64 t37_20, .int .i64 t37_21, .int .i64 t37_22, .int .i64 t37_23]) rfl (hS.get 0 rfl) (hS.get 1 rfl) ((hBw50_w46.block g40 (blk_lt hbxw46)).trans hbxw46) (by kernel_rfl) (by kernel_rfl) (by kernel_rfl) (by kernel_rfl)) ?_
                              rintro vw51 w51 ⟨rfl, hbxw51, hT⟩
                              have hBw51_w := hT.below hBw50_w (Nat.le_trans (hBw36_w).size hgeg40) (hBw50_w).size
                              have hBw51_w3 := hT.below hBw50_w3 (Nat.le_trans (hBw36_w3).size hgeg40) (hBw50_w3).size
                              have hBw51_w5 := hT.below hBw50_w5 (Nat.le_trans (hBw36_w5).size hgeg40) (hBw50_w5).size
                              have hBw51_w9 := hT.below hBw50_w9 (Nat.le_trans (hBw36_w9).size hgeg40) (hBw50_w9).size
                              have hBw51_w14 := hT.below hBw50_w14 (Nat.le_trans (hBw36_w14).size hgeg40) (hBw50_w14).size
                              have hBw51_w36 := hT.below hBw50_w36 hgeg40 (hBw50_w36).size
                              have hBw51_w51 := Below.refl w51.heap.size w51
                              clear hT
                              refine wpList_nil ?_
                              refine hK47 _ _ ?_
                              clear hK47 K47
                              refine wp_seq_k (fun K52 hK52 => ?_)
                              refine wp_seq_k (fun K53 hK53 => ?_)
                              refine reg_seq_tail 14 (N := 144) (bs := [(41, .pointer (some ⟨g40, 3, none⟩)), (40, .int .i64 t48), (18, .pointer (some ⟨g40, 0, none⟩)), (17, .int .i64 t30), (16, .int .i64 t29), (31, .bool false), (15, .pointer (some ⟨g20, 0, none⟩)), (14, .bool false), (13, .pointer (some ⟨g10, 0, none⟩)), (8, .pointer (some ⟨g6, 0, none⟩)), (7, .pointer (some ⟨g4, 0, none⟩))]) (I := fun x => Below w.heap.size w x ∧ Below w3.heap.size w3 x ∧ Below w5.heap.size w5 x ∧ Below w9.heap.size w9 x ∧ Below w14.heap.size w14 x ∧ Below w36.heap.size w36 x ∧ Below w51.heap.size w51 x) (ps := [IsV (.pointer (some ⟨g40, 4, none⟩)), IsV (.agg #[.int .u64 t37_5, .int .i64 t37_6]), IsV (.agg #[.int .u64 a0_0, .int .i64 a0_1]), IsV (.bool (!((t37_5 == a0_0) && (t37_6 == a0_1)))), IsV (.bool (!((t37_5 == a0_0) && (t37_6 == a0_1)))), IsV (.pointer (some ⟨g40, 1, none⟩)), IsV (.int .i64 t37_2), IsV (.bool (!decide (t37_2 = 3))), IsV (.bool (!decide (t37_2 = 3))), IsV (.bool (!decide (t37_2 = 3))), IsV (.pointer (some ⟨g20, 0, none⟩)), IsV (.pointer (some ⟨g40, 6, none⟩)), IsV (.int .i64 t37_7), IsV (.int .i64 t29)]) (by kernel_rfl) ?_ ?_ rfl hS ⟨hBw51_w, hBw51_w3, hBw51_w5, hBw51_w9, hBw51_w14, hBw51_w36, hBw51_w51⟩ ?_ ?_
                              · exact fun x y hI hb => ⟨below_step hI.1 hb, below_step hI.2.1 hb, below_step hI.2.2.1 hb, below_step hI.2.2.2.1 hb, below_step hI.2.2.2.2.1 hb, below_step hI.2.2.2.2.2.1 hb, below_step hI.2.2.2.2.2.2 hb⟩
                              · exact AllStay.cons (Stays.v _) (AllStay.cons (Stays.v _) (AllStay.cons (Stays.v _) (AllStay.cons (Stays.v _) (AllStay.cons (Stays.v _) (AllStay.cons (Stays.v _) (AllStay.cons (Stays.v _) (AllStay.cons (Stays.v _) (AllStay.cons (Stays.v _) (AllStay.cons (Stays.v _) (AllStay.cons (Stays.v _) (AllStay.cons (Stays.v _) (AllStay.cons (Stays.v _) (AllStay.cons (Stays.v _) (AllStay.nil))))))))))))))
                              · refine Steps.cons (fun a w hS hI hp => ok_on rfl (does_val (x_field rfl (hS.get 2 rfl) Try.underlying34 rfl (by kernel_rfl)) rfl)) ?_
                                refine Steps.cons (fun a w hS hI hp => ok_on rfl (does_loadmid (cs := [.int .u64 t37_5, .int .i64 t37_6]) rfl ((hp.get 0 (by rfl) rfl rfl)) (((hI.2.2.2.2.2.2).block g40 (blk_lt hbxw51)).trans hbxw51) rfl Try.underlying24 rfl (by kernel_rfl) rfl)) ?_
                                refine Steps.cons (fun a w hS hI hp => ok_on rfl (does_loadrow rfl (hS.get 10 rfl) (((hI.2.1).block g4 (blk_lt hbxg4)).trans hbxg4) Try.underlying24 rfl (by kernel_rfl) rfl)) ?_
                                refine Steps.cons (fun a w hS hI hp => ok_on rfl (does_val (x_bin rfl ((hp.get 1 (by rfl) rfl rfl)) ((hp.get 2 (by rfl) rfl rfl)) (carillonlaw17_DelayRound.neq24 _ _ _ t37_5 t37_6 a0_0 a0_1)) rfl)) ?_
                                refine Steps.cons (fun a w hS hI hp => ok_on rfl (does_val (x_move rfl ((hp.get 3 (by rfl) rfl rfl))) rfl)) ?_
                                refine Steps.cons (fun a w hS hI hp => ok_if (d := 46) rfl rfl (by rw [hS.size]; decide) (((hp.get 4 (by rfl) rfl rfl)).trans (bF (congrArg (!·) c1))) (does_val (x_field rfl (hS.get 2 rfl) Try.underlying34 rfl (by kernel_rfl)) rfl)) ?_
                                refine Steps.cons (fun a w hS hI hp => ok_if (d := 46) rfl rfl (by rw [hS.size]; decide) (((hp.get 4 (by rfl) rfl rfl)).trans (bF (congrArg (!·) c1))) (does_val (x_load1 (d := .int .i64) rfl ((hp.get 5 (by rfl) rfl rfl)) (by kernel_rfl) rfl ((blk_cell (((hI.2.2.2.2.2.2).block g40 (blk_lt hbxw51)).trans hbxw51) 1).trans rfl)) rfl)) ?_
                                refine Steps.cons (fun a w hS hI hp => ok_if (d := 46) rfl rfl (by rw [hS.size]; decide) (((hp.get 4 (by rfl) rfl rfl)).trans (bF (congrArg (!·) c1))) (does_val (x_bin rfl ((hp.get 6 (by rfl) rfl rfl)) (rfl) (b_neq _ _ _ _ _ _)) rfl)) ?_
                                refine Steps.cons (fun a w hS hI hp => ok_on rfl (does_val (x_pickF rfl (((hp.get 4 (by rfl) rfl rfl)).trans (bF (congrArg (!·) c1))) ((hp.get 7 (by rfl) rfl rfl))) rfl)) ?_
                                refine Steps.cons (fun a w hS hI hp => ok_on rfl (does_val (x_move rfl ((hp.get 8 (by rfl) rfl rfl))) rfl)) ?_
                                refine Steps.cons (fun a w hS hI hp => ok_if (d := 51) rfl rfl (by rw [hS.size]; decide) (((hp.get 9 (by rfl) rfl rfl)).trans (bF (congrArg (!·) (decide_eq_true c2)))) (does_val (x_move rfl (hS.get 6 rfl)) rfl)) ?_
                                refine Steps.cons (fun a w hS hI hp => ok_if (d := 51) rfl rfl (by rw [hS.size]; decide) (((hp.get 9 (by rfl) rfl rfl)).trans (bF (congrArg (!·) (decide_eq_true c2)))) (does_val (x_field rfl (hS.get 2 rfl) Try.underlying34 rfl (by kernel_rfl)) rfl)) ?_
                                refine Steps.cons (fun a w hS hI hp => ok_if (d := 51) rfl rfl (by rw [hS.size]; decide) (((hp.get 9 (by rfl) rfl rfl)).trans (bF (congrArg (!·) (decide_eq_true c2)))) (does_val (x_load1 (d := .int .i64) rfl ((hp.get 11 (by rfl) rfl rfl)) (by kernel_rfl) rfl ((blk_cell (((hI.2.2.2.2.2.2).block g40 (blk_lt hbxw51)).trans hbxw51) 6).trans rfl)) rfl)) ?_
                                refine Steps.cons (fun a w hS hI hp => ok_if (d := 51) rfl rfl (by rw [hS.size]; decide) (((hp.get 9 (by rfl) rfl rfl)).trans (bF (congrArg (!·) (decide_eq_true c2)))) (does_val (x_move rfl (hS.get 4 rfl)) rfl)) ?_
                                exact Steps.nil
                              clear hS
                              intro at54 w55 hS hI hp
                              have hBw55_w := hI.1
                              have hBw55_w3 := hI.2.1
                              have hBw55_w5 := hI.2.2.1
                              have hBw55_w9 := hI.2.2.2.1
                              have hBw55_w14 := hI.2.2.2.2.1
                              have hBw55_w36 := hI.2.2.2.2.2.1
                              have hBw55_w51 := hI.2.2.2.2.2.2
                              replace hS := (((((((((hS.nil).cons (hS.get 10 rfl)).cons (hS.get 9 rfl)).cons (hS.get 8 rfl)).cons (hS.get 7 rfl)).cons (hS.get 6 rfl)).cons (hS.get 5 rfl)).cons (hS.get 4 rfl)).cons (hS.get 3 rfl)).cons (hS.get 2 rfl)
                              have hv51 : sl _ 51 = .bool (!decide (t37_2 = 3)) := hp 9 (by decide)
                              have hv52 : sl _ 52 = .pointer (some ⟨g20, 0, none⟩) := hp 10 (by decide)
                              have hv54 : sl _ 54 = .int .i64 t37_7 := hp 12 (by decide)
                              have hv55 : sl _ 55 = .int .i64 t29 := hp 13 (by decide)
                              have hBw55_w55 := Below.refl w55.heap.size w55
                              have hS := hS.cons hv51
                              have hS := hS.cons hv52
                              have hS := hS.cons hv54
                              have hS := hS.cons hv55
                              clear hp hI hv51 hv52 hv54 hv55
                              show wpList _ _ _ [_, _, _, _, _, _, _, _, _, _] _ _
                              refine list_if (d := 51) rfl rfl (by rw [hS.size]; decide) ((hS.get 3 rfl).trans (bF (congrArg (!·) (decide_eq_true c2)))) (R := fun v w' => v = .bool t57_1 ∧ w'.heap[g20]? = some (.cells #[.int .u64 t57_2, .int .i64 t57_3, .int .i64 t57_4, .int .i64 t57_5, .int .i64 t57_6, .bool t57_7, .bool t57_8] 54 (0, 0)) ∧ Tch g20 _ w') (does_call (by kernel_rfl) (ar3 (hS.get 2 rfl) (hS.get 1 rfl) (hS.get 0 rfl)) ((delay_Exchange_Sent.calls g20 t37_24 t37_25 t37_26 t37_27 t37_28 t37_29 t37_30 t37_7 t29 t57_1 t57_2 t57_3 t57_4 t57_5 t57_6 t57_7 t57_8 _ ((hBw55_w36.block g20 (blk_lt hbxw36)).trans hbxw36) At57).mono fun _ _ h => ⟨_, h.1, rfl, h.2⟩)) ?_
                              rintro vw56 w56 ⟨rfl, hbxw56, hT⟩
                              have hn58 := hT.blk ((hBw55_w51.block g40 (blk_lt hbxw51)).trans hbxw51) hne44
                              have hBw56_w := hT.below hBw55_w (Nat.le_trans (hBw14_w).size hgeg20) (hBw55_w).size
                              have hBw56_w3 := hT.below hBw55_w3 (Nat.le_trans (hBw14_w3).size hgeg20) (hBw55_w3).size
                              have hBw56_w5 := hT.below hBw55_w5 (Nat.le_trans (hBw14_w5).size hgeg20) (hBw55_w5).size
                              have hBw56_w9 := hT.below hBw55_w9 (Nat.le_trans (hBw14_w9).size hgeg20) (hBw55_w9).size
                              have hBw56_w14 := hT.below hBw55_w14 hgeg20 (hBw55_w14).size
                              have hBw56_w56 := Below.refl w56.heap.size w56
                              clear hT
                              refine hS.next (v := .bool t57_1) (d := 56) rfl (by decide) (by rfl) ?_
                              clear hS
                              intro at59 hS
                              refine list_if (d := 51) rfl rfl (by rw [hS.size]; decide) ((hS.get 4 rfl).trans (bF (congrArg (!·) (decide_eq_true c2)))) (R := fun v w' => Below _ _ w' ∧ (IsV (.bool (!t57_1))) v w') (does_val (x_not rfl (hS.get 0 rfl)) rfl) ?_
                              rintro vw60 w60 ⟨hb, he⟩
                              have hBw60_w := below_step hBw56_w hb
                              have hBw60_w3 := below_step hBw56_w3 hb
                              have hBw60_w5 := below_step hBw56_w5 hb
                              have hBw60_w9 := below_step hBw56_w9 hb
                              have hBw60_w14 := below_step hBw56_w14 hb
                              have hBw60_w56 := below_step hBw56_w56 hb
                              have hBw60_w60 := Below.refl w60.heap.size w60
                              obtain rfl : vw60 = .bool (!t57_1) := he
                              refine hS.next (v := .bool (!t57_1)) (d := 57) rfl (by decide) (by rfl) ?_
                              clear hS
                              intro at61 hS
                              refine list_step rfl (R := fun v w' => Below _ _ w' ∧ (IsV (.bool (!t57_1))) v w') (does_val (x_pickF rfl ((hS.get 5 rfl).trans (bF (congrArg (!·) (decide_eq_true c2)))) (hS.get 0 rfl)) rfl) ?_
                              rintro vw62 w62 ⟨hb, he⟩
                              have hBw62_w := below_step hBw60_w hb
                              have hBw62_w3 := below_step hBw60_w3 hb
                              have hBw62_w5 := below_step hBw60_w5 hb
                              have hBw62_w9 := below_step hBw60_w9 hb
                              have hBw62_w14 := below_step hBw60_w14 hb
                              have hBw62_w56 := below_step hBw60_w56 hb
                              have hBw62_w60 := below_step hBw60_w60 hb
                              have hBw62_w62 := Below.refl w62.heap.size w62
                              obtain rfl : vw62 = .bool (!t57_1) := he
                              refine hS.next (v := .bool (!t57_1)) (d := 58) rfl (by decide) (by rfl) ?_
                              clear hS
                              intro at63 hS
                              refine list_step rfl (R := fun v w' => Below _ _ w' ∧ (IsV (.bool (!t57_1))) v w') (does_val (x_move rfl (hS.get 0 rfl)) rfl) ?_
                              rintro vw64 w64 ⟨hb, he⟩
                              have hBw64_w := below_step hBw62_w hb
                              have hBw64_w3 := below_step hBw62_w3 hb
                              have hBw64_w5 := below_step hBw62_w5 hb
                              have hBw64_w9 := below_step hBw62_w9 hb
                              have hBw64_w14 := below_step hBw62_w14 hb
                              have hBw64_w56 := below_step hBw62_w56 hb
                              have hBw64_w62 := below_step hBw62_w62 hb
                              have hBw64_w64 := Below.refl w64.heap.size w64
                              obtain rfl : vw64 = .bool (!t57_1) := he
                              refine hS.next (v := .bool (!t57_1)) (d := 59) rfl (by decide) (by rfl) ?_
                              clear hS
                              intro at65 hS
                              refine list_if (d := 59) rfl rfl (by rw [hS.size]; decide) ((hS.get 0 rfl).trans (bF (congrArg (!·) c3))) (R := fun v w' => Below _ _ w' ∧ (IsV (.pointer (some ⟨g20, 0, none⟩))) v w') (does_val (x_move rfl (hS.get 12 rfl)) rfl) ?_
                              rintro vw66 w66 ⟨hb, he⟩
                              have hBw66_w := below_step hBw64_w hb
                              have hBw66_w3 := below_step hBw64_w3 hb
                              have hBw66_w5 := below_step hBw64_w5 hb
                              have hBw66_w9 := below_step hBw64_w9 hb
                              have hBw66_w14 := below_step hBw64_w14 hb
                              have hBw66_w56 := below_step hBw64_w56 hb
                              have hBw66_w64 := below_step hBw64_w64 hb
                              have hBw66_w66 := Below.refl w66.heap.size w66
                              obtain rfl : vw66 = .pointer (some ⟨g20, 0, none⟩) := he
                              refine hS.next (v := .pointer (some ⟨g20, 0, none⟩)) (d := 60) rfl (by decide) (by rfl) ?_
                              clear hS
                              intro at67 hS
                              refine list_if (d := 59) rfl rfl (by rw [hS.size]; decide) ((hS.get 1 rfl).trans (bF (congrArg (!·) c3))) (R := fun v w' => Below _ _ w' ∧ (IsV (.pointer (some ⟨g40, 6, none⟩))) v w') (does_val (x_field rfl (hS.get 9 rfl) Try.underlying34 rfl (by kernel_rfl)) rfl) ?_
                              rintro vw68 w68 ⟨hb, he⟩
                              have hBw68_w := below_step hBw66_w hb
                              have hBw68_w3 := below_step hBw66_w3 hb
                              have hBw68_w5 := below_step hBw66_w5 hb
                              have hBw68_w9 := below_step hBw66_w9 hb
                              have hBw68_w14 := below_step hBw66_w14 hb
                              have hBw68_w56 := below_step hBw66_w56 hb
                              have hBw68_w66 := below_step hBw66_w66 hb
                              have hBw68_w68 := Below.refl w68.heap.size w68
                              obtain rfl : vw68 = .pointer (some ⟨g40, 6, none⟩) := he
                              refine hS.next (v := .pointer (some ⟨g40, 6, none⟩)) (d := 61) rfl (by decide) (by rfl) ?_
                              clear hS
                              intro at69 hS
                              refine list_if (d := 59) rfl rfl (by rw [hS.size]; decide) ((hS.get 2 rfl).trans (bF (congrArg (!·) c3))) (R := fun v w' => Below _ _ w' ∧ (IsV (.int .i64 t37_7)) v w') (does_val (x_load1 (d := .int .i64) rfl (hS.get 0 rfl) (by kernel_rfl) rfl ((blk_cell (((hBw68_w56).block g40 (blk_lt hn58)).trans hn58) 6).trans rfl)) rfl) ?_
                              rintro vw70 w70 ⟨hb, he⟩
                              have hBw70_w := below_step hBw68_w hb
                              have hBw70_w3 := below_step hBw68_w3 hb
                              have hBw70_w5 := below_step hBw68_w5 hb
                              have hBw70_w9 := below_step hBw68_w9 hb
                              have hBw70_w14 := below_step hBw68_w14 hb
                              have hBw70_w56 := below_step hBw68_w56 hb
                              have hBw70_w68 := below_step hBw68_w68 hb
                              have hBw70_w70 := Below.refl w70.heap.size w70
                              obtain rfl : vw70 = .int .i64 t37_7 := he
                              refine hS.next (v := .int .i64 t37_7) (d := 62) rfl (by decide) (by rfl) ?_
                              clear hS
                              intro at71 hS
                              refine list_if (d := 59) rfl rfl (by rw [hS.size]; decide) ((hS.get 3 rfl).trans (bF (congrArg (!·) c3))) (R := fun v w' => Below _ _ w' ∧ (IsV (.int .i64 t29)) v w') (does_val (x_move rfl (hS.get 13 rfl)) rfl) ?_
                              rintro vw72 w72 ⟨hb, he⟩
                              have hBw72_w := below_step hBw70_w hb
                              have hBw72_w3 := below_step hBw70_w3 hb
                              have hBw72_w5 := below_step hBw70_w5 hb
                              have hBw72_w9 := below_step hBw70_w9 hb
                              have hBw72_w14 := below_step hBw70_w14 hb
                              have hBw72_w56 := below_step hBw70_w56 hb
                              have hBw72_w70 := below_step hBw70_w70 hb
                              have hBw72_w72 := Below.refl w72.heap.size w72
                              obtain rfl : vw72 = .int .i64 t29 := he
                              refine hS.next (v := .int .i64 t29) (d := 63) rfl (by decide) (by rfl) ?_
                              clear hS
                              intro at73 hS
                              refine list_if (d := 59) rfl rfl (by rw [hS.size]; decide) ((hS.get 4 rfl).trans (bF (congrArg (!·) c3))) (R := fun v w' => v = .bool t75_1 ∧ w'.heap[g20]? = some (.cells #[.int .u64 t75_2, .int .i64 t75_3, .int .i64 t75_4, .int .i64 t75_5, .int .i64 t75_6, .bool t75_7, .bool t75_8] 54 (0, 0)) ∧ Tch g20 _ w') (does_call (by kernel_rfl) (ar3 (hS.get 3 rfl) (hS.get 1 rfl) (hS.get 0 rfl)) ((delay_Exchange_Sent.calls g20 t57_2 t57_3 t57_4 t57_5 t57_6 t57_7 t57_8 t37_7 t29 t75_1 t75_2 t75_3 t75_4 t75_5 t75_6 t75_7 t75_8 _ ((hBw72_w56.block g20 (blk_lt hbxw56)).trans hbxw56) At75).mono fun _ _ h => ⟨_, h.1, rfl, h.2⟩)) ?_
                              rintro vw74 w74 ⟨rfl, hbxw74, hT⟩
                              have hn76 := hT.blk ((hBw72_w56.block g40 (blk_lt hn58)).trans hn58) hne44
                              have hBw74_w := hT.below hBw72_w (Nat.le_trans (hBw14_w).size hgeg20) (hBw72_w).size
                              have hBw74_w3 := hT.below hBw72_w3 (Nat.le_trans (hBw14_w3).size hgeg20) (hBw72_w3).size
                              have hBw74_w5 := hT.below hBw72_w5 (Nat.le_trans (hBw14_w5).size hgeg20) (hBw72_w5).size
                              have hBw74_w9 := hT.below hBw72_w9 (Nat.le_trans (hBw14_w9).size hgeg20) (hBw72_w9).size
                              have hBw74_w14 := hT.below hBw72_w14 hgeg20 (hBw72_w14).size
                              have hBw74_w74 := Below.refl w74.heap.size w74
                              clear hT
                              refine hS.next (v := .bool t75_1) (d := 64) rfl (by decide) (by rfl) ?_
                              clear hS
                              intro at77 hS
                              refine list_step rfl (R := fun v w' => Below _ _ w' ∧ (IsV (.bool t75_1)) v w') (does_val (x_pickF rfl ((hS.get 5 rfl).trans (bF (congrArg (!·) c3))) (hS.get 0 rfl)) rfl) ?_
                              rintro vw78 w78 ⟨hb, he⟩
                              have hBw78_w := below_step hBw74_w hb
                              have hBw78_w3 := below_step hBw74_w3 hb
                              have hBw78_w5 := below_step hBw74_w5 hb
                              have hBw78_w9 := below_step hBw74_w9 hb
                              have hBw78_w14 := below_step hBw74_w14 hb
                              have hBw78_w74 := below_step hBw74_w74 hb
                              have hBw78_w78 := Below.refl w78.heap.size w78
                              obtain rfl : vw78 = .bool t75_1 := he
                              refine hS.next (v := .bool t75_1) (d := 65) rfl (by decide) (by rfl) ?_
                              clear hS
                              intro at79 hS
                              refine wpList_nil ?_
                              refine hK53 _ _ ?_
                              clear hK53 K53
                              refine wp_cond_false ((hS.get 0 rfl).trans (bF (Bool.eq_false_iff.2 c4))) ?_
                              refine wp_skip ?_
                              refine hK52 _ _ ?_
                              clear hK52 K52
                              refine wp_seq_k (fun K80 hK80 => ?_)
                              refine reg_seq_tail 8 (N := 144) (bs := [(65, .bool t75_1), (64, .bool t75_1), (63, .int .i64 t29), (62, .int .i64 t37_7), (61, .pointer (some ⟨g40, 6, none⟩)), (60, .pointer (some ⟨g20, 0, none⟩)), (59, .bool (!t57_1)), (58, .bool (!t57_1)), (57, .bool (!t57_1)), (56, .bool t57_1), (55, .int .i64 t29), (54, .int .i64 t37_7), (52, .pointer (some ⟨g20, 0, none⟩)), (51, .bool (!decide (t37_2 = 3))), (18, .pointer (some ⟨g40, 0, none⟩)), (17, .int .i64 t30), (16, .int .i64 t29), (31, .bool false), (15, .pointer (some ⟨g20, 0, none⟩)), (14, .bool false), (13, .pointer (some ⟨g10, 0, none⟩)), (8, .pointer (some ⟨g6, 0, none⟩)), (7, .pointer (some ⟨g4, 0, none⟩))]) (I := fun x => Below w.heap.size w x ∧ Below w3.heap.size w3 x ∧ Below w5.heap.size w5 x ∧ Below w9.heap.size w9 x ∧ Below w14.heap.size w14 x ∧ Below w74.heap.size w74 x ∧ Below w78.heap.size w78 x) (ps := [IsV (.agg #[.int .i64 t37_1, .int .i64 t37_2, .int .i64 t37_3, .int .i64 t48, .int .u64 t37_5, .int .i64 t37_6, .int .i64 t37_7, .int .i64 t37_8, .int .i64 t37_9, .int .u64 t37_10, .int .i64 t37_11, .int .i64 t37_12, .int .i64 t37_13, .int .i64 t37_14, .int .i64 t37_15, .int .i64 t37_16, .int .i64 t37_17, .int .u64 t37_18, .int .i64 t37_19, .int .i64 t37_20, .int .i64 t37_21, .int .i64 t37_22, .int .i64 t37_23]), IsV (.agg #[.int .u64 a1_0, .int .i64 a1_1]), IsV (.int .i64 t30), IsV (.tuple #[.agg #[.int .i64 t81_1, .int .i64 t81_2, .int .i64 t81_3, .int .i64 t81_4, .int .u64 t81_5, .int .i64 t81_6, .int .i64 t81_7, .int .i64 t81_8, .int .i64 t81_9, .int .u64 t81_10, .int .i64 t81_11, .int .i64 t81_12, .int .i64 t81_13, .int .i64 t81_14, .int .i64 t81_15, .int .i64 t81_16, .int .i64 t81_17, .int .u64 t81_18, .int .i64 t81_19, .int .i64 t81_20, .int .i64 t81_21, .int .i64 t81_22, .int .i64 t81_23], .bool t81_24]), IsV (.tuple #[.agg #[.int .i64 t81_1, .int .i64 t81_2, .int .i64 t81_3, .int .i64 t81_4, .int .u64 t81_5, .int .i64 t81_6, .int .i64 t81_7, .int .i64 t81_8, .int .i64 t81_9, .int .u64 t81_10, .int .i64 t81_11, .int .i64 t81_12, .int .i64 t81_13, .int .i64 t81_14, .int .i64 t81_15, .int .i64 t81_16, .int .i64 t81_17, .int .u64 t81_18, .int .i64 t81_19, .int .i64 t81_20, .int .i64 t81_21, .int .i64 t81_22, .int .i64 t81_23], .bool t81_24]), IsV (.agg #[.int .i64 t81_1, .int .i64 t81_2, .int .i64 t81_3, .int .i64 t81_4, .int .u64 t81_5, .int .i64 t81_6, .int .i64 t81_7, .int .i64 t81_8, .int .i64 t81_9, .int .u64 t81_10, .int .i64 t81_11, .int .i64 t81_12, .int .i64 t81_13, .int .i64 t81_14, .int .i64 t81_15, .int .i64 t81_16, .int .i64 t81_17, .int .u64 t81_18, .int .i64 t81_19, .int .i64 t81_20, .int .i64 t81_21, .int .i64 t81_22, .int .i64 t81_23]), IsV (.bool t81_24), IsB #[.int .i64 0, .int .i64 0, .int .i64 0, .int .i64 0, .int .u64 0, .int .i64 0, .int .i64 0, .int .i64 0, .int .i64 0, .int .u64 0, .int .i64 0, .int .i64 0, .int .i64 0, .int .i64 0, .int .i64 0, .int .i64 0, .int .i64 0, .int .u64 0, .int .i64 0, .int .i64 0, .int .i64 0, .int .i64 0, .int .i64 0] 34 w78.heap.size]) (by kernel_rfl) ?_ ?_ rfl hS ⟨hBw78_w, hBw78_w3, hBw78_w5, hBw78_w9, hBw78_w14, hBw78_w74, hBw78_w78⟩ ?_ ?_
                              · exact fun x y hI hb => ⟨below_step hI.1 hb, below_step hI.2.1 hb, below_step hI.2.2.1 hb, below_step hI.2.2.2.1 hb, below_step hI.2.2.2.2.1 hb, below_step hI.2.2.2.2.2.1 hb, below_step hI.2.2.2.2.2.2 hb⟩
                              · exact AllStay.cons (Stays.v _) (AllStay.cons (Stays.v _) (AllStay.cons (Stays.v _) (AllStay.cons (Stays.v _) (AllStay.cons (Stays.v _) (AllStay.cons (Stays.v _) (AllStay.cons (Stays.v _) (AllStay.cons (Stays.b _ _ _) (AllStay.nil))))))))
                              · refine Steps.cons (fun a w hS hI hp => ok_on rfl (does_loadrow rfl (hS.get 14 rfl) (((hI.2.2.2.2.2.1).block g40 (blk_lt hn76)).trans hn76) Try.underlying34 rfl (by kernel_rfl) rfl)) ?_
                                refine Steps.cons (fun a w hS hI hp => ok_on rfl (does_loadrow rfl (hS.get 21 rfl) (((hI.2.2.1).block g6 (blk_lt hbxg6)).trans hbxg6) Try.underlying24 rfl (by kernel_rfl) rfl)) ?_
                                refine Steps.cons (fun a w hS hI hp => ok_on rfl (does_val (x_move rfl (hS.get 15 rfl)) rfl)) ?_
                                refine Steps.cons (fun a w hS hI hp => ok_on rfl (does_call (by kernel_rfl) (ar4 ((hp.get 0 (by rfl) rfl rfl)) ((hp.get 1 (by rfl) rfl rfl)) ((hp.get 2 (by rfl) rfl rfl)) (rfl)) ((delay_Answer.calls t37_1 t37_2 t37_3 t48 t37_5 t37_6 t37_7 t37_8 t37_9 t37_10 t37_11 t37_12 t37_13 t37_14 t37_15 t37_16 t37_17 t37_18 t37_19 t37_20 t37_21 t37_22 t37_23 a1_0 a1_1 t30 0 t81_1 t81_2 t81_3 t81_4 t81_5 t81_6 t81_7 t81_8 t81_9 t81_10 t81_11 t81_12 t81_13 t81_14 t81_15 t81_16 t81_17 t81_18 t81_19 t81_20 t81_21 t81_22 t81_23 t81_24 _  At81).mono fun _ _ h => ⟨_, h.1, h.2, rfl⟩))) ?_
                                refine Steps.cons (fun a w hS hI hp => ok_on rfl (does_val (x_move rfl ((hp.get 3 (by rfl) rfl rfl))) rfl)) ?_
                                refine Steps.cons (fun a w hS hI hp => ok_on rfl (does_val (x_extract rfl ((hp.get 4 (by rfl) rfl rfl)) rfl) rfl)) ?_
                                refine Steps.cons (fun a w hS hI hp => ok_on rfl (does_val (x_extract rfl ((hp.get 4 (by rfl) rfl rfl)) rfl) rfl)) ?_
                                refine Steps.cons (fun a w hS hI hp => ok_on rfl (does_var (x_alloc rfl (by kernel_rfl)) (hI.2.2.2.2.2.2).size)) ?_
                                exact Steps.nil
                              clear hS
                              intro at82 w83 hS hI hp
                              have hBw83_w := hI.1
                              have hBw83_w3 := hI.2.1
                              have hBw83_w5 := hI.2.2.1
                              have hBw83_w9 := hI.2.2.2.1
                              have hBw83_w14 := hI.2.2.2.2.1
                              have hBw83_w74 := hI.2.2.2.2.2.1
                              have hBw83_w78 := hI.2.2.2.2.2.2
                              replace hS := ((((((((((hS.nil).cons (hS.get 22 rfl)).cons (hS.get 21 rfl)).cons (hS.get 20 rfl)).cons (hS.get 19 rfl)).cons (hS.get 18 rfl)).cons (hS.get 17 rfl)).cons (hS.get 16 rfl)).cons (hS.get 15 rfl)).cons (hS.get 14 rfl)).cons (hS.get 0 rfl)
                              have hv71 : sl _ 71 = .agg #[.int .i64 t81_1, .int .i64 t81_2, .int .i64 t81_3, .int .i64 t81_4, .int .u64 t81_5, .int .i64 t81_6, .int .i64 t81_7, .int .i64 t81_8, .int .i64 t81_9, .int .u64 t81_10, .int .i64 t81_11, .int .i64 t81_12, .int .i64 t81_13, .int .i64 t81_14, .int .i64 t81_15, .int .i64 t81_16, .int .i64 t81_17, .int .u64 t81_18, .int .i64 t81_19, .int .i64 t81_20, .int .i64 t81_21, .int .i64 t81_22, .int .i64 t81_23] := hp 5 (by decide)
                              have hv72 : sl _ 72 = .bool t81_24 := hp 6 (by decide)
                              obtain ⟨g84, hv19, hgeg84, hbxg84⟩ := (show IsB _ 34 _ (sl _ 19) _ from hp 7 (by decide))
                              have hne85 : g84 ≠ g4 := Nat.ne_of_gt (Nat.lt_of_lt_of_le (blk_lt ((hBw78_w3.block g4 (blk_lt hbxg4)).trans hbxg4)) hgeg84)
                              have hne86 : g84 ≠ g6 := Nat.ne_of_gt (Nat.lt_of_lt_of_le (blk_lt ((hBw78_w5.block g6 (blk_lt hbxg6)).trans hbxg6)) hgeg84)
                              have hne87 : g84 ≠ g10 := Nat.ne_of_gt (Nat.lt_of_lt_of_le (blk_lt ((hBw78_w9.block g10 (blk_lt hbxg10)).trans hbxg10)) hgeg84)
                              have hne88 : g84 ≠ g20 := Nat.ne_of_gt (Nat.lt_of_lt_of_le (blk_lt ((hBw78_w74.block g20 (blk_lt hbxw74)).trans hbxw74)) hgeg84)
                              have hne89 : g84 ≠ g40 := Nat.ne_of_gt (Nat.lt_of_lt_of_le (blk_lt ((hBw78_w74.block g40 (blk_lt hn76)).trans hn76)) hgeg84)
                              have hBw83_w83 := Below.refl w83.heap.size w83
                              have hS := hS.cons hv71
                              have hS := hS.cons hv72
                              have hS := hS.cons hv19
                              clear hp hI hv71 hv72 hv19
                              show wpList _ _ _ [_, _] _ _
                              refine list_step rfl (does_storeAll (g := g84) (cs := #[.int .i64 t81_1, .int .i64 t81_2, .int .i64 t81_3, .int .i64 t81_4, .int .u64 t81_5, .int .i64 t81_6, .int .i64 t81_7, .int .i64 t81_8, .int .i64 t81_9, .int .u64 t81_10, .int .i64 t81_11, .int .i64 t81_12, .int .i64 t81_13, .int .i64 t81_14, .int .i64 t81_15, .int .i64 t81_16, .int .i64 t81_17, .int .u64 t81_18, .int .i64 t81_19, .int .i64 t81_20, .int .i64 t81_21, .int .i64 t81_22, .int .i64 t81_23]) rfl (hS.get 0 rfl) (hS.get 2 rfl) ((hBw83_w83.block g84 (blk_lt hbxg84)).trans hbxg84) (by kernel_rfl) (by kernel_rfl) (by kernel_rfl)) ?_
                              rintro vw90 w90 ⟨rfl, hbxw90, hT⟩
                              have hBw90_w := hT.below hBw83_w (Nat.le_trans (hBw78_w).size hgeg84) (hBw83_w).size
                              have hBw90_w3 := hT.below hBw83_w3 (Nat.le_trans (hBw78_w3).size hgeg84) (hBw83_w3).size
                              have hBw90_w5 := hT.below hBw83_w5 (Nat.le_trans (hBw78_w5).size hgeg84) (hBw83_w5).size
                              have hBw90_w9 := hT.below hBw83_w9 (Nat.le_trans (hBw78_w9).size hgeg84) (hBw83_w9).size
                              have hBw90_w14 := hT.below hBw83_w14 (Nat.le_trans (hBw78_w14).size hgeg84) (hBw83_w14).size
                              have hBw90_w74 := hT.below hBw83_w74 (Nat.le_trans (hBw78_w74).size hgeg84) (hBw83_w74).size
                              have hBw90_w78 := hT.below hBw83_w78 hgeg84 (hBw83_w78).size
                              have hBw90_w90 := Below.refl w90.heap.size w90
                              clear hT
                              refine list_step rfl (R := fun v w' => Below _ _ w' ∧ (IsV (.bool t81_24)) v w') (does_val (x_assign rfl (hS.get 1 rfl)) rfl) ?_
                              rintro vw91 w91 ⟨hb, he⟩
                              have hBw91_w := below_step hBw90_w hb
                              have hBw91_w3 := below_step hBw90_w3 hb
                              have hBw91_w5 := below_step hBw90_w5 hb
                              have hBw91_w9 := below_step hBw90_w9 hb
                              have hBw91_w14 := below_step hBw90_w14 hb
                              have hBw91_w74 := below_step hBw90_w74 hb
                              have hBw91_w78 := below_step hBw90_w78 hb
                              have hBw91_w90 := below_step hBw90_w90 hb
                              have hBw91_w91 := Below.refl w91.heap.size w91
                              obtain rfl : vw91 = .bool t81_24 := he
                              refine hS.next (v := .bool t81_24) (d := 20) rfl (by decide) (by rfl) ?_
                              clear hS
                              intro at92 hS
                              refine wpList_nil ?_
                              refine hK80 _ _ ?_
                              clear hK80 K80
                              refine wp_seq_k (fun K93 hK93 => ?_)
                              refine wp_seq_k (fun K94 hK94 => ?_)
                              refine reg_seq (N := 144) (bs := [(20, .bool t81_24), (19, .pointer (some ⟨g84, 0, none⟩)), (72, .bool t81_24), (71, .agg #[.int .i64 t81_1, .int .i64 t81_2, .int .i64 t81_3, .int .i64 t81_4, .int .u64 t81_5, .int .i64 t81_6, .int .i64 t81_7, .int .i64 t81_8, .int .i64 t81_9, .int .u64 t81_10, .int .i64 t81_11, .int .i64 t81_12, .int .i64 t81_13, .int .i64 t81_14, .int .i64 t81_15, .int .i64 t81_16, .int .i64 t81_17, .int .u64 t81_18, .int .i64 t81_19, .int .i64 t81_20, .int .i64 t81_21, .int .i64 t81_22, .int .i64 t81_23]), (65, .bool t75_1), (18, .pointer (some ⟨g40, 0, none⟩)), (17, .int .i64 t30), (16, .int .i64 t29), (31, .bool false), (15, .pointer (some ⟨g20, 0, none⟩)), (14, .bool false), (13, .pointer (some ⟨g10, 0, none⟩)), (8, .pointer (some ⟨g6, 0, none⟩)), (7, .pointer (some ⟨g4, 0, none⟩))]) (I := fun x => Below w.heap.size w x ∧ Below w3.heap.size w3 x ∧ Below w5.heap.size w5 x ∧ Below w9.heap.size w9 x ∧ Below w14.heap.size w14 x ∧ Below w74.heap.size w74 x ∧ Below w78.heap.size w78 x ∧ Below w90.heap.size w90 x ∧ Below w91.heap.size w91 x) (ps := [IsV (.bool t81_24), IsV (.bool (!t81_24)), IsV (.bool (!t81_24)), IsV (.pointer (some ⟨g84, 9, none⟩)), IsV (.agg #[.int .u64 t81_10, .int .i64 t81_11]), IsV (.agg #[.int .u64 a0_0, .int .i64 a0_1]), IsV (.bool (!((t81_10 == a0_0) && (t81_11 == a0_1)))), IsV (.bool (!((t81_10 == a0_0) && (t81_11 == a0_1)))), IsV (.bool (!((t81_10 == a0_0) && (t81_11 == a0_1)))), IsV (.pointer (some ⟨g84, 4, none⟩)), IsV (.agg #[.int .u64 t81_5, .int .i64 t81_6]), IsV (.agg #[.int .u64 a1_0, .int .i64 a1_1]), IsV (.bool (!((t81_5 == a1_0) && (t81_6 == a1_1)))), IsV (.bool (!((t81_5 == a1_0) && (t81_6 == a1_1)))), IsV (.bool (!((t81_5 == a1_0) && (t81_6 == a1_1)))), IsV (.pointer (some ⟨g84, 6, none⟩)), IsV (.int .i64 t81_7), IsV (.pointer (some ⟨g40, 6, none⟩)), IsV (.int .i64 t37_7), IsV (.bool (!decide (t81_7 = t37_7))), IsV (.bool (!decide (t81_7 = t37_7))), IsV (.bool (!decide (t81_7 = t37_7))), IsV (.pointer (some ⟨g84, 8, none⟩)), IsV (.int .i64 t81_9), IsV (.int .i64 t30), IsV (.bool (!decide (t81_9 = t30))), IsV (.bool (!decide (t81_9 = t30)))]) (by kernel_rfl) ?_ ?_ rfl hS ⟨hBw91_w, hBw91_w3, hBw91_w5, hBw91_w9, hBw91_w14, hBw91_w74, hBw91_w78, hBw91_w90, hBw91_w91⟩ ?_ ?_
                              · exact fun x y hI hb => ⟨below_step hI.1 hb, below_step hI.2.1 hb, below_step hI.2.2.1 hb, below_step hI.2.2.2.1 hb, below_step hI.2.2.2.2.1 hb, below_step hI.2.2.2.2.2.1 hb, below_step hI.2.2.2.2.2.2.1 hb, below_step hI.2.2.2.2.2.2.2.1 hb, below_step hI.2.2.2.2.2.2.2.2 hb⟩
                              · exact AllStay.cons (Stays.v _) (AllStay.cons (Stays.v _) (AllStay.cons (Stays.v _) (AllStay.cons (Stays.v _) (AllStay.cons (Stays.v _) (AllStay.cons (Stays.v _) (AllStay.cons (Stays.v _) (AllStay.cons (Stays.v _) (AllStay.cons (Stays.v _) (AllStay.cons (Stays.v _) (AllStay.cons (Stays.v _) (AllStay.cons (Stays.v _) (AllStay.cons (Stays.v _) (AllStay.cons (Stays.v _) (AllStay.cons (Stays.v _) (AllStay.cons (Stays.v _) (AllStay.cons (Stays.v _) (AllStay.cons (Stays.v _) (AllStay.cons (Stays.v _) (AllStay.cons (Stays.v _) (AllStay.cons (Stays.v _) (AllStay.cons (Stays.v _) (AllStay.cons (Stays.v _) (AllStay.cons (Stays.v _) (AllStay.cons (Stays.v _) (AllStay.cons (Stays.v _) (AllStay.cons (Stays.v _) (AllStay.nil)))))))))))))))))))))))))))
                              · refine Steps.cons (fun a w hS hI hp => ok_on rfl (does_val (x_move rfl (hS.get 0 rfl)) rfl)) ?_
                                refine Steps.cons (fun a w hS hI hp => ok_on rfl (does_val (x_not rfl ((hp.get 0 (by rfl) rfl rfl))) rfl)) ?_
                                refine Steps.cons (fun a w hS hI hp => ok_on rfl (does_val (x_move rfl ((hp.get 1 (by rfl) rfl rfl))) rfl)) ?_
                                refine Steps.cons (fun a w hS hI hp => ok_if (d := 75) rfl rfl (by rw [hS.size]; decide) (((hp.get 2 (by rfl) rfl rfl)).trans (bF (congrArg (!·) c5))) (does_val (x_field rfl (hS.get 1 rfl) Try.underlying34 rfl (by kernel_rfl)) rfl)) ?_
                                refine Steps.cons (fun a w hS hI hp => ok_if (d := 75) rfl rfl (by rw [hS.size]; decide) (((hp.get 2 (by rfl) rfl rfl)).trans (bF (congrArg (!·) c5))) (does_loadmid (cs := [.int .u64 t81_10, .int .i64 t81_11]) rfl ((hp.get 3 (by rfl) rfl rfl)) (((hI.2.2.2.2.2.2.2.1).block g84 (blk_lt hbxw90)).trans hbxw90) rfl Try.underlying24 rfl (by kernel_rfl) rfl)) ?_
                                refine Steps.cons (fun a w hS hI hp => ok_if (d := 75) rfl rfl (by rw [hS.size]; decide) (((hp.get 2 (by rfl) rfl rfl)).trans (bF (congrArg (!·) c5))) (does_loadrow rfl (hS.get 13 rfl) (((hI.2.1).block g4 (blk_lt hbxg4)).trans hbxg4) Try.underlying24 rfl (by kernel_rfl) rfl)) ?_
                                refine Steps.cons (fun a w hS hI hp => ok_if (d := 75) rfl rfl (by rw [hS.size]; decide) (((hp.get 2 (by rfl) rfl rfl)).trans (bF (congrArg (!·) c5))) (does_val (x_bin rfl ((hp.get 4 (by rfl) rfl rfl)) ((hp.get 5 (by rfl) rfl rfl)) (carillonlaw17_DelayRound.neq24 _ _ _ t81_10 t81_11 a0_0 a0_1)) rfl)) ?_
                                refine Steps.cons (fun a w hS hI hp => ok_on rfl (does_val (x_pickF rfl (((hp.get 2 (by rfl) rfl rfl)).trans (bF (congrArg (!·) c5))) ((hp.get 6 (by rfl) rfl rfl))) rfl)) ?_
                                refine Steps.cons (fun a w hS hI hp => ok_on rfl (does_val (x_move rfl ((hp.get 7 (by rfl) rfl rfl))) rfl)) ?_
                                refine Steps.cons (fun a w hS hI hp => ok_if (d := 81) rfl rfl (by rw [hS.size]; decide) (((hp.get 8 (by rfl) rfl rfl)).trans (bF (congrArg (!·) c6))) (does_val (x_field rfl (hS.get 1 rfl) Try.underlying34 rfl (by kernel_rfl)) rfl)) ?_
                                refine Steps.cons (fun a w hS hI hp => ok_if (d := 81) rfl rfl (by rw [hS.size]; decide) (((hp.get 8 (by rfl) rfl rfl)).trans (bF (congrArg (!·) c6))) (does_loadmid (cs := [.int .u64 t81_5, .int .i64 t81_6]) rfl ((hp.get 9 (by rfl) rfl rfl)) (((hI.2.2.2.2.2.2.2.1).block g84 (blk_lt hbxw90)).trans hbxw90) rfl Try.underlying24 rfl (by kernel_rfl) rfl)) ?_
                                refine Steps.cons (fun a w hS hI hp => ok_if (d := 81) rfl rfl (by rw [hS.size]; decide) (((hp.get 8 (by rfl) rfl rfl)).trans (bF (congrArg (!·) c6))) (does_loadrow rfl (hS.get 12 rfl) (((hI.2.2.1).block g6 (blk_lt hbxg6)).trans hbxg6) Try.underlying24 rfl (by kernel_rfl) rfl)) ?_
                                refine Steps.cons (fun a w hS hI hp => ok_if (d := 81) rfl rfl (by rw [hS.size]; decide) (((hp.get 8 (by rfl) rfl rfl)).trans (bF (congrArg (!·) c6))) (does_val (x_bin rfl ((hp.get 10 (by rfl) rfl rfl)) ((hp.get 11 (by rfl) rfl rfl)) (carillonlaw17_DelayRound.neq24 _ _ _ t81_5 t81_6 a1_0 a1_1)) rfl)) ?_
                                refine Steps.cons (fun a w hS hI hp => ok_on rfl (does_val (x_pickF rfl (((hp.get 8 (by rfl) rfl rfl)).trans (bF (congrArg (!·) c6))) ((hp.get 12 (by rfl) rfl rfl))) rfl)) ?_
                                refine Steps.cons (fun a w hS hI hp => ok_on rfl (does_val (x_move rfl ((hp.get 13 (by rfl) rfl rfl))) rfl)) ?_
                                refine Steps.cons (fun a w hS hI hp => ok_if (d := 87) rfl rfl (by rw [hS.size]; decide) (((hp.get 14 (by rfl) rfl rfl)).trans (bF (congrArg (!·) c7))) (does_val (x_field rfl (hS.get 1 rfl) Try.underlying34 rfl (by kernel_rfl)) rfl)) ?_
                                refine Steps.cons (fun a w hS hI hp => ok_if (d := 87) rfl rfl (by rw [hS.size]; decide) (((hp.get 14 (by rfl) rfl rfl)).trans (bF (congrArg (!·) c7))) (does_val (x_load1 (d := .int .i64) rfl ((hp.get 15 (by rfl) rfl rfl)) (by kernel_rfl) rfl ((blk_cell (((hI.2.2.2.2.2.2.2.1).block g84 (blk_lt hbxw90)).trans hbxw90) 6).trans rfl)) rfl)) ?_
                                refine Steps.cons (fun a w hS hI hp => ok_if (d := 87) rfl rfl (by rw [hS.size]; decide) (((hp.get 14 (by rfl) rfl rfl)).trans (bF (congrArg (!·) c7))) (does_val (x_field rfl (hS.get 5 rfl) Try.underlying34 rfl (by kernel_rfl)) rfl)) ?_
                                refine Steps.cons (fun a w hS hI hp => ok_if (d := 87) rfl rfl (by rw [hS.size]; decide) (((hp.get 14 (by rfl) rfl rfl)).trans (bF (congrArg (!·) c7))) (does_val (x_load1 (d := .int .i64) rfl ((hp.get 17 (by rfl) rfl rfl)) (by kernel_rfl) rfl ((blk_cell (((hI.2.2.2.2.2.1).block g40 (blk_lt hn76)).trans hn76) 6).trans rfl)) rfl)) ?_
                                refine Steps.cons (fun a w hS hI hp => ok_if (d := 87) rfl rfl (by rw [hS.size]; decide) (((hp.get 14 (by rfl) rfl rfl)).trans (bF (congrArg (!·) c7))) (does_val (x_bin rfl ((hp.get 16 (by rfl) rfl rfl)) ((hp.get 18 (by rfl) rfl rfl)) (b_neq _ _ _ _ _ _)) rfl)) ?_
                                refine Steps.cons (fun a w hS hI hp => ok_on rfl (does_val (x_pickF rfl (((hp.get 14 (by rfl) rfl rfl)).trans (bF (congrArg (!·) c7))) ((hp.get 19 (by rfl) rfl rfl))) rfl)) ?_
                                refine Steps.cons (fun a w hS hI hp => ok_on rfl (does_val (x_move rfl ((hp.get 20 (by rfl) rfl rfl))) rfl)) ?_
                                refine Steps.cons (fun a w hS hI hp => ok_if (d := 94) rfl rfl (by rw [hS.size]; decide) (((hp.get 21 (by rfl) rfl rfl)).trans (bF (congrArg (!·) (decide_eq_true c8)))) (does_val (x_field rfl (hS.get 1 rfl) Try.underlying34 rfl (by kernel_rfl)) rfl)) ?_
                                refine Steps.cons (fun a w hS hI hp => ok_if (d := 94) rfl rfl (by rw [hS.size]; decide) (((hp.get 21 (by rfl) rfl rfl)).trans (bF (congrArg (!·) (decide_eq_true c8)))) (does_val (x_load1 (d := .int .i64) rfl ((hp.get 22 (by rfl) rfl rfl)) (by kernel_rfl) rfl ((blk_cell (((hI.2.2.2.2.2.2.2.1).block g84 (blk_lt hbxw90)).trans hbxw90) 8).trans rfl)) rfl)) ?_
                                refine Steps.cons (fun a w hS hI hp => ok_if (d := 94) rfl rfl (by rw [hS.size]; decide) (((hp.get 21 (by rfl) rfl rfl)).trans (bF (congrArg (!·) (decide_eq_true c8)))) (does_val (x_move rfl (hS.get 6 rfl)) rfl)) ?_
                                refine Steps.cons (fun a w hS hI hp => ok_if (d := 94) rfl rfl (by rw [hS.size]; decide) (((hp.get 21 (by rfl) rfl rfl)).trans (bF (congrArg (!·) (decide_eq_true c8)))) (does_val (x_bin rfl ((hp.get 23 (by rfl) rfl rfl)) ((hp.get 24 (by rfl) rfl rfl)) (b_neq _ _ _ _ _ _)) rfl)) ?_
                                refine Steps.cons (fun a w hS hI hp => ok_on rfl (does_val (x_pickF rfl (((hp.get 21 (by rfl) rfl rfl)).trans (bF (congrArg (!·) (decide_eq_true c8)))) ((hp.get 25 (by rfl) rfl rfl))) rfl)) ?_
                                exact Steps.nil
                              clear hS
                              intro at95 w96 hS hI hp
                              have hBw96_w := hI.1
                              have hBw96_w3 := hI.2.1
                              have hBw96_w5 := hI.2.2.1
                              have hBw96_w9 := hI.2.2.2.1
                              have hBw96_w14 := hI.2.2.2.2.1
                              have hBw96_w74 := hI.2.2.2.2.2.1
                              have hBw96_w78 := hI.2.2.2.2.2.2.1
                              have hBw96_w90 := hI.2.2.2.2.2.2.2.1
                              have hBw96_w91 := hI.2.2.2.2.2.2.2.2
                              replace hS := ((((((((((hS.nil).cons (hS.get 13 rfl)).cons (hS.get 11 rfl)).cons (hS.get 10 rfl)).cons (hS.get 9 rfl)).cons (hS.get 8 rfl)).cons (hS.get 7 rfl)).cons (hS.get 6 rfl)).cons (hS.get 5 rfl)).cons (hS.get 4 rfl)).cons (hS.get 1 rfl)
                              have hv99 : sl _ 99 = .bool (!decide (t81_9 = t30)) := hp 26 (by decide)
                              have hBw96_w96 := Below.refl w96.heap.size w96
                              have hS := hS.cons hv99
                              clear hp hI hv99
                              refine hK94 _ _ ?_
                              clear hK94 K94
                              refine wp_cond_false ((hS.get 0 rfl).trans (bF (congrArg (!·) (decide_eq_true c9)))) ?_
                              refine wp_skip ?_
                              refine hK93 _ _ ?_
                              clear hK93 K93
                              refine wp_seq_k (fun K97 hK97 => ?_)
                              refine reg_seq_tail 2 (N := 144) (bs := [(99, .bool (!decide (t81_9 = t30))), (19, .pointer (some ⟨g84, 0, none⟩)), (65, .bool t75_1), (18, .pointer (some ⟨g40, 0, none⟩)), (17, .int .i64 t30), (16, .int .i64 t29), (31, .bool false), (15, .pointer (some ⟨g20, 0, none⟩)), (14, .bool false), (13, .pointer (some ⟨g10, 0, none⟩)), (7, .pointer (some ⟨g4, 0, none⟩))]) (I := fun x => Below w.heap.size w x ∧ Below w3.heap.size w3 x ∧ Below w5.heap.size w5 x ∧ Below w9.heap.size w9 x ∧ Below w14.heap.size w14 x ∧ Below w74.heap.size w74 x ∧ Below w78.heap.size w78 x ∧ Below w90.heap.size w90 x ∧ Below w96.heap.size w96 x) (ps := [IsV (.agg #[.int .i64 t81_1, .int .i64 t81_2, .int .i64 t81_3, .int .i64 t81_4, .int .u64 t81_5, .int .i64 t81_6, .int .i64 t81_7, .int .i64 t81_8, .int .i64 t81_9, .int .u64 t81_10, .int .i64 t81_11, .int .i64 t81_12, .int .i64 t81_13, .int .i64 t81_14, .int .i64 t81_15, .int .i64 t81_16, .int .i64 t81_17, .int .u64 t81_18, .int .i64 t81_19, .int .i64 t81_20, .int .i64 t81_21, .int .i64 t81_22, .int .i64 t81_23]), IsB #[.int .i64 0, .int .i64 0, .int .i64 0, .int .i64 0, .int .u64 0, .int .i64 0, .int .i64 0, .int .i64 0, .int .i64 0, .int .u64 0, .int .i64 0, .int .i64 0, .int .i64 0, .int .i64 0, .int .i64 0, .int .i64 0, .int .i64 0, .int .u64 0, .int .i64 0, .int .i64 0, .int .i64 0, .int .i64 0, .int .i64 0] 34 w96.heap.size]) (by kernel_rfl) ?_ ?_ rfl hS ⟨hBw96_w, hBw96_w3, hBw96_w5, hBw96_w9, hBw96_w14, hBw96_w74, hBw96_w78, hBw96_w90, hBw96_w96⟩ ?_ ?_
                              · exact fun x y hI hb => ⟨below_step hI.1 hb, below_step hI.2.1 hb, below_step hI.2.2.1 hb, below_step hI.2.2.2.1 hb, below_step hI.2.2.2.2.1 hb, below_step hI.2.2.2.2.2.1 hb, below_step hI.2.2.2.2.2.2.1 hb, below_step hI.2.2.2.2.2.2.2.1 hb, below_step hI.2.2.2.2.2.2.2.2 hb⟩
                              · exact AllStay.cons (Stays.v _) (AllStay.cons (Stays.b _ _ _) (AllStay.nil))
                              · refine Steps.cons (fun a w hS hI hp => ok_on rfl (does_loadrow rfl (hS.get 1 rfl) (((hI.2.2.2.2.2.2.2.1).block g84 (blk_lt hbxw90)).trans hbxw90) Try.underlying34 rfl (by kernel_rfl) rfl)) ?_
                                refine Steps.cons (fun a w hS hI hp => ok_on rfl (does_var (x_alloc rfl (by kernel_rfl)) (hI.2.2.2.2.2.2.2.2).size)) ?_
                                exact Steps.nil
                              clear hS
                              intro at98 w99 hS hI hp
                              have hBw99_w := hI.1
                              have hBw99_w3 := hI.2.1
                              have hBw99_w5 := hI.2.2.1
                              have hBw99_w9 := hI.2.2.2.1
                              have hBw99_w14 := hI.2.2.2.2.1
                              have hBw99_w74 := hI.2.2.2.2.2.1
                              have hBw99_w78 := hI.2.2.2.2.2.2.1
                              have hBw99_w90 := hI.2.2.2.2.2.2.2.1
                              have hBw99_w96 := hI.2.2.2.2.2.2.2.2
                              have hv100 : sl _ 100 = .agg #[.int .i64 t81_1, .int .i64 t81_2, .int .i64 t81_3, .int .i64 t81_4, .int .u64 t81_5, .int .i64 t81_6, .int .i64 t81_7, .int .i64 t81_8, .int .i64 t81_9, .int .u64 t81_10, .int .i64 t81_11, .int .i64 t81_12, .int .i64 t81_13, .int .i64 t81_14, .int .i64 t81_15, .int .i64 t81_16, .int .i64 t81_17, .int .u64 t81_18, .int .i64 t81_19, .int .i64 t81_20, .int .i64 t81_21, .int .i64 t81_22, .int .i64 t81_23] := hp 0 (by decide)
                              obtain ⟨g100, hv21, hgeg100, hbxg100⟩ := (show IsB _ 34 _ (sl _ 21) _ from hp 1 (by decide))
                              have hne101 : g100 ≠ g4 := Nat.ne_of_gt (Nat.lt_of_lt_of_le (blk_lt ((hBw96_w3.block g4 (blk_lt hbxg4)).trans hbxg4)) hgeg100)
                              have hne102 : g100 ≠ g6 := Nat.ne_of_gt (Nat.lt_of_lt_of_le (blk_lt ((hBw96_w5.block g6 (blk_lt hbxg6)).trans hbxg6)) hgeg100)
                              have hne103 : g100 ≠ g10 := Nat.ne_of_gt (Nat.lt_of_lt_of_le (blk_lt ((hBw96_w9.block g10 (blk_lt hbxg10)).trans hbxg10)) hgeg100)
                              have hne104 : g100 ≠ g20 := Nat.ne_of_gt (Nat.lt_of_lt_of_le (blk_lt ((hBw96_w74.block g20 (blk_lt hbxw74)).trans hbxw74)) hgeg100)
                              have hne105 : g100 ≠ g40 := Nat.ne_of_gt (Nat.lt_of_lt_of_le (blk_lt ((hBw96_w74.block g40 (blk_lt hn76)).trans hn76)) hgeg100)
                              have hne106 : g100 ≠ g84 := Nat.ne_of_gt (Nat.lt_of_lt_of_le (blk_lt ((hBw96_w90.block g84 (blk_lt hbxw90)).trans hbxw90)) hgeg100)
                              have hBw99_w99 := Below.refl w99.heap.size w99
                              have hS := hS.cons hv100
                              have hS := hS.cons hv21
                              clear hp hI hv100 hv21
                              show wpList _ _ _ [_] _ _
                              refine list_step rfl (does_storeAll (g := g100) (cs := #[.int .i64 t81_1, .int .i64 t81_2, .int .i64 t81_3, .int .i64 t81_4, .int .u64 t81_5, .int .i64 t81_6, .int .i64 t81_7, .int .i64 t81_8, .int .i64 t81_9, .int .u64 t81_10, .int .i64 t81_11, .int .i64 t81_12, .int .i64 t81_13, .int .i64 t81_14, .int .i64 t81_15, .int .i64 t81_16, .int .i64 t81_17, .int .u64 t81_18, .int .i64 t81_19, .int .i64 t81_20, .int .i64 t81_21, .int .i64 t81_22, .int .i64 t81_23]) rfl (hS.get 0 rfl) (hS.get 1 rfl) ((hBw99_w99.block g100 (blk_lt hbxg100)).trans hbxg100) (by kernel_rfl) (by kernel_rfl) (by kernel_rfl)) ?_
                              rintro vw107 w107 ⟨rfl, hbxw107, hT⟩
                              have hBw107_w := hT.below hBw99_w (Nat.le_trans (hBw96_w).size hgeg100) (hBw99_w).size
                              have hBw107_w3 := hT.below hBw99_w3 (Nat.le_trans (hBw96_w3).size hgeg100) (hBw99_w3).size
                              have hBw107_w5 := hT.below hBw99_w5 (Nat.le_trans (hBw96_w5).size hgeg100) (hBw99_w5).size
                              have hBw107_w9 := hT.below hBw99_w9 (Nat.le_trans (hBw96_w9).size hgeg100) (hBw99_w9).size
                              have hBw107_w14 := hT.below hBw99_w14 (Nat.le_trans (hBw96_w14).size hgeg100) (hBw99_w14).size
                              have hBw107_w74 := hT.below hBw99_w74 (Nat.le_trans (hBw96_w74).size hgeg100) (hBw99_w74).size
                              have hBw107_w78 := hT.below hBw99_w78 (Nat.le_trans (hBw96_w78).size hgeg100) (hBw99_w78).size
                              have hBw107_w90 := hT.below hBw99_w90 (Nat.le_trans (hBw96_w90).size hgeg100) (hBw99_w90).size
                              have hBw107_w96 := hT.below hBw99_w96 hgeg100 (hBw99_w96).size
                              have hBw107_w107 := Below.refl w107.heap.size w107
                              clear hT
                              refine wpList_nil ?_
                              refine hK97 _ _ ?_
                              clear hK97 K97
                              refine wp_seq_k (fun K108 hK108 => ?_)
                              refine reg_seq_tail 2 (N := 144) (bs := [(21, .pointer (some ⟨g100, 0, none⟩)), (100, .agg #[.int .i64 t81_1, .int .i64 t81_2, .int .i64 t81_3, .int .i64 t81_4, .int .u64 t81_5, .int .i64 t81_6, .int .i64 t81_7, .int .i64 t81_8, .int .i64 t81_9, .int .u64 t81_10, .int .i64 t81_11, .int .i64 t81_12, .int .i64 t81_13, .int .i64 t81_14, .int .i64 t81_15, .int .i64 t81_16, .int .i64 t81_17, .int .u64 t81_18, .int .i64 t81_19, .int .i64 t81_20, .int .i64 t81_21, .int .i64 t81_22, .int .i64 t81_23]), (99, .bool (!decide (t81_9 = t30))), (19, .pointer (some ⟨g84, 0, none⟩)), (65, .bool t75_1), (18, .pointer (some ⟨g40, 0, none⟩)), (17, .int .i64 t30), (16, .int .i64 t29), (31, .bool false), (15, .pointer (some ⟨g20, 0, none⟩)), (14, .bool false), (13, .pointer (some ⟨g10, 0, none⟩)), (7, .pointer (some ⟨g4, 0, none⟩))]) (I := fun x => Below w.heap.size w x ∧ Below w3.heap.size w3 x ∧ Below w5.heap.size w5 x ∧ Below w9.heap.size w9 x ∧ Below w14.heap.size w14 x ∧ Below w74.heap.size w74 x ∧ Below w78.heap.size w78 x ∧ Below w90.heap.size w90 x ∧ Below w96.heap.size w96 x ∧ Below w107.heap.size w107 x) (ps := [IsV (.agg #[.int .u64 a6_0, .int .i64 a6_1]), IsV (.pointer (some ⟨g100, 9, none⟩))]) (by kernel_rfl) ?_ ?_ rfl hS ⟨hBw107_w, hBw107_w3, hBw107_w5, hBw107_w9, hBw107_w14, hBw107_w74, hBw107_w78, hBw107_w90, hBw107_w96, hBw107_w107⟩ ?_ ?_
                              · exact fun x y hI hb => ⟨below_step hI.1 hb, below_step hI.2.1 hb, below_step hI.2.2.1 hb, below_step hI.2.2.2.1 hb, below_step hI.2.2.2.2.1 hb, below_step hI.2.2.2.2.2.1 hb, below_step hI.2.2.2.2.2.2.1 hb, below_step hI.2.2.2.2.2.2.2.1 hb, below_step hI.2.2.2.2.2.2.2.2.1 hb, below_step hI.2.2.2.2.2.2.2.2.2 hb⟩
                              · exact AllStay.cons (Stays.v _) (AllStay.cons (Stays.v _) (AllStay.nil))
                              · refine Steps.cons (fun a w hS hI hp => ok_on rfl (does_loadrow rfl (hS.get 11 rfl) (((hI.2.2.2.1).block g10 (blk_lt hbxg10)).trans hbxg10) Try.underlying24 rfl (by kernel_rfl) rfl)) ?_
                                refine Steps.cons (fun a w hS hI hp => ok_on rfl (does_val (x_field rfl (hS.get 0 rfl) Try.underlying34 rfl (by kernel_rfl)) rfl)) ?_
                                exact Steps.nil
                              clear hS
                              intro at109 w110 hS hI hp
                              have hBw110_w := hI.1
                              have hBw110_w3 := hI.2.1
                              have hBw110_w5 := hI.2.2.1
                              have hBw110_w9 := hI.2.2.2.1
                              have hBw110_w14 := hI.2.2.2.2.1
                              have hBw110_w74 := hI.2.2.2.2.2.1
                              have hBw110_w78 := hI.2.2.2.2.2.2.1
                              have hBw110_w90 := hI.2.2.2.2.2.2.2.1
                              have hBw110_w96 := hI.2.2.2.2.2.2.2.2.1
                              have hBw110_w107 := hI.2.2.2.2.2.2.2.2.2
                              replace hS := ((((((((((((hS.nil).cons (hS.get 12 rfl)).cons (hS.get 11 rfl)).cons (hS.get 10 rfl)).cons (hS.get 9 rfl)).cons (hS.get 8 rfl)).cons (hS.get 7 rfl)).cons (hS.get 6 rfl)).cons (hS.get 5 rfl)).cons (hS.get 4 rfl)).cons (hS.get 3 rfl)).cons (hS.get 2 rfl)).cons (hS.get 0 rfl)
                              have hv101 : sl _ 101 = .agg #[.int .u64 a6_0, .int .i64 a6_1] := hp 0 (by decide)
                              have hv102 : sl _ 102 = .pointer (some ⟨g100, 9, none⟩) := hp 1 (by decide)
                              have hBw110_w110 := Below.refl w110.heap.size w110
                              have hS := hS.cons hv101
                              have hS := hS.cons hv102
                              clear hp hI hv101 hv102
                              show wpList _ _ _ [_] _ _
                              refine list_step rfl (does_store (g := g100) (off := 9) (v := .agg #[.int .u64 a6_0, .int .i64 a6_1]) (new := #[.int .i64 t81_1, .int .i64 t81_2, .int .i64 t81_3, .int .i64 t81_4, .int .u64 t81_5, .int .i64 t81_6, .int .i64 t81_7, .int .i64 t81_8, .int .i64 t81_9, .int .u64 a6_0, .int .i64 a6_1, .int .i64 t81_12, .int .i64 t81_13, .int .i64 t81_14, .int .i64 t81_15, .int .i64 t81_16, .int .i64 t81_17, .int .u64 t81_18, .int .i64 t81_19, .int .i64 t81_20, .int .i64 t81_21, .int .i64 t81_22, .int .i64 t81_23]) rfl (hS.get 0 rfl) (hS.get 1 rfl) ((hBw110_w107.block g100 (blk_lt hbxw107)).trans hbxw107) (by kernel_rfl) (by kernel_rfl) (by kernel_rfl) (by kernel_rfl)) ?_
                              rintro vw111 w111 ⟨rfl, hbxw111, hT⟩
                              have hBw111_w := hT.below hBw110_w (Nat.le_trans (hBw96_w).size hgeg100) (hBw110_w).size
                              have hBw111_w3 := hT.below hBw110_w3 (Nat.le_trans (hBw96_w3).size hgeg100) (hBw110_w3).size
                              have hBw111_w5 := hT.below hBw110_w5 (Nat.le_trans (hBw96_w5).size hgeg100) (hBw110_w5).size
                              have hBw111_w9 := hT.below hBw110_w9 (Nat.le_trans (hBw96_w9).size hgeg100) (hBw110_w9).size
                              have hBw111_w14 := hT.below hBw110_w14 (Nat.le_trans (hBw96_w14).size hgeg100) (hBw110_w14).size
                              have hBw111_w74 := hT.below hBw110_w74 (Nat.le_trans (hBw96_w74).size hgeg100) (hBw110_w74).size
                              have hBw111_w78 := hT.below hBw110_w78 (Nat.le_trans (hBw96_w78).size hgeg100) (hBw110_w78).size
                              have hBw111_w90 := hT.below hBw110_w90 (Nat.le_trans (hBw96_w90).size hgeg100) (hBw110_w90).size
                              have hBw111_w96 := hT.below hBw110_w96 hgeg100 (hBw110_w96).size
                              have hBw111_w111 := Below.refl w111.heap.size w111
                              clear hT
                              refine wpList_nil ?_
                              refine hK108 _ _ ?_
                              clear hK108 K108
                              refine wp_seq_k (fun K112 hK112 => ?_)
                              refine wp_seq_k (fun K113 hK113 => ?_)
                              refine reg_seq (N := 144) (bs := [(102, .pointer (some ⟨g100, 9, none⟩)), (101, .agg #[.int .u64 a6_0, .int .i64 a6_1]), (21, .pointer (some ⟨g100, 0, none⟩)), (99, .bool (!decide (t81_9 = t30))), (19, .pointer (some ⟨g84, 0, none⟩)), (65, .bool t75_1), (18, .pointer (some ⟨g40, 0, none⟩)), (17, .int .i64 t30), (16, .int .i64 t29), (31, .bool false), (15, .pointer (some ⟨g20, 0, none⟩)), (14, .bool false), (13, .pointer (some ⟨g10, 0, none⟩)), (7, .pointer (some ⟨g4, 0, none⟩))]) (I := fun x => Below w.heap.size w x ∧ Below w3.heap.size w3 x ∧ Below w5.heap.size w5 x ∧ Below w9.heap.size w9 x ∧ Below w14.heap.size w14 x ∧ Below w74.heap.size w74 x ∧ Below w78.heap.size w78 x ∧ Below w90.heap.size w90 x ∧ Below w96.heap.size w96 x ∧ Below w111.heap.size w111 x) (ps := [IsV (.agg #[.int .u64 a6_0, .int .i64 a6_1]), IsV (.agg #[.int .u64 a0_0, .int .i64 a0_1]), IsV (.bool (!((a6_0 == a0_0) && (a6_1 == a0_1))))]) (by kernel_rfl) ?_ ?_ rfl hS ⟨hBw111_w, hBw111_w3, hBw111_w5, hBw111_w9, hBw111_w14, hBw111_w74, hBw111_w78, hBw111_w90, hBw111_w96, hBw111_w111⟩ ?_ ?_
                              · exact fun x y hI hb => ⟨below_step hI.1 hb, below_step hI.2.1 hb, below_step hI.2.2.1 hb, below_step hI.2.2.2.1 hb, below_step hI.2.2.2.2.1 hb, below_step hI.2.2.2.2.2.1 hb, below_step hI.2.2.2.2.2.2.1 hb, below_step hI.2.2.2.2.2.2.2.1 hb, below_step hI.2.2.2.2.2.2.2.2.1 hb, below_step hI.2.2.2.2.2.2.2.2.2 hb⟩
                              · exact AllStay.cons (Stays.v _) (AllStay.cons (Stays.v _) (AllStay.cons (Stays.v _) (AllStay.nil)))
                              · refine Steps.cons (fun a w hS hI hp => ok_on rfl (does_loadrow rfl (hS.get 12 rfl) (((hI.2.2.2.1).block g10 (blk_lt hbxg10)).trans hbxg10) Try.underlying24 rfl (by kernel_rfl) rfl)) ?_
                                refine Steps.cons (fun a w hS hI hp => ok_on rfl (does_loadrow rfl (hS.get 13 rfl) (((hI.2.1).block g4 (blk_lt hbxg4)).trans hbxg4) Try.underlying24 rfl (by kernel_rfl) rfl)) ?_
                                refine Steps.cons (fun a w hS hI hp => ok_on rfl (does_val (x_bin rfl ((hp.get 0 (by rfl) rfl rfl)) ((hp.get 1 (by rfl) rfl rfl)) (carillonlaw17_DelayRound.neq24 _ _ _ a6_0 a6_1 a0_0 a0_1)) rfl)) ?_
                                exact Steps.nil
                              clear hS
                              intro at114 w115 hS hI hp
                              have hBw115_w := hI.1
                              have hBw115_w3 := hI.2.1
                              have hBw115_w5 := hI.2.2.1
                              have hBw115_w9 := hI.2.2.2.1
                              have hBw115_w14 := hI.2.2.2.2.1
                              have hBw115_w74 := hI.2.2.2.2.2.1
                              have hBw115_w78 := hI.2.2.2.2.2.2.1
                              have hBw115_w90 := hI.2.2.2.2.2.2.2.1
                              have hBw115_w96 := hI.2.2.2.2.2.2.2.2.1
                              have hBw115_w111 := hI.2.2.2.2.2.2.2.2.2
                              replace hS := ((((((((((hS.nil).cons (hS.get 11 rfl)).cons (hS.get 10 rfl)).cons (hS.get 9 rfl)).cons (hS.get 8 rfl)).cons (hS.get 7 rfl)).cons (hS.get 6 rfl)).cons (hS.get 5 rfl)).cons (hS.get 4 rfl)).cons (hS.get 3 rfl)).cons (hS.get 2 rfl)
                              have hv105 : sl _ 105 = .bool (!((a6_0 == a0_0) && (a6_1 == a0_1))) := hp 2 (by decide)
                              have hBw115_w115 := Below.refl w115.heap.size w115
                              have hS := hS.cons hv105
                              clear hp hI hv105
                              refine hK113 _ _ ?_
                              clear hK113 K113
                              refine wp_cond_true ((hS.get 0 rfl).trans (bT (congrArg (!·) (Bool.eq_false_iff.2 c10)))) ?_
                              refine wp_seq_k (fun K116 hK116 => ?_)
                              refine reg_seq_tail 2 (N := 144) (bs := [(105, .bool (!((a6_0 == a0_0) && (a6_1 == a0_1)))), (21, .pointer (some ⟨g100, 0, none⟩)), (99, .bool (!decide (t81_9 = t30))), (19, .pointer (some ⟨g84, 0, none⟩)), (65, .bool t75_1), (18, .pointer (some ⟨g40, 0, none⟩)), (17, .int .i64 t30), (16, .int .i64 t29), (31, .bool false), (15, .pointer (some ⟨g20, 0, none⟩)), (14, .bool false)]) (I := fun x => Below w.heap.size w x ∧ Below w3.heap.size w3 x ∧ Below w5.heap.size w5 x ∧ Below w9.heap.size w9 x ∧ Below w14.heap.size w14 x ∧ Below w74.heap.size w74 x ∧ Below w78.heap.size w78 x ∧ Below w90.heap.size w90 x ∧ Below w96.heap.size w96 x ∧ Below w111.heap.size w111 x ∧ Below w115.heap.size w115 x) (ps := [IsV (.pointer (some ⟨g20, 0, none⟩)), IsV (.agg #[.int .i64 t81_1, .int .i64 t81_2, .int .i64 t81_3, .int .i64 t81_4, .int .u64 t81_5, .int .i64 t81_6, .int .i64 t81_7, .int .i64 t81_8, .int .i64 t81_9, .int .u64 a6_0, .int .i64 a6_1, .int .i64 t81_12, .int .i64 t81_13, .int .i64 t81_14, .int .i64 t81_15, .int .i64 t81_16, .int .i64 t81_17, .int .u64 t81_18, .int .i64 t81_19, .int .i64 t81_20, .int .i64 t81_21, .int .i64 t81_22, .int .i64 t81_23])]) (by kernel_rfl) ?_ ?_ rfl hS ⟨hBw115_w, hBw115_w3, hBw115_w5, hBw115_w9, hBw115_w14, hBw115_w74, hBw115_w78, hBw115_w90, hBw115_w96, hBw115_w111, hBw115_w115⟩ ?_ ?_
                              · exact fun x y hI hb => ⟨below_step hI.1 hb, below_step hI.2.1 hb, below_step hI.2.2.1 hb, below_step hI.2.2.2.1 hb, below_step hI.2.2.2.2.1 hb, below_step hI.2.2.2.2.2.1 hb, below_step hI.2.2.2.2.2.2.1 hb, below_step hI.2.2.2.2.2.2.2.1 hb, below_step hI.2.2.2.2.2.2.2.2.1 hb, below_step hI.2.2.2.2.2.2.2.2.2.1 hb, below_step hI.2.2.2.2.2.2.2.2.2.2 hb⟩
                              · exact AllStay.cons (Stays.v _) (AllStay.cons (Stays.v _) (AllStay.nil))
                              · refine Steps.cons (fun a w hS hI hp => ok_on rfl (does_val (x_move rfl (hS.get 9 rfl)) rfl)) ?_
                                refine Steps.cons (fun a w hS hI hp => ok_on rfl (does_loadrow rfl (hS.get 1 rfl) (((hI.2.2.2.2.2.2.2.2.2.1).block g100 (blk_lt hbxw111)).trans hbxw111) Try.underlying34 rfl (by kernel_rfl) rfl)) ?_
                                exact Steps.nil
                              clear hS
                              intro at117 w118 hS hI hp
                              have hBw118_w := hI.1
                              have hBw118_w3 := hI.2.1
                              have hBw118_w5 := hI.2.2.1
                              have hBw118_w9 := hI.2.2.2.1
                              have hBw118_w14 := hI.2.2.2.2.1
                              have hBw118_w74 := hI.2.2.2.2.2.1
                              have hBw118_w78 := hI.2.2.2.2.2.2.1
                              have hBw118_w90 := hI.2.2.2.2.2.2.2.1
                              have hBw118_w96 := hI.2.2.2.2.2.2.2.2.1
                              have hBw118_w111 := hI.2.2.2.2.2.2.2.2.2.1
                              have hBw118_w115 := hI.2.2.2.2.2.2.2.2.2.2
                              replace hS := ((((((((((hS.nil).cons (hS.get 10 rfl)).cons (hS.get 9 rfl)).cons (hS.get 8 rfl)).cons (hS.get 7 rfl)).cons (hS.get 6 rfl)).cons (hS.get 5 rfl)).cons (hS.get 4 rfl)).cons (hS.get 3 rfl)).cons (hS.get 2 rfl)).cons (hS.get 0 rfl)
                              have hv107 : sl _ 107 = .pointer (some ⟨g20, 0, none⟩) := hp 0 (by decide)
                              have hv108 : sl _ 108 = .agg #[.int .i64 t81_1, .int .i64 t81_2, .int .i64 t81_3, .int .i64 t81_4, .int .u64 t81_5, .int .i64 t81_6, .int .i64 t81_7, .int .i64 t81_8, .int .i64 t81_9, .int .u64 a6_0, .int .i64 a6_1, .int .i64 t81_12, .int .i64 t81_13, .int .i64 t81_14, .int .i64 t81_15, .int .i64 t81_16, .int .i64 t81_17, .int .u64 t81_18, .int .i64 t81_19, .int .i64 t81_20, .int .i64 t81_21, .int .i64 t81_22, .int .i64 t81_23] := hp 1 (by decide)
                              have hBw118_w118 := Below.refl w118.heap.size w118
                              have hS := hS.cons hv107
                              have hS := hS.cons hv108
                              clear hp hI hv107 hv108
                              show wpList _ _ _ [_, _, _, _, _, _] _ _
                              refine list_step rfl (R := fun v w' => v = .tuple #[.int .i64 t120_1, .bool t120_2] ∧ w'.heap[g20]? = some (.cells #[.int .u64 t120_3, .int .i64 t120_4, .int .i64 t120_5, .int .i64 t120_6, .int .i64 t120_7, .bool t120_8, .bool t120_9] 54 (0, 0)) ∧ Tch g20 _ w') (does_call (by kernel_rfl) (ar2 (hS.get 1 rfl) (hS.get 0 rfl)) ((delay_Exchange_Response.calls g20 t75_2 t75_3 t75_4 t75_5 t75_6 t75_7 t75_8 t81_1 t81_2 t81_3 t81_4 t81_5 t81_6 t81_7 t81_8 t81_9 a6_0 a6_1 t81_12 t81_13 t81_14 t81_15 t81_16 t81_17 t81_18 t81_19 t81_20 t81_21 t81_22 t81_23 t120_1 t120_2 t120_3 t120_4 t120_5 t120_6 t120_7 t120_8 t120_9 _ ((hBw118_w74.block g20 (blk_lt hbxw74)).trans hbxw74) At120).mono fun _ _ h => ⟨_, h.1, rfl, h.2⟩)) ?_
                              rintro vw119 w119 ⟨rfl, hbxw119, hT⟩
                              have hn121 := hT.blk ((hBw118_w74.block g40 (blk_lt hn76)).trans hn76) hne44
                              have hn122 := hT.blk ((hBw118_w90.block g84 (blk_lt hbxw90)).trans hbxw90) hne88
                              have hn123 := hT.blk ((hBw118_w111.block g100 (blk_lt hbxw111)).trans hbxw111) hne104
                              have hBw119_w := hT.below hBw118_w (Nat.le_trans (hBw14_w).size hgeg20) (hBw118_w).size
                              have hBw119_w3 := hT.below hBw118_w3 (Nat.le_trans (hBw14_w3).size hgeg20) (hBw118_w3).size
                              have hBw119_w5 := hT.below hBw118_w5 (Nat.le_trans (hBw14_w5).size hgeg20) (hBw118_w5).size
                              have hBw119_w9 := hT.below hBw118_w9 (Nat.le_trans (hBw14_w9).size hgeg20) (hBw118_w9).size
                              have hBw119_w14 := hT.below hBw118_w14 hgeg20 (hBw118_w14).size
                              have hBw119_w119 := Below.refl w119.heap.size w119
                              clear hT
                              refine hS.next (v := .tuple #[.int .i64 t120_1, .bool t120_2]) (d := 109) rfl (by decide) (by rfl) ?_
                              clear hS
                              intro at124 hS
                              refine list_step rfl (R := fun v w' => Below _ _ w' ∧ (IsV (.tuple #[.int .i64 t120_1, .bool t120_2])) v w') (does_val (x_move rfl (hS.get 0 rfl)) rfl) ?_
                              rintro vw125 w125 ⟨hb, he⟩
                              have hBw125_w := below_step hBw119_w hb
                              have hBw125_w3 := below_step hBw119_w3 hb
                              have hBw125_w5 := below_step hBw119_w5 hb
                              have hBw125_w9 := below_step hBw119_w9 hb
                              have hBw125_w14 := below_step hBw119_w14 hb
                              have hBw125_w119 := below_step hBw119_w119 hb
                              have hBw125_w125 := Below.refl w125.heap.size w125
                              obtain rfl : vw125 = .tuple #[.int .i64 t120_1, .bool t120_2] := he
                              refine hS.next (v := .tuple #[.int .i64 t120_1, .bool t120_2]) (d := 106) rfl (by decide) (by rfl) ?_
                              clear hS
                              intro at126 hS
                              refine list_step rfl (R := fun v w' => Below _ _ w' ∧ (IsV (.int .i64 t120_1)) v w') (does_val (x_extract rfl (hS.get 0 rfl) rfl) rfl) ?_
                              rintro vw127 w127 ⟨hb, he⟩
                              have hBw127_w := below_step hBw125_w hb
                              have hBw127_w3 := below_step hBw125_w3 hb
                              have hBw127_w5 := below_step hBw125_w5 hb
                              have hBw127_w9 := below_step hBw125_w9 hb
                              have hBw127_w14 := below_step hBw125_w14 hb
                              have hBw127_w119 := below_step hBw125_w119 hb
                              have hBw127_w125 := below_step hBw125_w125 hb
                              have hBw127_w127 := Below.refl w127.heap.size w127
                              obtain rfl : vw127 = .int .i64 t120_1 := he
                              refine hS.next (v := .int .i64 t120_1) (d := 110) rfl (by decide) (by rfl) ?_
                              clear hS
                              intro at128 hS
                              refine list_step rfl (R := fun v w' => Below _ _ w' ∧ (IsV (.bool t120_2)) v w') (does_val (x_extract rfl (hS.get 1 rfl) rfl) rfl) ?_
                              rintro vw129 w129 ⟨hb, he⟩
                              have hBw129_w := below_step hBw127_w hb
                              have hBw129_w3 := below_step hBw127_w3 hb
                              have hBw129_w5 := below_step hBw127_w5 hb
                              have hBw129_w9 := below_step hBw127_w9 hb
                              have hBw129_w14 := below_step hBw127_w14 hb
                              have hBw129_w119 := below_step hBw127_w119 hb
                              have hBw129_w127 := below_step hBw127_w127 hb
                              have hBw129_w129 := Below.refl w129.heap.size w129
                              obtain rfl : vw129 = .bool t120_2 := he
                              refine hS.next (v := .bool t120_2) (d := 111) rfl (by decide) (by rfl) ?_
                              clear hS
                              intro at130 hS
                              refine list_step rfl (R := fun v w' => Below _ _ w' ∧ (IsV (.int .i64 t120_1)) v w') (does_val (x_assign rfl (hS.get 1 rfl)) rfl) ?_
                              rintro vw131 w131 ⟨hb, he⟩
                              have hBw131_w := below_step hBw129_w hb
                              have hBw131_w3 := below_step hBw129_w3 hb
                              have hBw131_w5 := below_step hBw129_w5 hb
                              have hBw131_w9 := below_step hBw129_w9 hb
                              have hBw131_w14 := below_step hBw129_w14 hb
                              have hBw131_w119 := below_step hBw129_w119 hb
                              have hBw131_w129 := below_step hBw129_w129 hb
                              have hBw131_w131 := Below.refl w131.heap.size w131
                              obtain rfl : vw131 = .int .i64 t120_1 := he
                              refine hS.next (v := .int .i64 t120_1) (d := 22) rfl (by decide) (by rfl) ?_
                              clear hS
                              intro at132 hS
                              refine list_step rfl (R := fun v w' => Below _ _ w' ∧ (IsV (.bool t120_2)) v w') (does_val (x_assign rfl (hS.get 1 rfl)) rfl) ?_
                              rintro vw133 w133 ⟨hb, he⟩
                              have hBw133_w := below_step hBw131_w hb
                              have hBw133_w3 := below_step hBw131_w3 hb
                              have hBw133_w5 := below_step hBw131_w5 hb
                              have hBw133_w9 := below_step hBw131_w9 hb
                              have hBw133_w14 := below_step hBw131_w14 hb
                              have hBw133_w119 := below_step hBw131_w119 hb
                              have hBw133_w131 := below_step hBw131_w131 hb
                              have hBw133_w133 := Below.refl w133.heap.size w133
                              obtain rfl : vw133 = .bool t120_2 := he
                              refine hS.next (v := .bool t120_2) (d := 23) rfl (by decide) (by rfl) ?_
                              clear hS
                              intro at134 hS
                              refine wpList_nil ?_
                              refine hK116 _ _ ?_
                              clear hK116 K116
                              refine wp_seq_k (fun K135 hK135 => ?_)
                              refine reg_seq (N := 144) (bs := [(23, .bool t120_2), (22, .int .i64 t120_1), (111, .bool t120_2), (110, .int .i64 t120_1), (106, .tuple #[.int .i64 t120_1, .bool t120_2]), (109, .tuple #[.int .i64 t120_1, .bool t120_2]), (108, .agg #[.int .i64 t81_1, .int .i64 t81_2, .int .i64 t81_3, .int .i64 t81_4, .int .u64 t81_5, .int .i64 t81_6, .int .i64 t81_7, .int .i64 t81_8, .int .i64 t81_9, .int .u64 a6_0, .int .i64 a6_1, .int .i64 t81_12, .int .i64 t81_13, .int .i64 t81_14, .int .i64 t81_15, .int .i64 t81_16, .int .i64 t81_17, .int .u64 t81_18, .int .i64 t81_19, .int .i64 t81_20, .int .i64 t81_21, .int .i64 t81_22, .int .i64 t81_23]), (107, .pointer (some ⟨g20, 0, none⟩)), (105, .bool (!((a6_0 == a0_0) && (a6_1 == a0_1)))), (99, .bool (!decide (t81_9 = t30))), (19, .pointer (some ⟨g84, 0, none⟩)), (65, .bool t75_1), (18, .pointer (some ⟨g40, 0, none⟩)), (17, .int .i64 t30), (16, .int .i64 t29), (31, .bool false), (15, .pointer (some ⟨g20, 0, none⟩)), (14, .bool false)]) (I := fun x => Below w.heap.size w x ∧ Below w3.heap.size w3 x ∧ Below w5.heap.size w5 x ∧ Below w9.heap.size w9 x ∧ Below w14.heap.size w14 x ∧ Below w119.heap.size w119 x ∧ Below w133.heap.size w133 x) (ps := [IsV (.bool t120_2)]) (by kernel_rfl) ?_ ?_ rfl hS ⟨hBw133_w, hBw133_w3, hBw133_w5, hBw133_w9, hBw133_w14, hBw133_w119, hBw133_w133⟩ ?_ ?_
                              · exact fun x y hI hb => ⟨below_step hI.1 hb, below_step hI.2.1 hb, below_step hI.2.2.1 hb, below_step hI.2.2.2.1 hb, below_step hI.2.2.2.2.1 hb, below_step hI.2.2.2.2.2.1 hb, below_step hI.2.2.2.2.2.2 hb⟩
                              · exact AllStay.cons (Stays.v _) (AllStay.nil)
                              · refine Steps.cons (fun a w hS hI hp => ok_on rfl (does_val (x_move rfl (hS.get 0 rfl)) rfl)) ?_
                                exact Steps.nil
                              clear hS
                              intro at136 w137 hS hI hp
                              have hBw137_w := hI.1
                              have hBw137_w3 := hI.2.1
                              have hBw137_w5 := hI.2.2.1
                              have hBw137_w9 := hI.2.2.2.1
                              have hBw137_w14 := hI.2.2.2.2.1
                              have hBw137_w119 := hI.2.2.2.2.2.1
                              have hBw137_w133 := hI.2.2.2.2.2.2
                              replace hS := ((((((((((hS.nil).cons (hS.get 17 rfl)).cons (hS.get 16 rfl)).cons (hS.get 15 rfl)).cons (hS.get 14 rfl)).cons (hS.get 13 rfl)).cons (hS.get 12 rfl)).cons (hS.get 11 rfl)).cons (hS.get 10 rfl)).cons (hS.get 9 rfl)).cons (hS.get 8 rfl)
                              have hv112 : sl _ 112 = .bool t120_2 := hp 0 (by decide)
                              have hBw137_w137 := Below.refl w137.heap.size w137
                              have hS := hS.cons hv112
                              clear hp hI hv112
                              refine hK135 _ _ ?_
                              clear hK135 K135
                              refine wp_cond_false ((hS.get 0 rfl).trans (bF (Bool.eq_false_iff.2 c11))) ?_
                              refine wp_skip ?_
                              refine hK112 _ _ ?_
                              clear hK112 K112
                              refine wp_seq_k (fun K138 hK138 => ?_)
                              refine reg_seq_tail 2 (N := 144) (bs := [(112, .bool t120_2), (105, .bool (!((a6_0 == a0_0) && (a6_1 == a0_1)))), (99, .bool (!decide (t81_9 = t30))), (19, .pointer (some ⟨g84, 0, none⟩)), (65, .bool t75_1), (18, .pointer (some ⟨g40, 0, none⟩)), (17, .int .i64 t30), (16, .int .i64 t29), (31, .bool false), (15, .pointer (some ⟨g20, 0, none⟩)), (14, .bool false)]) (I := fun x => Below w.heap.size w x ∧ Below w3.heap.size w3 x ∧ Below w5.heap.size w5 x ∧ Below w9.heap.size w9 x ∧ Below w14.heap.size w14 x ∧ Below w119.heap.size w119 x ∧ Below w137.heap.size w137 x) (ps := [IsV (.pointer (some ⟨g20, 0, none⟩)), IsV (.agg #[.int .i64 t81_1, .int .i64 t81_2, .int .i64 t81_3, .int .i64 t81_4, .int .u64 t81_5, .int .i64 t81_6, .int .i64 t81_7, .int .i64 t81_8, .int .i64 t81_9, .int .u64 t81_10, .int .i64 t81_11, .int .i64 t81_12, .int .i64 t81_13, .int .i64 t81_14, .int .i64 t81_15, .int .i64 t81_16, .int .i64 t81_17, .int .u64 t81_18, .int .i64 t81_19, .int .i64 t81_20, .int .i64 t81_21, .int .i64 t81_22, .int .i64 t81_23])]) (by kernel_rfl) ?_ ?_ rfl hS ⟨hBw137_w, hBw137_w3, hBw137_w5, hBw137_w9, hBw137_w14, hBw137_w119, hBw137_w137⟩ ?_ ?_
                              · exact fun x y hI hb => ⟨below_step hI.1 hb, below_step hI.2.1 hb, below_step hI.2.2.1 hb, below_step hI.2.2.2.1 hb, below_step hI.2.2.2.2.1 hb, below_step hI.2.2.2.2.2.1 hb, below_step hI.2.2.2.2.2.2 hb⟩
                              · exact AllStay.cons (Stays.v _) (AllStay.cons (Stays.v _) (AllStay.nil))
                              · refine Steps.cons (fun a w hS hI hp => ok_on rfl (does_val (x_move rfl (hS.get 9 rfl)) rfl)) ?_
                                refine Steps.cons (fun a w hS hI hp => ok_on rfl (does_loadrow rfl (hS.get 3 rfl) (((hI.2.2.2.2.2.1).block g84 (blk_lt hn122)).trans hn122) Try.underlying34 rfl (by kernel_rfl) rfl)) ?_
                                exact Steps.nil
                              clear hS
                              intro at139 w140 hS hI hp
                              have hBw140_w := hI.1
                              have hBw140_w3 := hI.2.1
                              have hBw140_w5 := hI.2.2.1
                              have hBw140_w9 := hI.2.2.2.1
                              have hBw140_w14 := hI.2.2.2.2.1
                              have hBw140_w119 := hI.2.2.2.2.2.1
                              have hBw140_w137 := hI.2.2.2.2.2.2
                              have hv114 : sl _ 114 = .pointer (some ⟨g20, 0, none⟩) := hp 0 (by decide)
                              have hv115 : sl _ 115 = .agg #[.int .i64 t81_1, .int .i64 t81_2, .int .i64 t81_3, .int .i64 t81_4, .int .u64 t81_5, .int .i64 t81_6, .int .i64 t81_7, .int .i64 t81_8, .int .i64 t81_9, .int .u64 t81_10, .int .i64 t81_11, .int .i64 t81_12, .int .i64 t81_13, .int .i64 t81_14, .int .i64 t81_15, .int .i64 t81_16, .int .i64 t81_17, .int .u64 t81_18, .int .i64 t81_19, .int .i64 t81_20, .int .i64 t81_21, .int .i64 t81_22, .int .i64 t81_23] := hp 1 (by decide)
                              have hBw140_w140 := Below.refl w140.heap.size w140
                              have hS := hS.cons hv114
                              have hS := hS.cons hv115
                              clear hp hI hv114 hv115
                              show wpList _ _ _ [_, _, _, _, _, _] _ _
                              refine list_step rfl (R := fun v w' => v = .tuple #[.int .i64 t142_1, .bool t142_2] ∧ w'.heap[g20]? = some (.cells #[.int .u64 t142_3, .int .i64 t142_4, .int .i64 t142_5, .int .i64 t142_6, .int .i64 t142_7, .bool t142_8, .bool t142_9] 54 (0, 0)) ∧ Tch g20 _ w') (does_call (by kernel_rfl) (ar2 (hS.get 1 rfl) (hS.get 0 rfl)) ((delay_Exchange_Response.calls g20 t120_3 t120_4 t120_5 t120_6 t120_7 t120_8 t120_9 t81_1 t81_2 t81_3 t81_4 t81_5 t81_6 t81_7 t81_8 t81_9 t81_10 t81_11 t81_12 t81_13 t81_14 t81_15 t81_16 t81_17 t81_18 t81_19 t81_20 t81_21 t81_22 t81_23 t142_1 t142_2 t142_3 t142_4 t142_5 t142_6 t142_7 t142_8 t142_9 _ ((hBw140_w119.block g20 (blk_lt hbxw119)).trans hbxw119) At142).mono fun _ _ h => ⟨_, h.1, rfl, h.2⟩)) ?_
                              rintro vw141 w141 ⟨rfl, hbxw141, hT⟩
                              have hn143 := hT.blk ((hBw140_w119.block g40 (blk_lt hn121)).trans hn121) hne44
                              have hn144 := hT.blk ((hBw140_w119.block g84 (blk_lt hn122)).trans hn122) hne88
                              have hn145 := hT.blk ((hBw140_w119.block g100 (blk_lt hn123)).trans hn123) hne104
                              have hBw141_w := hT.below hBw140_w (Nat.le_trans (hBw14_w).size hgeg20) (hBw140_w).size
                              have hBw141_w3 := hT.below hBw140_w3 (Nat.le_trans (hBw14_w3).size hgeg20) (hBw140_w3).size
                              have hBw141_w5 := hT.below hBw140_w5 (Nat.le_trans (hBw14_w5).size hgeg20) (hBw140_w5).size
                              have hBw141_w9 := hT.below hBw140_w9 (Nat.le_trans (hBw14_w9).size hgeg20) (hBw140_w9).size
                              have hBw141_w14 := hT.below hBw140_w14 hgeg20 (hBw140_w14).size
                              have hBw141_w141 := Below.refl w141.heap.size w141
                              clear hT
                              refine hS.next (v := .tuple #[.int .i64 t142_1, .bool t142_2]) (d := 116) rfl (by decide) (by rfl) ?_
                              clear hS
                              intro at146 hS
                              refine list_step rfl (R := fun v w' => Below _ _ w' ∧ (IsV (.tuple #[.int .i64 t142_1, .bool t142_2])) v w') (does_val (x_move rfl (hS.get 0 rfl)) rfl) ?_
                              rintro vw147 w147 ⟨hb, he⟩
                              have hBw147_w := below_step hBw141_w hb
                              have hBw147_w3 := below_step hBw141_w3 hb
                              have hBw147_w5 := below_step hBw141_w5 hb
                              have hBw147_w9 := below_step hBw141_w9 hb
                              have hBw147_w14 := below_step hBw141_w14 hb
                              have hBw147_w141 := below_step hBw141_w141 hb
                              have hBw147_w147 := Below.refl w147.heap.size w147
                              obtain rfl : vw147 = .tuple #[.int .i64 t142_1, .bool t142_2] := he
                              refine hS.next (v := .tuple #[.int .i64 t142_1, .bool t142_2]) (d := 113) rfl (by decide) (by rfl) ?_
                              clear hS
                              intro at148 hS
                              refine list_step rfl (R := fun v w' => Below _ _ w' ∧ (IsV (.int .i64 t142_1)) v w') (does_val (x_extract rfl (hS.get 0 rfl) rfl) rfl) ?_
                              rintro vw149 w149 ⟨hb, he⟩
                              have hBw149_w := below_step hBw147_w hb
                              have hBw149_w3 := below_step hBw147_w3 hb
                              have hBw149_w5 := below_step hBw147_w5 hb
                              have hBw149_w9 := below_step hBw147_w9 hb
                              have hBw149_w14 := below_step hBw147_w14 hb
                              have hBw149_w141 := below_step hBw147_w141 hb
                              have hBw149_w147 := below_step hBw147_w147 hb
                              have hBw149_w149 := Below.refl w149.heap.size w149
                              obtain rfl : vw149 = .int .i64 t142_1 := he
                              refine hS.next (v := .int .i64 t142_1) (d := 117) rfl (by decide) (by rfl) ?_
                              clear hS
                              intro at150 hS
                              refine list_step rfl (R := fun v w' => Below _ _ w' ∧ (IsV (.bool t142_2)) v w') (does_val (x_extract rfl (hS.get 1 rfl) rfl) rfl) ?_
                              rintro vw151 w151 ⟨hb, he⟩
                              have hBw151_w := below_step hBw149_w hb
                              have hBw151_w3 := below_step hBw149_w3 hb
                              have hBw151_w5 := below_step hBw149_w5 hb
                              have hBw151_w9 := below_step hBw149_w9 hb
                              have hBw151_w14 := below_step hBw149_w14 hb
                              have hBw151_w141 := below_step hBw149_w141 hb
                              have hBw151_w149 := below_step hBw149_w149 hb
                              have hBw151_w151 := Below.refl w151.heap.size w151
                              obtain rfl : vw151 = .bool t142_2 := he
                              refine hS.next (v := .bool t142_2) (d := 118) rfl (by decide) (by rfl) ?_
                              clear hS
                              intro at152 hS
                              refine list_step rfl (R := fun v w' => Below _ _ w' ∧ (IsV (.int .i64 t142_1)) v w') (does_val (x_assign rfl (hS.get 1 rfl)) rfl) ?_
                              rintro vw153 w153 ⟨hb, he⟩
                              have hBw153_w := below_step hBw151_w hb
                              have hBw153_w3 := below_step hBw151_w3 hb
                              have hBw153_w5 := below_step hBw151_w5 hb
                              have hBw153_w9 := below_step hBw151_w9 hb
                              have hBw153_w14 := below_step hBw151_w14 hb
                              have hBw153_w141 := below_step hBw151_w141 hb
                              have hBw153_w151 := below_step hBw151_w151 hb
                              have hBw153_w153 := Below.refl w153.heap.size w153
                              obtain rfl : vw153 = .int .i64 t142_1 := he
                              refine hS.next (v := .int .i64 t142_1) (d := 24) rfl (by decide) (by rfl) ?_
                              clear hS
                              intro at154 hS
                              refine list_step rfl (R := fun v w' => Below _ _ w' ∧ (IsV (.bool t142_2)) v w') (does_val (x_assign rfl (hS.get 1 rfl)) rfl) ?_
                              rintro vw155 w155 ⟨hb, he⟩
                              have hBw155_w := below_step hBw153_w hb
                              have hBw155_w3 := below_step hBw153_w3 hb
                              have hBw155_w5 := below_step hBw153_w5 hb
                              have hBw155_w9 := below_step hBw153_w9 hb
                              have hBw155_w14 := below_step hBw153_w14 hb
                              have hBw155_w141 := below_step hBw153_w141 hb
                              have hBw155_w153 := below_step hBw153_w153 hb
                              have hBw155_w155 := Below.refl w155.heap.size w155
                              obtain rfl : vw155 = .bool t142_2 := he
                              refine hS.next (v := .bool t142_2) (d := 25) rfl (by decide) (by rfl) ?_
                              clear hS
                              intro at156 hS
                              refine wpList_nil ?_
                              refine hK138 _ _ ?_
                              clear hK138 K138
                              refine wp_seq_k (fun K157 hK157 => ?_)
                              refine reg_seq_tail 2 (N := 144) (bs := [(25, .bool t142_2), (24, .int .i64 t142_1), (118, .bool t142_2), (117, .int .i64 t142_1), (113, .tuple #[.int .i64 t142_1, .bool t142_2]), (116, .tuple #[.int .i64 t142_1, .bool t142_2]), (115, .agg #[.int .i64 t81_1, .int .i64 t81_2, .int .i64 t81_3, .int .i64 t81_4, .int .u64 t81_5, .int .i64 t81_6, .int .i64 t81_7, .int .i64 t81_8, .int .i64 t81_9, .int .u64 t81_10, .int .i64 t81_11, .int .i64 t81_12, .int .i64 t81_13, .int .i64 t81_14, .int .i64 t81_15, .int .i64 t81_16, .int .i64 t81_17, .int .u64 t81_18, .int .i64 t81_19, .int .i64 t81_20, .int .i64 t81_21, .int .i64 t81_22, .int .i64 t81_23]), (114, .pointer (some ⟨g20, 0, none⟩)), (112, .bool t120_2), (105, .bool (!((a6_0 == a0_0) && (a6_1 == a0_1)))), (99, .bool (!decide (t81_9 = t30))), (19, .pointer (some ⟨g84, 0, none⟩)), (65, .bool t75_1), (18, .pointer (some ⟨g40, 0, none⟩)), (17, .int .i64 t30), (16, .int .i64 t29), (31, .bool false), (15, .pointer (some ⟨g20, 0, none⟩)), (14, .bool false)]) (I := fun x => Below w.heap.size w x ∧ Below w3.heap.size w3 x ∧ Below w5.heap.size w5 x ∧ Below w9.heap.size w9 x ∧ Below w14.heap.size w14 x ∧ Below w141.heap.size w141 x ∧ Below w155.heap.size w155 x) (ps := [IsV (.pointer (some ⟨g20, 0, none⟩)), IsV (.agg #[.int .i64 t81_1, .int .i64 t81_2, .int .i64 t81_3, .int .i64 t81_4, .int .u64 t81_5, .int .i64 t81_6, .int .i64 t81_7, .int .i64 t81_8, .int .i64 t81_9, .int .u64 t81_10, .int .i64 t81_11, .int .i64 t81_12, .int .i64 t81_13, .int .i64 t81_14, .int .i64 t81_15, .int .i64 t81_16, .int .i64 t81_17, .int .u64 t81_18, .int .i64 t81_19, .int .i64 t81_20, .int .i64 t81_21, .int .i64 t81_22, .int .i64 t81_23])]) (by kernel_rfl) ?_ ?_ rfl hS ⟨hBw155_w, hBw155_w3, hBw155_w5, hBw155_w9, hBw155_w14, hBw155_w141, hBw155_w155⟩ ?_ ?_
                              · exact fun x y hI hb => ⟨below_step hI.1 hb, below_step hI.2.1 hb, below_step hI.2.2.1 hb, below_step hI.2.2.2.1 hb, below_step hI.2.2.2.2.1 hb, below_step hI.2.2.2.2.2.1 hb, below_step hI.2.2.2.2.2.2 hb⟩
                              · exact AllStay.cons (Stays.v _) (AllStay.cons (Stays.v _) (AllStay.nil))
                              · refine Steps.cons (fun a w hS hI hp => ok_on rfl (does_val (x_move rfl (hS.get 17 rfl)) rfl)) ?_
                                refine Steps.cons (fun a w hS hI hp => ok_on rfl (does_loadrow rfl (hS.get 11 rfl) (((hI.2.2.2.2.2.1).block g84 (blk_lt hn144)).trans hn144) Try.underlying34 rfl (by kernel_rfl) rfl)) ?_
                                exact Steps.nil
                              clear hS
                              intro at158 w159 hS hI hp
                              have hBw159_w := hI.1
                              have hBw159_w3 := hI.2.1
                              have hBw159_w5 := hI.2.2.1
                              have hBw159_w9 := hI.2.2.2.1
                              have hBw159_w14 := hI.2.2.2.2.1
                              have hBw159_w141 := hI.2.2.2.2.2.1
                              have hBw159_w155 := hI.2.2.2.2.2.2
                              replace hS := (((((((((((hS.nil).cons (hS.get 18 rfl)).cons (hS.get 16 rfl)).cons (hS.get 15 rfl)).cons (hS.get 14 rfl)).cons (hS.get 13 rfl)).cons (hS.get 12 rfl)).cons (hS.get 10 rfl)).cons (hS.get 9 rfl)).cons (hS.get 8 rfl)).cons (hS.get 1 rfl)).cons (hS.get 0 rfl)
                              have hv120 : sl _ 120 = .pointer (some ⟨g20, 0, none⟩) := hp 0 (by decide)
                              have hv121 : sl _ 121 = .agg #[.int .i64 t81_1, .int .i64 t81_2, .int .i64 t81_3, .int .i64 t81_4, .int .u64 t81_5, .int .i64 t81_6, .int .i64 t81_7, .int .i64 t81_8, .int .i64 t81_9, .int .u64 t81_10, .int .i64 t81_11, .int .i64 t81_12, .int .i64 t81_13, .int .i64 t81_14, .int .i64 t81_15, .int .i64 t81_16, .int .i64 t81_17, .int .u64 t81_18, .int .i64 t81_19, .int .i64 t81_20, .int .i64 t81_21, .int .i64 t81_22, .int .i64 t81_23] := hp 1 (by decide)
                              have hBw159_w159 := Below.refl w159.heap.size w159
                              have hS := hS.cons hv120
                              have hS := hS.cons hv121
                              clear hp hI hv120 hv121
                              show wpList _ _ _ [_, _, _, _, _, _] _ _
                              refine list_step rfl (R := fun v w' => v = .tuple #[.int .i64 t161_1, .bool t161_2] ∧ w'.heap[g20]? = some (.cells #[.int .u64 t161_3, .int .i64 t161_4, .int .i64 t161_5, .int .i64 t161_6, .int .i64 t161_7, .bool t161_8, .bool t161_9] 54 (0, 0)) ∧ Tch g20 _ w') (does_call (by kernel_rfl) (ar2 (hS.get 1 rfl) (hS.get 0 rfl)) ((delay_Exchange_Response.calls g20 t142_3 t142_4 t142_5 t142_6 t142_7 t142_8 t142_9 t81_1 t81_2 t81_3 t81_4 t81_5 t81_6 t81_7 t81_8 t81_9 t81_10 t81_11 t81_12 t81_13 t81_14 t81_15 t81_16 t81_17 t81_18 t81_19 t81_20 t81_21 t81_22 t81_23 t161_1 t161_2 t161_3 t161_4 t161_5 t161_6 t161_7 t161_8 t161_9 _ ((hBw159_w141.block g20 (blk_lt hbxw141)).trans hbxw141) At161).mono fun _ _ h => ⟨_, h.1, rfl, h.2⟩)) ?_
                              rintro vw160 w160 ⟨rfl, hbxw160, hT⟩
                              have hn162 := hT.blk ((hBw159_w141.block g40 (blk_lt hn143)).trans hn143) hne44
                              have hn163 := hT.blk ((hBw159_w141.block g84 (blk_lt hn144)).trans hn144) hne88
                              have hn164 := hT.blk ((hBw159_w141.block g100 (blk_lt hn145)).trans hn145) hne104
                              have hBw160_w := hT.below hBw159_w (Nat.le_trans (hBw14_w).size hgeg20) (hBw159_w).size
                              have hBw160_w3 := hT.below hBw159_w3 (Nat.le_trans (hBw14_w3).size hgeg20) (hBw159_w3).size
                              have hBw160_w5 := hT.below hBw159_w5 (Nat.le_trans (hBw14_w5).size hgeg20) (hBw159_w5).size
                              have hBw160_w9 := hT.below hBw159_w9 (Nat.le_trans (hBw14_w9).size hgeg20) (hBw159_w9).size
                              have hBw160_w14 := hT.below hBw159_w14 hgeg20 (hBw159_w14).size
                              have hBw160_w160 := Below.refl w160.heap.size w160
                              clear hT
                              refine hS.next (v := .tuple #[.int .i64 t161_1, .bool t161_2]) (d := 122) rfl (by decide) (by rfl) ?_
                              clear hS
                              intro at165 hS
                              refine list_step rfl (R := fun v w' => Below _ _ w' ∧ (IsV (.tuple #[.int .i64 t161_1, .bool t161_2])) v w') (does_val (x_move rfl (hS.get 0 rfl)) rfl) ?_
                              rintro vw166 w166 ⟨hb, he⟩
                              have hBw166_w := below_step hBw160_w hb
                              have hBw166_w3 := below_step hBw160_w3 hb
                              have hBw166_w5 := below_step hBw160_w5 hb
                              have hBw166_w9 := below_step hBw160_w9 hb
                              have hBw166_w14 := below_step hBw160_w14 hb
                              have hBw166_w160 := below_step hBw160_w160 hb
                              have hBw166_w166 := Below.refl w166.heap.size w166
                              obtain rfl : vw166 = .tuple #[.int .i64 t161_1, .bool t161_2] := he
                              refine hS.next (v := .tuple #[.int .i64 t161_1, .bool t161_2]) (d := 119) rfl (by decide) (by rfl) ?_
                              clear hS
                              intro at167 hS
                              refine list_step rfl (R := fun v w' => Below _ _ w' ∧ (IsV (.int .i64 t161_1)) v w') (does_val (x_extract rfl (hS.get 0 rfl) rfl) rfl) ?_
                              rintro vw168 w168 ⟨hb, he⟩
                              have hBw168_w := below_step hBw166_w hb
                              have hBw168_w3 := below_step hBw166_w3 hb
                              have hBw168_w5 := below_step hBw166_w5 hb
                              have hBw168_w9 := below_step hBw166_w9 hb
                              have hBw168_w14 := below_step hBw166_w14 hb
                              have hBw168_w160 := below_step hBw166_w160 hb
                              have hBw168_w166 := below_step hBw166_w166 hb
                              have hBw168_w168 := Below.refl w168.heap.size w168
                              obtain rfl : vw168 = .int .i64 t161_1 := he
                              refine hS.next (v := .int .i64 t161_1) (d := 123) rfl (by decide) (by rfl) ?_
                              clear hS
                              intro at169 hS
                              refine list_step rfl (R := fun v w' => Below _ _ w' ∧ (IsV (.bool t161_2)) v w') (does_val (x_extract rfl (hS.get 1 rfl) rfl) rfl) ?_
                              rintro vw170 w170 ⟨hb, he⟩
                              have hBw170_w := below_step hBw168_w hb
                              have hBw170_w3 := below_step hBw168_w3 hb
                              have hBw170_w5 := below_step hBw168_w5 hb
                              have hBw170_w9 := below_step hBw168_w9 hb
                              have hBw170_w14 := below_step hBw168_w14 hb
                              have hBw170_w160 := below_step hBw168_w160 hb
                              have hBw170_w168 := below_step hBw168_w168 hb
                              have hBw170_w170 := Below.refl w170.heap.size w170
                              obtain rfl : vw170 = .bool t161_2 := he
                              refine hS.next (v := .bool t161_2) (d := 124) rfl (by decide) (by rfl) ?_
                              clear hS
                              intro at171 hS
                              refine list_step rfl (R := fun v w' => Below _ _ w' ∧ (IsV (.int .i64 t161_1)) v w') (does_val (x_assign rfl (hS.get 1 rfl)) rfl) ?_
                              rintro vw172 w172 ⟨hb, he⟩
                              have hBw172_w := below_step hBw170_w hb
                              have hBw172_w3 := below_step hBw170_w3 hb
                              have hBw172_w5 := below_step hBw170_w5 hb
                              have hBw172_w9 := below_step hBw170_w9 hb
                              have hBw172_w14 := below_step hBw170_w14 hb
                              have hBw172_w160 := below_step hBw170_w160 hb
                              have hBw172_w170 := below_step hBw170_w170 hb
                              have hBw172_w172 := Below.refl w172.heap.size w172
                              obtain rfl : vw172 = .int .i64 t161_1 := he
                              refine hS.next (v := .int .i64 t161_1) (d := 26) rfl (by decide) (by rfl) ?_
                              clear hS
                              intro at173 hS
                              refine list_step rfl (R := fun v w' => Below _ _ w' ∧ (IsV (.bool t161_2)) v w') (does_val (x_assign rfl (hS.get 1 rfl)) rfl) ?_
                              rintro vw174 w174 ⟨hb, he⟩
                              have hBw174_w := below_step hBw172_w hb
                              have hBw174_w3 := below_step hBw172_w3 hb
                              have hBw174_w5 := below_step hBw172_w5 hb
                              have hBw174_w9 := below_step hBw172_w9 hb
                              have hBw174_w14 := below_step hBw172_w14 hb
                              have hBw174_w160 := below_step hBw172_w160 hb
                              have hBw174_w172 := below_step hBw172_w172 hb
                              have hBw174_w174 := Below.refl w174.heap.size w174
                              obtain rfl : vw174 = .bool t161_2 := he
                              refine hS.next (v := .bool t161_2) (d := 27) rfl (by decide) (by rfl) ?_
                              clear hS
                              intro at175 hS
                              refine wpList_nil ?_
                              refine hK157 _ _ ?_
                              clear hK157 K157
                              refine wp_seq_k (fun K176 hK176 => ?_)
                              replace hS := ((((((((((((((((((hS.nil).cons (hS.get 17 rfl)).cons (hS.get 16 rfl)).cons (hS.get 15 rfl)).cons (hS.get 14 rfl)).cons (hS.get 13 rfl)).cons (hS.get 12 rfl)).cons (hS.get 11 rfl)).cons (hS.get 10 rfl)).cons (hS.get 9 rfl)).cons (hS.get 8 rfl)).cons (hS.get 7 rfl)).cons (hS.get 6 rfl)).cons (hS.get 5 rfl)).cons (hS.get 4 rfl)).cons (hS.get 3 rfl)).cons (hS.get 2 rfl)).cons (hS.get 1 rfl)).cons (hS.get 0 rfl)
                              refine reg_seq (N := 144) (bs := [(27, .bool t161_2), (26, .int .i64 t161_1), (124, .bool t161_2), (123, .int .i64 t161_1), (119, .tuple #[.int .i64 t161_1, .bool t161_2]), (122, .tuple #[.int .i64 t161_1, .bool t161_2]), (121, .agg #[.int .i64 t81_1, .int .i64 t81_2, .int .i64 t81_3, .int .i64 t81_4, .int .u64 t81_5, .int .i64 t81_6, .int .i64 t81_7, .int .i64 t81_8, .int .i64 t81_9, .int .u64 t81_10, .int .i64 t81_11, .int .i64 t81_12, .int .i64 t81_13, .int .i64 t81_14, .int .i64 t81_15, .int .i64 t81_16, .int .i64 t81_17, .int .u64 t81_18, .int .i64 t81_19, .int .i64 t81_20, .int .i64 t81_21, .int .i64 t81_22, .int .i64 t81_23]), (120, .pointer (some ⟨g20, 0, none⟩)), (25, .bool t142_2), (24, .int .i64 t142_1), (112, .bool t120_2), (105, .bool (!((a6_0 == a0_0) && (a6_1 == a0_1)))), (99, .bool (!decide (t81_9 = t30))), (65, .bool t75_1), (18, .pointer (some ⟨g40, 0, none⟩)), (17, .int .i64 t30), (16, .int .i64 t29), (31, .bool false)]) (I := fun x => Below w.heap.size w x ∧ Below w3.heap.size w3 x ∧ Below w5.heap.size w5 x ∧ Below w9.heap.size w9 x ∧ Below w14.heap.size w14 x ∧ Below w160.heap.size w160 x ∧ Below w174.heap.size w174 x) (ps := [IsV (.bool t142_2), IsV (.bool t142_2), IsV (.bool t161_2), IsV (.bool (!t161_2)), IsV (.bool (!t161_2)), IsV (.bool (!t161_2)), IsV (.int .i64 t142_1), IsV (.int .i64 t30), IsV (.int .i64 t29), IsV (.int .i64 (wrap64 (t30 - t29))), IsV (.pointer (some ⟨g40, 3, none⟩)), IsV (.int .i64 t48), IsV (.int .i64 (wrap64 (Int.tdiv t48 65536))), IsV (.int .i64 (wrap64 ((wrap64 (t30 - t29)) - (wrap64 (Int.tdiv t48 65536))))), IsV (.bool (decide (t142_1 = (wrap64 ((wrap64 (t30 - t29)) - (wrap64 (Int.tdiv t48 65536))))))), IsV (.bool (decide (t142_1 = (wrap64 ((wrap64 (t30 - t29)) - (wrap64 (Int.tdiv t48 65536))))))), IsV (.bool (decide (t142_1 = (wrap64 ((wrap64 (t30 - t29)) - (wrap64 (Int.tdiv t48 65536))))))), IsV (.bool t177), IsV (.bool t177), IsV (.bool t177)]) (by kernel_rfl) ?_ ?_ rfl hS ⟨hBw174_w, hBw174_w3, hBw174_w5, hBw174_w9, hBw174_w14, hBw174_w160, hBw174_w174⟩ ?_ ?_
                              · exact fun x y hI hb => ⟨below_step hI.1 hb, below_step hI.2.1 hb, below_step hI.2.2.1 hb, below_step hI.2.2.2.1 hb, below_step hI.2.2.2.2.1 hb, below_step hI.2.2.2.2.2.1 hb, below_step hI.2.2.2.2.2.2 hb⟩
                              · exact AllStay.cons (Stays.v _) (AllStay.cons (Stays.v _) (AllStay.cons (Stays.v _) (AllStay.cons (Stays.v _) (AllStay.cons (Stays.v _) (AllStay.cons (Stays.v _) (AllStay.cons (Stays.v _) (AllStay.cons (Stays.v _) (AllStay.cons (Stays.v _) (AllStay.cons (Stays.v _) (AllStay.cons (Stays.v _) (AllStay.cons (Stays.v _) (AllStay.cons (Stays.v _) (AllStay.cons (Stays.v _) (AllStay.cons (Stays.v _) (AllStay.cons (Stays.v _) (AllStay.cons (Stays.v _) (AllStay.cons (Stays.v _) (AllStay.cons (Stays.v _) (AllStay.cons (Stays.v _) (AllStay.nil))))))))))))))))))))
                              · refine Steps.cons (fun a w hS hI hp => ok_on rfl (does_val (x_move rfl (hS.get 8 rfl)) rfl)) ?_
                                refine Steps.cons (fun a w hS hI hp => ok_on rfl (does_val (x_move rfl ((hp.get 0 (by rfl) rfl rfl))) rfl)) ?_
                                refine Steps.cons (fun a w hS hI hp => ok_if (d := 126) rfl rfl (by rw [hS.size]; decide) (((hp.get 1 (by rfl) rfl rfl)).trans (bT c12)) (does_val (x_move rfl (hS.get 0 rfl)) rfl)) ?_
                                refine Steps.cons (fun a w hS hI hp => ok_if (d := 126) rfl rfl (by rw [hS.size]; decide) (((hp.get 1 (by rfl) rfl rfl)).trans (bT c12)) (does_val (x_not rfl ((hp.get 2 (by rfl) rfl rfl))) rfl)) ?_
                                refine Steps.cons (fun a w hS hI hp => ok_on rfl (does_val (x_pickT rfl (((hp.get 1 (by rfl) rfl rfl)).trans (bT c12)) ((hp.get 3 (by rfl) rfl rfl))) rfl)) ?_
                                refine Steps.cons (fun a w hS hI hp => ok_on rfl (does_val (x_move rfl ((hp.get 4 (by rfl) rfl rfl))) rfl)) ?_
                                refine Steps.cons (fun a w hS hI hp => ok_if (d := 130) rfl rfl (by rw [hS.size]; decide) (((hp.get 5 (by rfl) rfl rfl)).trans (bT (congrArg (!·) (Bool.eq_false_iff.2 c13)))) (does_val (x_move rfl (hS.get 9 rfl)) rfl)) ?_
                                refine Steps.cons (fun a w hS hI hp => ok_if (d := 130) rfl rfl (by rw [hS.size]; decide) (((hp.get 5 (by rfl) rfl rfl)).trans (bT (congrArg (!·) (Bool.eq_false_iff.2 c13)))) (does_val (x_move rfl (hS.get 15 rfl)) rfl)) ?_
                                refine Steps.cons (fun a w hS hI hp => ok_if (d := 130) rfl rfl (by rw [hS.size]; decide) (((hp.get 5 (by rfl) rfl rfl)).trans (bT (congrArg (!·) (Bool.eq_false_iff.2 c13)))) (does_val (x_move rfl (hS.get 16 rfl)) rfl)) ?_
                                refine Steps.cons (fun a w hS hI hp => ok_if (d := 130) rfl rfl (by rw [hS.size]; decide) (((hp.get 5 (by rfl) rfl rfl)).trans (bT (congrArg (!·) (Bool.eq_false_iff.2 c13)))) (does_val (x_bin rfl ((hp.get 7 (by rfl) rfl rfl)) ((hp.get 8 (by rfl) rfl rfl)) (b_sub _ _ _ _ _)) rfl)) ?_
                                refine Steps.cons (fun a w hS hI hp => ok_if (d := 130) rfl rfl (by rw [hS.size]; decide) (((hp.get 5 (by rfl) rfl rfl)).trans (bT (congrArg (!·) (Bool.eq_false_iff.2 c13)))) (does_val (x_field rfl (hS.get 14 rfl) Try.underlying34 rfl (by kernel_rfl)) rfl)) ?_
                                refine Steps.cons (fun a w hS hI hp => ok_if (d := 130) rfl rfl (by rw [hS.size]; decide) (((hp.get 5 (by rfl) rfl rfl)).trans (bT (congrArg (!·) (Bool.eq_false_iff.2 c13)))) (does_val (x_load1 (d := .int .i64) rfl ((hp.get 10 (by rfl) rfl rfl)) (by kernel_rfl) rfl ((blk_cell (((hI.2.2.2.2.2.1).block g40 (blk_lt hn162)).trans hn162) 3).trans rfl)) rfl)) ?_
                                refine Steps.cons (fun a w hS hI hp => ok_if (d := 130) rfl rfl (by rw [hS.size]; decide) (((hp.get 5 (by rfl) rfl rfl)).trans (bT (congrArg (!·) (Bool.eq_false_iff.2 c13)))) (does_val (x_bin rfl ((hp.get 11 (by rfl) rfl rfl)) (rfl) (b_quo _ _ _ _ _ (by decide))) rfl)) ?_
                                refine Steps.cons (fun a w hS hI hp => ok_if (d := 130) rfl rfl (by rw [hS.size]; decide) (((hp.get 5 (by rfl) rfl rfl)).trans (bT (congrArg (!·) (Bool.eq_false_iff.2 c13)))) (does_val (x_bin rfl ((hp.get 9 (by rfl) rfl rfl)) ((hp.get 12 (by rfl) rfl rfl)) (b_sub _ _ _ _ _)) rfl)) ?_
                                refine Steps.cons (fun a w hS hI hp => ok_if (d := 130) rfl rfl (by rw [hS.size]; decide) (((hp.get 5 (by rfl) rfl rfl)).trans (bT (congrArg (!·) (Bool.eq_false_iff.2 c13)))) (does_val (x_bin rfl ((hp.get 6 (by rfl) rfl rfl)) ((hp.get 13 (by rfl) rfl rfl)) (b_eql _ _ _ _ _ _)) rfl)) ?_
                                refine Steps.cons (fun a w hS hI hp => ok_on rfl (does_val (x_pickT rfl (((hp.get 5 (by rfl) rfl rfl)).trans (bT (congrArg (!·) (Bool.eq_false_iff.2 c13)))) ((hp.get 14 (by rfl) rfl rfl))) rfl)) ?_
                                refine Steps.cons (fun a w hS hI hp => ok_on rfl (does_val (x_move rfl ((hp.get 15 (by rfl) rfl rfl))) rfl)) ?_
                                refine Steps.cons (fun a w hS hI hp => ok_if (d := 141) rfl rfl (by rw [hS.size]; decide) (((hp.get 16 (by rfl) rfl rfl)).trans (bT (decide_eq_true c14))) (does_call (by kernel_rfl) rfl ((carillonlaw17_awake.calls  t177 _  At177).mono fun _ _ h => ⟨_, h.1, h.2, rfl⟩))) ?_
                                refine Steps.cons (fun a w hS hI hp => ok_on rfl (does_val (x_pickT rfl (((hp.get 16 (by rfl) rfl rfl)).trans (bT (decide_eq_true c14))) ((hp.get 17 (by rfl) rfl rfl))) rfl)) ?_
                                refine Steps.cons (fun a w hS hI hp => ok_on rfl (does_val (x_assign rfl ((hp.get 18 (by rfl) rfl rfl))) rfl)) ?_
                                exact Steps.nil
                              clear hS
                              intro at178 w179 hS hI hp
                              have hBw179_w := hI.1
                              have hBw179_w3 := hI.2.1
                              have hBw179_w5 := hI.2.2.1
                              have hBw179_w9 := hI.2.2.2.1
                              have hBw179_w14 := hI.2.2.2.2.1
                              have hBw179_w160 := hI.2.2.2.2.2.1
                              have hBw179_w174 := hI.2.2.2.2.2.2
                              replace hS := (((((hS.nil).cons (hS.get 17 rfl)).cons (hS.get 13 rfl)).cons (hS.get 12 rfl)).cons (hS.get 11 rfl)).cons (hS.get 10 rfl)
                              have hv14 : sl _ 14 = .bool t177 := hp 19 (by decide)
                              have hBw179_w179 := Below.refl w179.heap.size w179
                              have hS := hS.cons hv14
                              clear hp hI hv14
                              refine hK176 _ _ ?_
                              clear hK176 K176
                              refine wp_ret ?_
                              (try simp only [Exit.then, Exit.inBlock])
                              exact bodyPost_ret (v := .bool true) (by rw [results_tmp rfl]; exact congrArg (Result.ok · _) ((hS.get 0 rfl).trans (congrArg Value.bool hret))) hS.nodef ⟨rfl, hBw179_w⟩
                            · rw [if_neg c14] at H
                              exact absurd H (by simp)
                        · rw [if_neg c12] at H
                          exact absurd H (by simp)
                  · rw [if_neg c9] at H
                    exact absurd H (by simp)
                · rw [if_neg c8] at H
                  exact absurd H (by simp)
              · rw [if_neg c7] at H
                exact absurd H (by simp)
            · rw [if_neg c6] at H
              exact absurd H (by simp)
          · rw [if_neg c5] at H
            exact absurd H (by simp)
      · rw [if_neg c3] at H
        exact absurd H (by simp)
    · rw [if_neg c2] at H
      exact absurd H (by simp)
  · rw [if_neg c1] at H
    exact absurd H (by simp)

/-- The one pure statement of carillonlaw17_DelayRound. -/
def carillonlaw17_DelayRound.Pure : Prop := ∀ (a0_0 : Int) (a0_1 : Int) (a1_0 : Int) (a1_1 : Int) (a2 : Int) (a3 : Int) (a4 : Int) (a5 : Int) (a6_0 : Int) (a6_1 : Int), (Lit.int .u64 a0_0).wf = true → (Lit.int .i64 a0_1).wf = true → (Lit.int .u64 a1_0).wf = true → (Lit.int .i64 a1_1).wf = true → (Lit.int .i64 a2).wf = true → (Lit.int .i64 a3).wf = true → (Lit.int .i64 a4).wf = true → (Lit.int .i64 a5).wf = true → (Lit.int .u64 a6_0).wf = true → (Lit.int .i64 a6_1).wf = true → carillonlaw17_DelayRound.f a0_0 a0_1 a1_0 a1_1 a2 a3 a4 a5 a6_0 a6_1 = some true
theorem carillonlaw17_DelayRound.walk (P : carillonlaw17_DelayRound.Pure) (a0_0 : Int) (a0_1 : Int) (a1_0 : Int) (a1_1 : Int) (a2 : Int) (a3 : Int) (a4 : Int) (a5 : Int) (a6_0 : Int) (a6_1 : Int) (w : World) (w0_0 : (Lit.int .u64 a0_0).wf = true) (w0_1 : (Lit.int .i64 a0_1).wf = true) (w1_0 : (Lit.int .u64 a1_0).wf = true) (w1_1 : (Lit.int .i64 a1_1).wf = true) (w2 : (Lit.int .i64 a2).wf = true) (w3 : (Lit.int .i64 a3).wf = true) (w4 : (Lit.int .i64 a4).wf = true) (w5 : (Lit.int .i64 a5).wf = true) (w6_0 : (Lit.int .u64 a6_0).wf = true) (w6_1 : (Lit.int .i64 a6_1).wf = true) :
    Calls Try.prog 4 #[.agg #[.int .u64 a0_0, .int .i64 a0_1], .agg #[.int .u64 a1_0, .int .i64 a1_1], .int .i64 a2, .int .i64 a3, .int .i64 a4, .int .i64 a5, .agg #[.int .u64 a6_0, .int .i64 a6_1]] w fun e w' => e = .returned (.bool true) ∧ Below w.heap.size w w' := by
  have h := P a0_0 a0_1 a1_0 a1_1 a2 a3 a4 a5 a6_0 a6_1 w0_0 w0_1 w1_0 w1_1 w2 w3 w4 w5 w6_0 w6_1
  refine (carillonlaw17_DelayRound.calls a0_0 a0_1 a1_0 a1_1 a2 a3 a4 a5 a6_0 a6_1 w  h).mono ?_
  rintro e w' ⟨rfl, hd⟩
  exact ⟨rfl, hd⟩

end Go.Proofs.Ytpfjpfbhgeoadaa.P
