/- Functions and loops of the given program as Lean functions, and that the code comes to what they say: written by this session's own program; Lean checks it. -/
import Derived.Test.YtpfjpfbhgeoadaaPx0
import Derived.Test.YtpfjpfbhgeoadaaPx1
import Derived.Test.YtpfjpfbhgeoadaaPx2
import Derived.Test.YtpfjpfbhgeoadaaPx3
import Derived.Test.YtpfjpfbhgeoadaaPx4
namespace Go.Proofs.Ytpfjpfbhgeoadaa.P
open Go.RowKit Go.Proofs.YtpfjpfbhgeoadaaW.PrintWords Go.Proofs.YtpfjpfbhgeoadaaW.PrintLast Go.Proofs.YtpfjpfbhgeoadaaW.PrintMore
attribute [local go_sem] max2_int min2_int max_two min_two max_three min_three max_four min_four   -- for this text's walks alone
set_option linter.unusedVariables false
set_option linter.unusedSimpArgs false

/-! ### carillonlaw17_DelayNext: function 5: by our own printer -/
def carillonlaw17_DelayNext.f (a0_0 : Int) (a0_1 : Int) (a1 : Int) (a2 : Int) (a3 : Int) : Option (Bool) := (delay_New.f a0_0 a0_1 0).bind fun t6 => ((carillonlaw00_Place.f a1 65535).bind fun t16 => ((delay_Exchange_Request.f t6.1 t6.2.1 t6.2.2.1 t6.2.2.2.1 t6.2.2.2.2.1 t6.2.2.2.2.2.1 t6.2.2.2.2.2.2 t16 0).bind fun t23 => ((delay_Exchange_Sent.f t23.2.2.2.2.2.2.2.2.2.2.2.2.2.2.2.2.2.2.2.2.2.2.2.1 t23.2.2.2.2.2.2.2.2.2.2.2.2.2.2.2.2.2.2.2.2.2.2.2.2.1 t23.2.2.2.2.2.2.2.2.2.2.2.2.2.2.2.2.2.2.2.2.2.2.2.2.2.1 t23.2.2.2.2.2.2.2.2.2.2.2.2.2.2.2.2.2.2.2.2.2.2.2.2.2.2.1 t23.2.2.2.2.2.2.2.2.2.2.2.2.2.2.2.2.2.2.2.2.2.2.2.2.2.2.2.1 t23.2.2.2.2.2.2.2.2.2.2.2.2.2.2.2.2.2.2.2.2.2.2.2.2.2.2.2.2.1 t23.2.2.2.2.2.2.2.2.2.2.2.2.2.2.2.2.2.2.2.2.2.2.2.2.2.2.2.2.2 t23.2.2.2.2.2.2.1 10).bind fun t35 => ((delay_Exchange_Request.f t35.2.1 t35.2.2.1 t35.2.2.2.1 t35.2.2.2.2.1 t35.2.2.2.2.2.1 t35.2.2.2.2.2.2.1 t35.2.2.2.2.2.2.2 (wrap64 (t16 + 1)) 0).bind fun t42 => ((delay_Answer.f t23.1 t23.2.1 t23.2.2.1 t23.2.2.2.1 t23.2.2.2.2.1 t23.2.2.2.2.2.1 t23.2.2.2.2.2.2.1 t23.2.2.2.2.2.2.2.1 t23.2.2.2.2.2.2.2.2.1 t23.2.2.2.2.2.2.2.2.2.1 t23.2.2.2.2.2.2.2.2.2.2.1 t23.2.2.2.2.2.2.2.2.2.2.2.1 t23.2.2.2.2.2.2.2.2.2.2.2.2.1 t23.2.2.2.2.2.2.2.2.2.2.2.2.2.1 t23.2.2.2.2.2.2.2.2.2.2.2.2.2.2.1 t23.2.2.2.2.2.2.2.2.2.2.2.2.2.2.2.1 t23.2.2.2.2.2.2.2.2.2.2.2.2.2.2.2.2.1 t23.2.2.2.2.2.2.2.2.2.2.2.2.2.2.2.2.2.1 t23.2.2.2.2.2.2.2.2.2.2.2.2.2.2.2.2.2.2.1 t23.2.2.2.2.2.2.2.2.2.2.2.2.2.2.2.2.2.2.2.1 t23.2.2.2.2.2.2.2.2.2.2.2.2.2.2.2.2.2.2.2.2.1 t23.2.2.2.2.2.2.2.2.2.2.2.2.2.2.2.2.2.2.2.2.2.1 t23.2.2.2.2.2.2.2.2.2.2.2.2.2.2.2.2.2.2.2.2.2.2.1 8 1 500 0).bind fun t53 => ((carillonlaw00_Place.f a3 1099511627776).bind fun t65 => ((delay_Answer.f t42.1 t42.2.1 t42.2.2.1 t42.2.2.2.1 t42.2.2.2.2.1 t42.2.2.2.2.2.1 t42.2.2.2.2.2.2.1 t42.2.2.2.2.2.2.2.1 t42.2.2.2.2.2.2.2.2.1 t42.2.2.2.2.2.2.2.2.2.1 t42.2.2.2.2.2.2.2.2.2.2.1 t42.2.2.2.2.2.2.2.2.2.2.2.1 t42.2.2.2.2.2.2.2.2.2.2.2.2.1 t42.2.2.2.2.2.2.2.2.2.2.2.2.2.1 t42.2.2.2.2.2.2.2.2.2.2.2.2.2.2.1 t42.2.2.2.2.2.2.2.2.2.2.2.2.2.2.2.1 t42.2.2.2.2.2.2.2.2.2.2.2.2.2.2.2.2.1 t42.2.2.2.2.2.2.2.2.2.2.2.2.2.2.2.2.2.1 t42.2.2.2.2.2.2.2.2.2.2.2.2.2.2.2.2.2.2.1 t42.2.2.2.2.2.2.2.2.2.2.2.2.2.2.2.2.2.2.2.1 t42.2.2.2.2.2.2.2.2.2.2.2.2.2.2.2.2.2.2.2.2.1 t42.2.2.2.2.2.2.2.2.2.2.2.2.2.2.2.2.2.2.2.2.2.1 t42.2.2.2.2.2.2.2.2.2.2.2.2.2.2.2.2.2.2.2.2.2.2.1 8 1 t65 0).bind fun t69 => ((delay_Exchange_Response.f t42.2.2.2.2.2.2.2.2.2.2.2.2.2.2.2.2.2.2.2.2.2.2.2.1 t42.2.2.2.2.2.2.2.2.2.2.2.2.2.2.2.2.2.2.2.2.2.2.2.2.1 t42.2.2.2.2.2.2.2.2.2.2.2.2.2.2.2.2.2.2.2.2.2.2.2.2.2.1 t42.2.2.2.2.2.2.2.2.2.2.2.2.2.2.2.2.2.2.2.2.2.2.2.2.2.2.1 t42.2.2.2.2.2.2.2.2.2.2.2.2.2.2.2.2.2.2.2.2.2.2.2.2.2.2.2.1 t42.2.2.2.2.2.2.2.2.2.2.2.2.2.2.2.2.2.2.2.2.2.2.2.2.2.2.2.2.1 t42.2.2.2.2.2.2.2.2.2.2.2.2.2.2.2.2.2.2.2.2.2.2.2.2.2.2.2.2.2 t53.1 t53.2.1 t53.2.2.1 t53.2.2.2.1 t53.2.2.2.2.1 t53.2.2.2.2.2.1 t53.2.2.2.2.2.2.1 t53.2.2.2.2.2.2.2.1 t53.2.2.2.2.2.2.2.2.1 t53.2.2.2.2.2.2.2.2.2.1 t53.2.2.2.2.2.2.2.2.2.2.1 t53.2.2.2.2.2.2.2.2.2.2.2.1 t53.2.2.2.2.2.2.2.2.2.2.2.2.1 t53.2.2.2.2.2.2.2.2.2.2.2.2.2.1 t53.2.2.2.2.2.2.2.2.2.2.2.2.2.2.1 t53.2.2.2.2.2.2.2.2.2.2.2.2.2.2.2.1 t53.2.2.2.2.2.2.2.2.2.2.2.2.2.2.2.2.1 t53.2.2.2.2.2.2.2.2.2.2.2.2.2.2.2.2.2.1 t53.2.2.2.2.2.2.2.2.2.2.2.2.2.2.2.2.2.2.1 t53.2.2.2.2.2.2.2.2.2.2.2.2.2.2.2.2.2.2.2.1 t53.2.2.2.2.2.2.2.2.2.2.2.2.2.2.2.2.2.2.2.2.1 t53.2.2.2.2.2.2.2.2.2.2.2.2.2.2.2.2.2.2.2.2.2.1 t53.2.2.2.2.2.2.2.2.2.2.2.2.2.2.2.2.2.2.2.2.2.2.1).bind fun t85 => ((delay_Exchange_Response.f t85.2.2.1 t85.2.2.2.1 t85.2.2.2.2.1 t85.2.2.2.2.2.1 t85.2.2.2.2.2.2.1 t85.2.2.2.2.2.2.2.1 t85.2.2.2.2.2.2.2.2 t69.1 t69.2.1 t69.2.2.1 t69.2.2.2.1 t69.2.2.2.2.1 t69.2.2.2.2.2.1 t69.2.2.2.2.2.2.1 t69.2.2.2.2.2.2.2.1 t69.2.2.2.2.2.2.2.2.1 t69.2.2.2.2.2.2.2.2.2.1 t69.2.2.2.2.2.2.2.2.2.2.1 t69.2.2.2.2.2.2.2.2.2.2.2.1 t69.2.2.2.2.2.2.2.2.2.2.2.2.1 t69.2.2.2.2.2.2.2.2.2.2.2.2.2.1 t69.2.2.2.2.2.2.2.2.2.2.2.2.2.2.1 t69.2.2.2.2.2.2.2.2.2.2.2.2.2.2.2.1 t69.2.2.2.2.2.2.2.2.2.2.2.2.2.2.2.2.1 t69.2.2.2.2.2.2.2.2.2.2.2.2.2.2.2.2.2.1 t69.2.2.2.2.2.2.2.2.2.2.2.2.2.2.2.2.2.2.1 t69.2.2.2.2.2.2.2.2.2.2.2.2.2.2.2.2.2.2.2.1 t69.2.2.2.2.2.2.2.2.2.2.2.2.2.2.2.2.2.2.2.2.1 t69.2.2.2.2.2.2.2.2.2.2.2.2.2.2.2.2.2.2.2.2.2.1 t69.2.2.2.2.2.2.2.2.2.2.2.2.2.2.2.2.2.2.2.2.2.2.1).bind fun t105 => ((carillonlaw00_Place.f a2 1099511627776).bind fun t122 => ((delay_Exchange_Sent.f t105.2.2.1 t105.2.2.2.1 t105.2.2.2.2.1 t105.2.2.2.2.2.1 t105.2.2.2.2.2.2.1 t105.2.2.2.2.2.2.2.1 t105.2.2.2.2.2.2.2.2 t42.2.2.2.2.2.2.1 t122).bind fun t129 => ((delay_Exchange_Response.f t129.2.1 t129.2.2.1 t129.2.2.2.1 t129.2.2.2.2.1 t129.2.2.2.2.2.1 t129.2.2.2.2.2.2.1 t129.2.2.2.2.2.2.2 t53.1 t53.2.1 t53.2.2.1 t53.2.2.2.1 t53.2.2.2.2.1 t53.2.2.2.2.2.1 t53.2.2.2.2.2.2.1 t53.2.2.2.2.2.2.2.1 t53.2.2.2.2.2.2.2.2.1 t53.2.2.2.2.2.2.2.2.2.1 t53.2.2.2.2.2.2.2.2.2.2.1 t53.2.2.2.2.2.2.2.2.2.2.2.1 t53.2.2.2.2.2.2.2.2.2.2.2.2.1 t53.2.2.2.2.2.2.2.2.2.2.2.2.2.1 t53.2.2.2.2.2.2.2.2.2.2.2.2.2.2.1 t53.2.2.2.2.2.2.2.2.2.2.2.2.2.2.2.1 t53.2.2.2.2.2.2.2.2.2.2.2.2.2.2.2.2.1 t53.2.2.2.2.2.2.2.2.2.2.2.2.2.2.2.2.2.1 t53.2.2.2.2.2.2.2.2.2.2.2.2.2.2.2.2.2.2.1 t53.2.2.2.2.2.2.2.2.2.2.2.2.2.2.2.2.2.2.2.1 t53.2.2.2.2.2.2.2.2.2.2.2.2.2.2.2.2.2.2.2.2.1 t53.2.2.2.2.2.2.2.2.2.2.2.2.2.2.2.2.2.2.2.2.2.1 t53.2.2.2.2.2.2.2.2.2.2.2.2.2.2.2.2.2.2.2.2.2.2.1).bind fun t141 => ((delay_Exchange_Response.f t141.2.2.1 t141.2.2.2.1 t141.2.2.2.2.1 t141.2.2.2.2.2.1 t141.2.2.2.2.2.2.1 t141.2.2.2.2.2.2.2.1 t141.2.2.2.2.2.2.2.2 t69.1 t69.2.1 t69.2.2.1 t69.2.2.2.1 t69.2.2.2.2.1 t69.2.2.2.2.2.1 t69.2.2.2.2.2.2.1 t69.2.2.2.2.2.2.2.1 t69.2.2.2.2.2.2.2.2.1 t69.2.2.2.2.2.2.2.2.2.1 t69.2.2.2.2.2.2.2.2.2.2.1 t69.2.2.2.2.2.2.2.2.2.2.2.1 t69.2.2.2.2.2.2.2.2.2.2.2.2.1 t69.2.2.2.2.2.2.2.2.2.2.2.2.2.1 t69.2.2.2.2.2.2.2.2.2.2.2.2.2.2.1 t69.2.2.2.2.2.2.2.2.2.2.2.2.2.2.2.1 t69.2.2.2.2.2.2.2.2.2.2.2.2.2.2.2.2.1 t69.2.2.2.2.2.2.2.2.2.2.2.2.2.2.2.2.2.1 t69.2.2.2.2.2.2.2.2.2.2.2.2.2.2.2.2.2.2.1 t69.2.2.2.2.2.2.2.2.2.2.2.2.2.2.2.2.2.2.2.1 t69.2.2.2.2.2.2.2.2.2.2.2.2.2.2.2.2.2.2.2.2.1 t69.2.2.2.2.2.2.2.2.2.2.2.2.2.2.2.2.2.2.2.2.2.1 t69.2.2.2.2.2.2.2.2.2.2.2.2.2.2.2.2.2.2.2.2.2.2.1).bind fun t161 => (if t53.2.2.2.2.2.2.2.2.2.2.2.2.2.2.2.2.2.2.2.2.2.2.2 = true then (if t69.2.2.2.2.2.2.2.2.2.2.2.2.2.2.2.2.2.2.2.2.2.2.2 = true then (if t85.2.1 = true then (some false) else (if t105.2.1 = true then (some false) else (if t129.1 = true then (if t141.2.1 = true then (some false) else (if t161.2.1 = true then (if t161.1 = (wrap64 (t65 - t122)) then (if t42.2.2.2.2.2.2.1 = (wrap64 (t16 + 1)) then ((carillonlaw17_awake.f ).bind fun t178 => (some t178)) else (some false)) else (some false)) else (some false))) else (some false)))) else (some false)) else (some false)))))))))))))))
open Go.Proofs.Ytpfjpfbhgeoadaa.E in
set_option maxHeartbeats 8000000 in
set_option maxRecDepth 100000 in
theorem carillonlaw17_DelayNext.calls (a0_0 : Int) (a0_1 : Int) (a1 : Int) (a2 : Int) (a3 : Int) (w : World) (h : carillonlaw17_DelayNext.f a0_0 a0_1 a1 a2 a3 = some true) :
    Calls Try.prog 5 #[.agg #[.int .u64 a0_0, .int .i64 a0_1], .int .i64 a1, .int .i64 a2, .int .i64 a3] w fun e w' => e = .returned (.bool true) ∧ Below w.heap.size w w' := by
  have H := h
  clear h
  unfold carillonlaw17_DelayNext.f at H
  obtain ⟨t6, At6, H⟩ := Option.bind_eq_some_iff.mp H
  obtain ⟨t6_1, t6_2, t6_3, t6_4, t6_5, t6_6, t6_7⟩ := t6
  (try dsimp only at H)
  obtain ⟨t16, At16, H⟩ := Option.bind_eq_some_iff.mp H
  obtain ⟨t23, At23, H⟩ := Option.bind_eq_some_iff.mp H
  obtain ⟨t23_1, t23_2, t23_3, t23_4, t23_5, t23_6, t23_7, t23_8, t23_9, t23_10, t23_11, t23_12, t23_13, t23_14, t23_15, t23_16, t23_17, t23_18, t23_19, t23_20, t23_21, t23_22, t23_23, t23_24, t23_25, t23_26, t23_27, t23_28, t23_29, t23_30⟩ := t23
  (try dsimp only at H)
  obtain ⟨t35, At35, H⟩ := Option.bind_eq_some_iff.mp H
  obtain ⟨t35_1, t35_2, t35_3, t35_4, t35_5, t35_6, t35_7, t35_8⟩ := t35
  (try dsimp only at H)
  obtain ⟨t42, At42, H⟩ := Option.bind_eq_some_iff.mp H
  obtain ⟨t42_1, t42_2, t42_3, t42_4, t42_5, t42_6, t42_7, t42_8, t42_9, t42_10, t42_11, t42_12, t42_13, t42_14, t42_15, t42_16, t42_17, t42_18, t42_19, t42_20, t42_21, t42_22, t42_23, t42_24, t42_25, t42_26, t42_27, t42_28, t42_29, t42_30⟩ := t42
  (try dsimp only at H)
  obtain ⟨t53, At53, H⟩ := Option.bind_eq_some_iff.mp H
  obtain ⟨t53_1, t53_2, t53_3, t53_4, t53_5, t53_6, t53_7, t53_8, t53_9, t53_10, t53_11, t53_12, t53_13, t53_14, t53_15, t53_16, t53_17, t53_18, t53_19, t53_20, t53_21, t53_22, t53_23, t53_24⟩ := t53
  (try dsimp only at H)
  obtain ⟨t65, At65, H⟩ := Option.bind_eq_some_iff.mp H
  obtain ⟨t69, At69, H⟩ := Option.bind_eq_some_iff.mp H
  obtain ⟨t69_1, t69_2, t69_3, t69_4, t69_5, t69_6, t69_7, t69_8, t69_9, t69_10, t69_11, t69_12, t69_13, t69_14, t69_15, t69_16, t69_17, t69_18, t69_19, t69_20, t69_21, t69_22, t69_23, t69_24⟩ := t69
  (try dsimp only at H)
  obtain ⟨t85, At85, H⟩ := Option.bind_eq_some_iff.mp H
  obtain ⟨t85_1, t85_2, t85_3, t85_4, t85_5, t85_6, t85_7, t85_8, t85_9⟩ := t85
  (try dsimp only at H)
  obtain ⟨t105, At105, H⟩ := Option.bind_eq_some_iff.mp H
  obtain ⟨t105_1, t105_2, t105_3, t105_4, t105_5, t105_6, t105_7, t105_8, t105_9⟩ := t105
  (try dsimp only at H)
  obtain ⟨t122, At122, H⟩ := Option.bind_eq_some_iff.mp H
  obtain ⟨t129, At129, H⟩ := Option.bind_eq_some_iff.mp H
  obtain ⟨t129_1, t129_2, t129_3, t129_4, t129_5, t129_6, t129_7, t129_8⟩ := t129
  (try dsimp only at H)
  obtain ⟨t141, At141, H⟩ := Option.bind_eq_some_iff.mp H
  obtain ⟨t141_1, t141_2, t141_3, t141_4, t141_5, t141_6, t141_7, t141_8, t141_9⟩ := t141
  (try dsimp only at H)
  obtain ⟨t161, At161, H⟩ := Option.bind_eq_some_iff.mp H
  obtain ⟨t161_1, t161_2, t161_3, t161_4, t161_5, t161_6, t161_7, t161_8, t161_9⟩ := t161
  (try dsimp only at H)
  by_cases c1 : t53_24 = true
  · rw [if_pos c1] at H
    by_cases c2 : t69_24 = true
    · rw [if_pos c2] at H
      by_cases c3 : t85_2 = true
      · rw [if_pos c3] at H
        exact absurd H (by simp)
      · rw [if_neg c3] at H
        by_cases c4 : t105_2 = true
        · rw [if_pos c4] at H
          exact absurd H (by simp)
        · rw [if_neg c4] at H
          by_cases c5 : t129_1 = true
          · rw [if_pos c5] at H
            by_cases c6 : t141_2 = true
            · rw [if_pos c6] at H
              exact absurd H (by simp)
            · rw [if_neg c6] at H
              by_cases c7 : t161_2 = true
              · rw [if_pos c7] at H
                by_cases c8 : t161_1 = (wrap64 (t65 - t122))
                · rw [if_pos c8] at H
                  by_cases c9 : t42_7 = (wrap64 (t16 + 1))
                  · rw [if_pos c9] at H
                    obtain ⟨t178, At178, H⟩ := Option.bind_eq_some_iff.mp H
                    have hret := Option.some.inj H
                    clear H
                    refine calls_of_wp (fn := Try.f5) (by kernel_rfl) rfl ?_
                    have hS := St.enter #[.agg #[.int .u64 a0_0, .int .i64 a0_1], .int .i64 a1, .int .i64 a2, .int .i64 a3] 130 (by simp) [(0, .agg #[.int .u64 a0_0, .int .i64 a0_1]), (1, .int .i64 a1), (2, .int .i64 a2), (3, .int .i64 a3)] (by simp)
                    have HB0 := Below.refl w.heap.size w
                    refine wp_seq_k (fun K1 hK1 => ?_)
                    refine reg_seq (N := 130) (bs := [(0, .agg #[.int .u64 a0_0, .int .i64 a0_1]), (1, .int .i64 a1), (2, .int .i64 a2), (3, .int .i64 a3)]) (I := fun x => Below w.heap.size w x) (ps := [IsB #[.int .u64 a0_0, .int .i64 a0_1] 24 w.heap.size, IsV (.bool false)]) (by kernel_rfl) ?_ ?_ rfl hS HB0 ?_ ?_
                    · exact fun x y hI hb => below_step hI hb
                    · exact AllStay.cons (Stays.b _ _ _) (AllStay.cons (Stays.v _) (AllStay.nil))
                    · refine Steps.cons (fun a w hS hI hp => ok_on rfl (does_var (x_box rfl (congrArg Value.cells (hS.get 0 rfl))) (hI).size)) ?_
                      refine Steps.cons (fun a w hS hI hp => ok_on rfl (does_val (x_assign rfl (rfl)) rfl)) ?_
                      exact Steps.nil
                    clear hS
                    intro at2 w3 hS hI hp
                    have hBw3_w := hI
                    replace hS := (((hS.nil).cons (hS.get 3 rfl)).cons (hS.get 2 rfl)).cons (hS.get 1 rfl)
                    obtain ⟨g4, hv4, hgeg4, hbxg4⟩ := (show IsB _ 24 _ (sl _ 4) _ from hp 0 (by decide))
                    have hv8 : sl _ 8 = .bool false := hp 1 (by decide)
                    have hBw3_w3 := Below.refl w3.heap.size w3
                    have hS := hS.cons hv4
                    have hS := hS.cons hv8
                    clear hp hI hv4 hv8
                    refine hK1 _ _ ?_
                    clear hK1 K1
                    refine wp_seq_k (fun K5 hK5 => ?_)
                    refine reg_seq (N := 130) (bs := [(8, .bool false), (4, .pointer (some ⟨g4, 0, none⟩)), (1, .int .i64 a1), (2, .int .i64 a2), (3, .int .i64 a3)]) (I := fun x => Below w.heap.size w x ∧ Below w3.heap.size w3 x) (ps := [IsV (.agg #[.int .u64 a0_0, .int .i64 a0_1]), IsB #[.int .u64 t6_1, .int .i64 t6_2, .int .i64 t6_3, .int .i64 t6_4, .int .i64 t6_5, .bool t6_6, .bool t6_7] 54 w3.heap.size, IsB #[.int .u64 t6_1, .int .i64 t6_2, .int .i64 t6_3, .int .i64 t6_4, .int .i64 t6_5, .bool t6_6, .bool t6_7] 54 w3.heap.size]) (by kernel_rfl) ?_ ?_ rfl hS ⟨hBw3_w, hBw3_w3⟩ ?_ ?_
                    · exact fun x y hI hb => ⟨below_step hI.1 hb, below_step hI.2 hb⟩
                    · exact AllStay.cons (Stays.v _) (AllStay.cons (Stays.b _ _ _) (AllStay.cons (Stays.b _ _ _) (AllStay.nil)))
                    · refine Steps.cons (fun a w hS hI hp => ok_on rfl (does_loadrow rfl (hS.get 1 rfl) (((hI.2).block g4 (blk_lt hbxg4)).trans hbxg4) Try.underlying24 rfl (by kernel_rfl) rfl)) ?_
                      refine Steps.cons (fun a w hS hI hp => ok_on rfl (does_call (by kernel_rfl) (ar2 ((hp.get 0 (by rfl) rfl rfl)) (rfl)) ((delay_New.calls a0_0 a0_1 0 t6_1 t6_2 t6_3 t6_4 t6_5 t6_6 t6_7 _  At6).mono fun _ _ h => h.elim fun g_ h => ⟨_, h.1, h.2.2.2, g_, rfl, Nat.le_trans hI.2.size h.2.1, h.2.2.1⟩))) ?_
                      refine Steps.cons (fun a w hS hI hp => ok_on rfl (does_val (x_assign rfl rfl) ((hp.get 1 (by rfl) rfl rfl)))) ?_
                      exact Steps.nil
                    clear hS
                    intro at7 w8 hS hI hp
                    have hBw8_w := hI.1
                    have hBw8_w3 := hI.2
                    replace hS := ((((hS.nil).cons (hS.get 4 rfl)).cons (hS.get 3 rfl)).cons (hS.get 2 rfl)).cons (hS.get 0 rfl)
                    obtain ⟨g9, hv9, hgeg9, hbxg9⟩ := (show IsB _ 54 _ (sl _ 9) _ from hp 2 (by decide))
                    have hne10 : g9 ≠ g4 := Nat.ne_of_gt (Nat.lt_of_lt_of_le (blk_lt ((hBw3_w3.block g4 (blk_lt hbxg4)).trans hbxg4)) hgeg9)
                    have hBw8_w8 := Below.refl w8.heap.size w8
                    have hS := hS.cons hv9
                    clear hp hI hv9
                    refine hK5 _ _ ?_
                    clear hK5 K5
                    refine wp_seq_k (fun K11 hK11 => ?_)
                    refine wp_seq_k (fun K12 hK12 => ?_)
                    refine reg_seq (N := 130) (bs := [(9, .pointer (some ⟨g9, 0, none⟩)), (8, .bool false), (1, .int .i64 a1), (2, .int .i64 a2), (3, .int .i64 a3)]) (I := fun x => Below w.heap.size w x ∧ Below w3.heap.size w3 x ∧ Below w8.heap.size w8 x) (ps := [IsV (.pointer (some ⟨g9, 0, none⟩)), IsV (.bool false)]) (by kernel_rfl) ?_ ?_ rfl hS ⟨hBw8_w, hBw8_w3, hBw8_w8⟩ ?_ ?_
                    · exact fun x y hI hb => ⟨below_step hI.1 hb, below_step hI.2.1 hb, below_step hI.2.2 hb⟩
                    · exact AllStay.cons (Stays.v _) (AllStay.cons (Stays.v _) (AllStay.nil))
                    · refine Steps.cons (fun a w hS hI hp => ok_on rfl (does_val (x_move rfl (hS.get 0 rfl)) rfl)) ?_
                      refine Steps.cons (fun a w hS hI hp => ok_on rfl (does_val (x_bin rfl ((hp.get 0 (by rfl) rfl rfl)) (rfl) (b_eqp 26 54 _ _ _ Try.underlying26)) rfl)) ?_
                      exact Steps.nil
                    clear hS
                    intro at13 w14 hS hI hp
                    have hBw14_w := hI.1
                    have hBw14_w3 := hI.2.1
                    have hBw14_w8 := hI.2.2
                    have hv31 : sl _ 31 = .bool false := hp 1 (by decide)
                    have hBw14_w14 := Below.refl w14.heap.size w14
                    have hS := hS.cons hv31
                    clear hp hI hv31
                    refine hK12 _ _ ?_
                    clear hK12 K12
                    refine wp_cond_false ((hS.get 0 rfl).trans (bF rfl)) ?_
                    refine wp_skip ?_
                    refine hK11 _ _ ?_
                    clear hK11 K11
                    refine wp_seq_k (fun K15 hK15 => ?_)
                    refine reg_seq (N := 130) (bs := [(31, .bool false), (9, .pointer (some ⟨g9, 0, none⟩)), (8, .bool false), (1, .int .i64 a1), (2, .int .i64 a2), (3, .int .i64 a3)]) (I := fun x => Below w.heap.size w x ∧ Below w3.heap.size w3 x ∧ Below w8.heap.size w8 x ∧ Below w14.heap.size w14 x) (ps := [IsV (.int .i64 a1), IsV (.int .i64 t16), IsV (.int .i64 t16)]) (by kernel_rfl) ?_ ?_ rfl hS ⟨hBw14_w, hBw14_w3, hBw14_w8, hBw14_w14⟩ ?_ ?_
                    · exact fun x y hI hb => ⟨below_step hI.1 hb, below_step hI.2.1 hb, below_step hI.2.2.1 hb, below_step hI.2.2.2 hb⟩
                    · exact AllStay.cons (Stays.v _) (AllStay.cons (Stays.v _) (AllStay.cons (Stays.v _) (AllStay.nil)))
                    · refine Steps.cons (fun a w hS hI hp => ok_on rfl (does_val (x_move rfl (hS.get 3 rfl)) rfl)) ?_
                      refine Steps.cons (fun a w hS hI hp => ok_on rfl (does_call (by kernel_rfl) (ar2 ((hp.get 0 (by rfl) rfl rfl)) (rfl)) ((carillonlaw00_Place.calls a1 65535 t16 _  At16).mono fun _ _ h => ⟨_, h.1, h.2.below, rfl⟩))) ?_
                      refine Steps.cons (fun a w hS hI hp => ok_on rfl (does_val (x_assign rfl ((hp.get 1 (by rfl) rfl rfl))) rfl)) ?_
                      exact Steps.nil
                    clear hS
                    intro at17 w18 hS hI hp
                    have hBw18_w := hI.1
                    have hBw18_w3 := hI.2.1
                    have hBw18_w8 := hI.2.2.1
                    have hBw18_w14 := hI.2.2.2
                    replace hS := (((((hS.nil).cons (hS.get 5 rfl)).cons (hS.get 4 rfl)).cons (hS.get 2 rfl)).cons (hS.get 1 rfl)).cons (hS.get 0 rfl)
                    have hv10 : sl _ 10 = .int .i64 t16 := hp 2 (by decide)
                    have hBw18_w18 := Below.refl w18.heap.size w18
                    have hS := hS.cons hv10
                    clear hp hI hv10
                    refine hK15 _ _ ?_
                    clear hK15 K15
                    refine wp_seq_k (fun K19 hK19 => ?_)
                    refine reg_seq_tail 2 (N := 130) (bs := [(10, .int .i64 t16), (31, .bool false), (9, .pointer (some ⟨g9, 0, none⟩)), (8, .bool false), (2, .int .i64 a2), (3, .int .i64 a3)]) (I := fun x => Below w.heap.size w x ∧ Below w3.heap.size w3 x ∧ Below w8.heap.size w8 x ∧ Below w18.heap.size w18 x) (ps := [IsV (.pointer (some ⟨g9, 0, none⟩)), IsV (.int .i64 t16)]) (by kernel_rfl) ?_ ?_ rfl hS ⟨hBw18_w, hBw18_w3, hBw18_w8, hBw18_w18⟩ ?_ ?_
                    · exact fun x y hI hb => ⟨below_step hI.1 hb, below_step hI.2.1 hb, below_step hI.2.2.1 hb, below_step hI.2.2.2 hb⟩
                    · exact AllStay.cons (Stays.v _) (AllStay.cons (Stays.v _) (AllStay.nil))
                    · refine Steps.cons (fun a w hS hI hp => ok_on rfl (does_val (x_move rfl (hS.get 2 rfl)) rfl)) ?_
                      refine Steps.cons (fun a w hS hI hp => ok_on rfl (does_val (x_move rfl (hS.get 0 rfl)) rfl)) ?_
                      exact Steps.nil
                    clear hS
                    intro at20 w21 hS hI hp
                    have hBw21_w := hI.1
                    have hBw21_w3 := hI.2.1
                    have hBw21_w8 := hI.2.2.1
                    have hBw21_w18 := hI.2.2.2
                    have hv34 : sl _ 34 = .pointer (some ⟨g9, 0, none⟩) := hp 0 (by decide)
                    have hv35 : sl _ 35 = .int .i64 t16 := hp 1 (by decide)
                    have hBw21_w21 := Below.refl w21.heap.size w21
                    have hS := hS.cons hv34
                    have hS := hS.cons hv35
                    clear hp hI hv34 hv35
                    show wpList _ _ _ [_, _, _] _ _
                    refine list_step rfl (R := fun v w' => v = .agg #[.int .i64 t23_1, .int .i64 t23_2, .int .i64 t23_3, .int .i64 t23_4, .int .u64 t23_5, .int .i64 t23_6, .int .i64 t23_7, .int .i64 t23_8, .int .i64 t23_9, .int .u64 t23_10, .int .i64 t23_11, .int .i64 t23_12, .int .i64 t23_13, .int .i64 t23_14, .int .i64 t23_15, .int .i64 t23_16, .int .i64 t23_17, .int .u64 t23_18, .int .i64 t23_19, .int .i64 t23_20, .int .i64 t23_21, .int .i64 t23_22, .int .i64 t23_23] ∧ w'.heap[g9]? = some (.cells #[.int .u64 t23_24, .int .i64 t23_25, .int .i64 t23_26, .int .i64 t23_27, .int .i64 t23_28, .bool t23_29, .bool t23_30] 54 (0, 0)) ∧ Tch g9 _ w') (does_call (by kernel_rfl) (ar3 (hS.get 1 rfl) (hS.get 0 rfl) (rfl)) ((delay_Exchange_Request.calls g9 t6_1 t6_2 t6_3 t6_4 t6_5 t6_6 t6_7 t16 0 t23_1 t23_2 t23_3 t23_4 t23_5 t23_6 t23_7 t23_8 t23_9 t23_10 t23_11 t23_12 t23_13 t23_14 t23_15 t23_16 t23_17 t23_18 t23_19 t23_20 t23_21 t23_22 t23_23 t23_24 t23_25 t23_26 t23_27 t23_28 t23_29 t23_30 _ ((hBw21_w8.block g9 (blk_lt hbxg9)).trans hbxg9) At23).mono fun _ _ h => ⟨_, h.1, rfl, h.2⟩)) ?_
                    rintro vw22 w22 ⟨rfl, hbxw22, hT⟩
                    have hBw22_w := hT.below hBw21_w (Nat.le_trans (hBw3_w).size hgeg9) (hBw21_w).size
                    have hBw22_w3 := hT.below hBw21_w3 hgeg9 (hBw21_w3).size
                    have hBw22_w22 := Below.refl w22.heap.size w22
                    clear hT
                    refine hS.next (v := .agg #[.int .i64 t23_1, .int .i64 t23_2, .int .i64 t23_3, .int .i64 t23_4, .int .u64 t23_5, .int .i64 t23_6, .int .i64 t23_7, .int .i64 t23_8, .int .i64 t23_9, .int .u64 t23_10, .int .i64 t23_11, .int .i64 t23_12, .int .i64 t23_13, .int .i64 t23_14, .int .i64 t23_15, .int .i64 t23_16, .int .i64 t23_17, .int .u64 t23_18, .int .i64 t23_19, .int .i64 t23_20, .int .i64 t23_21, .int .i64 t23_22, .int .i64 t23_23]) (d := 36) rfl (by decide) (by rfl) ?_
                    clear hS
                    intro at24 hS
                    refine list_step rfl (R := fun v w' => Below _ _ w' ∧ (IsB #[.int .i64 0, .int .i64 0, .int .i64 0, .int .i64 0, .int .u64 0, .int .i64 0, .int .i64 0, .int .i64 0, .int .i64 0, .int .u64 0, .int .i64 0, .int .i64 0, .int .i64 0, .int .i64 0, .int .i64 0, .int .i64 0, .int .i64 0, .int .u64 0, .int .i64 0, .int .i64 0, .int .i64 0, .int .i64 0, .int .i64 0] 34 w22.heap.size) v w') (does_var (x_alloc rfl (by kernel_rfl)) (hBw22_w22).size) ?_
                    rintro vw25 w25 ⟨hb, he⟩
                    have hBw25_w := below_step hBw22_w hb
                    have hBw25_w3 := below_step hBw22_w3 hb
                    have hBw25_w22 := below_step hBw22_w22 hb
                    have hBw25_w25 := Below.refl w25.heap.size w25
                    obtain ⟨g26, rfl, hgeg26, hbxg26⟩ := he
                    have hne27 : g26 ≠ g4 := Nat.ne_of_gt (Nat.lt_of_lt_of_le (blk_lt ((hBw22_w3.block g4 (blk_lt hbxg4)).trans hbxg4)) hgeg26)
                    have hne28 : g26 ≠ g9 := Nat.ne_of_gt (Nat.lt_of_lt_of_le (blk_lt ((hBw22_w22.block g9 (blk_lt hbxw22)).trans hbxw22)) hgeg26)
                    refine hS.next (v := .pointer (some ⟨g26, 0, none⟩)) (d := 11) rfl (by decide) (by rfl) ?_
                    clear hS
                    intro at29 hS
                    refine list_step rfl (does_storeAll (g := g26) (cs := #[.int .i64 t23_1, .int .i64 t23_2, .int .i64 t23_3, .int .i64 t23_4, .int .u64 t23_5, .int .i64 t23_6, .int .i64 t23_7, .int .i64 t23_8, .int .i64 t23_9, .int .u64 t23_10, .int .i64 t23_11, .int .i64 t23_12, .int .i64 t23_13, .int .i64 t23_14, .int .i64 t23_15, .int .i64 t23_16, .int .i64 t23_17, .int .u64 t23_18, .int .i64 t23_19, .int .i64 t23_20, .int .i64 t23_21, .int .i64 t23_22, .int .i64 t23_23]) rfl (hS.get 0 rfl) (hS.get 1 rfl) ((hBw25_w25.block g26 (blk_lt hbxg26)).trans hbxg26) (by kernel_rfl) (by kernel_rfl) (by kernel_rfl)) ?_
                    rintro vw30 w30 ⟨rfl, hbxw30, hT⟩
                    have hBw30_w := hT.below hBw25_w (Nat.le_trans (hBw22_w).size hgeg26) (hBw25_w).size
                    have hBw30_w3 := hT.below hBw25_w3 (Nat.le_trans (hBw22_w3).size hgeg26) (hBw25_w3).size
                    have hBw30_w22 := hT.below hBw25_w22 hgeg26 (hBw25_w22).size
                    have hBw30_w30 := Below.refl w30.heap.size w30
                    clear hT
                    refine wpList_nil ?_
                    refine hK19 _ _ ?_
                    clear hK19 K19
                    refine wp_seq_k (fun K31 hK31 => ?_)
                    refine reg_seq_tail 3 (N := 130) (bs := [(11, .pointer (some ⟨g26, 0, none⟩)), (36, .agg #[.int .i64 t23_1, .int .i64 t23_2, .int .i64 t23_3, .int .i64 t23_4, .int .u64 t23_5, .int .i64 t23_6, .int .i64 t23_7, .int .i64 t23_8, .int .i64 t23_9, .int .u64 t23_10, .int .i64 t23_11, .int .i64 t23_12, .int .i64 t23_13, .int .i64 t23_14, .int .i64 t23_15, .int .i64 t23_16, .int .i64 t23_17, .int .u64 t23_18, .int .i64 t23_19, .int .i64 t23_20, .int .i64 t23_21, .int .i64 t23_22, .int .i64 t23_23]), (35, .int .i64 t16), (34, .pointer (some ⟨g9, 0, none⟩)), (10, .int .i64 t16), (31, .bool false), (9, .pointer (some ⟨g9, 0, none⟩)), (8, .bool false), (2, .int .i64 a2), (3, .int .i64 a3)]) (I := fun x => Below w.heap.size w x ∧ Below w3.heap.size w3 x ∧ Below w22.heap.size w22 x ∧ Below w30.heap.size w30 x) (ps := [IsV (.pointer (some ⟨g9, 0, none⟩)), IsV (.pointer (some ⟨g26, 6, none⟩)), IsV (.int .i64 t23_7)]) (by kernel_rfl) ?_ ?_ rfl hS ⟨hBw30_w, hBw30_w3, hBw30_w22, hBw30_w30⟩ ?_ ?_
                    · exact fun x y hI hb => ⟨below_step hI.1 hb, below_step hI.2.1 hb, below_step hI.2.2.1 hb, below_step hI.2.2.2 hb⟩
                    · exact AllStay.cons (Stays.v _) (AllStay.cons (Stays.v _) (AllStay.cons (Stays.v _) (AllStay.nil)))
                    · refine Steps.cons (fun a w hS hI hp => ok_on rfl (does_val (x_move rfl (hS.get 6 rfl)) rfl)) ?_
                      refine Steps.cons (fun a w hS hI hp => ok_on rfl (does_val (x_field rfl (hS.get 0 rfl) Try.underlying34 rfl (by kernel_rfl)) rfl)) ?_
                      refine Steps.cons (fun a w hS hI hp => ok_on rfl (does_val (x_load1 (d := .int .i64) rfl ((hp.get 1 (by rfl) rfl rfl)) (by kernel_rfl) rfl ((blk_cell (((hI.2.2.2).block g26 (blk_lt hbxw30)).trans hbxw30) 6).trans rfl)) rfl)) ?_
                      exact Steps.nil
                    clear hS
                    intro at32 w33 hS hI hp
                    have hBw33_w := hI.1
                    have hBw33_w3 := hI.2.1
                    have hBw33_w22 := hI.2.2.1
                    have hBw33_w30 := hI.2.2.2
                    replace hS := (((((((hS.nil).cons (hS.get 9 rfl)).cons (hS.get 8 rfl)).cons (hS.get 7 rfl)).cons (hS.get 6 rfl)).cons (hS.get 5 rfl)).cons (hS.get 4 rfl)).cons (hS.get 0 rfl)
                    have hv37 : sl _ 37 = .pointer (some ⟨g9, 0, none⟩) := hp 0 (by decide)
                    have hv39 : sl _ 39 = .int .i64 t23_7 := hp 2 (by decide)
                    have hBw33_w33 := Below.refl w33.heap.size w33
                    have hS := hS.cons hv37
                    have hS := hS.cons hv39
                    clear hp hI hv37 hv39
                    show wpList _ _ _ [_] _ _
                    refine list_step rfl (R := fun v w' => v = .bool t35_1 ∧ w'.heap[g9]? = some (.cells #[.int .u64 t35_2, .int .i64 t35_3, .int .i64 t35_4, .int .i64 t35_5, .int .i64 t35_6, .bool t35_7, .bool t35_8] 54 (0, 0)) ∧ Tch g9 _ w') (does_call (by kernel_rfl) (ar3 (hS.get 1 rfl) (hS.get 0 rfl) (rfl)) ((delay_Exchange_Sent.calls g9 t23_24 t23_25 t23_26 t23_27 t23_28 t23_29 t23_30 t23_7 10 t35_1 t35_2 t35_3 t35_4 t35_5 t35_6 t35_7 t35_8 _ ((hBw33_w22.block g9 (blk_lt hbxw22)).trans hbxw22) At35).mono fun _ _ h => ⟨_, h.1, rfl, h.2⟩)) ?_
                    rintro vw34 w34 ⟨rfl, hbxw34, hT⟩
                    have hn36 := hT.blk ((hBw33_w30.block g26 (blk_lt hbxw30)).trans hbxw30) hne28
                    have hBw34_w := hT.below hBw33_w (Nat.le_trans (hBw3_w).size hgeg9) (hBw33_w).size
                    have hBw34_w3 := hT.below hBw33_w3 hgeg9 (hBw33_w3).size
                    have hBw34_w34 := Below.refl w34.heap.size w34
                    clear hT
                    refine hS.next (v := .bool t35_1) (d := 40) rfl (by decide) (by rfl) ?_
                    clear hS
                    intro at37 hS
                    refine wpList_nil ?_
                    refine hK31 _ _ ?_
                    clear hK31 K31
                    refine wp_seq_k (fun K38 hK38 => ?_)
                    refine reg_seq_tail 3 (N := 130) (bs := [(40, .bool t35_1), (39, .int .i64 t23_7), (37, .pointer (some ⟨g9, 0, none⟩)), (11, .pointer (some ⟨g26, 0, none⟩)), (10, .int .i64 t16), (31, .bool false), (9, .pointer (some ⟨g9, 0, none⟩)), (8, .bool false), (2, .int .i64 a2), (3, .int .i64 a3)]) (I := fun x => Below w.heap.size w x ∧ Below w3.heap.size w3 x ∧ Below w34.heap.size w34 x) (ps := [IsV (.pointer (some ⟨g9, 0, none⟩)), IsV (.int .i64 t16), IsV (.int .i64 (wrap64 (t16 + 1)))]) (by kernel_rfl) ?_ ?_ rfl hS ⟨hBw34_w, hBw34_w3, hBw34_w34⟩ ?_ ?_
                    · exact fun x y hI hb => ⟨below_step hI.1 hb, below_step hI.2.1 hb, below_step hI.2.2 hb⟩
                    · exact AllStay.cons (Stays.v _) (AllStay.cons (Stays.v _) (AllStay.cons (Stays.v _) (AllStay.nil)))
                    · refine Steps.cons (fun a w hS hI hp => ok_on rfl (does_val (x_move rfl (hS.get 6 rfl)) rfl)) ?_
                      refine Steps.cons (fun a w hS hI hp => ok_on rfl (does_val (x_move rfl (hS.get 4 rfl)) rfl)) ?_
                      refine Steps.cons (fun a w hS hI hp => ok_on rfl (does_val (x_bin rfl ((hp.get 1 (by rfl) rfl rfl)) (rfl) (b_add _ _ _ _ _)) rfl)) ?_
                      exact Steps.nil
                    clear hS
                    intro at39 w40 hS hI hp
                    have hBw40_w := hI.1
                    have hBw40_w3 := hI.2.1
                    have hBw40_w34 := hI.2.2
                    replace hS := (((((((hS.nil).cons (hS.get 9 rfl)).cons (hS.get 8 rfl)).cons (hS.get 7 rfl)).cons (hS.get 6 rfl)).cons (hS.get 5 rfl)).cons (hS.get 4 rfl)).cons (hS.get 3 rfl)
                    have hv41 : sl _ 41 = .pointer (some ⟨g9, 0, none⟩) := hp 0 (by decide)
                    have hv43 : sl _ 43 = .int .i64 (wrap64 (t16 + 1)) := hp 2 (by decide)
                    have hBw40_w40 := Below.refl w40.heap.size w40
                    have hS := hS.cons hv41
                    have hS := hS.cons hv43
                    clear hp hI hv41 hv43
                    show wpList _ _ _ [_, _, _] _ _
                    refine list_step rfl (R := fun v w' => v = .agg #[.int .i64 t42_1, .int .i64 t42_2, .int .i64 t42_3, .int .i64 t42_4, .int .u64 t42_5, .int .i64 t42_6, .int .i64 t42_7, .int .i64 t42_8, .int .i64 t42_9, .int .u64 t42_10, .int .i64 t42_11, .int .i64 t42_12, .int .i64 t42_13, .int .i64 t42_14, .int .i64 t42_15, .int .i64 t42_16, .int .i64 t42_17, .int .u64 t42_18, .int .i64 t42_19, .int .i64 t42_20, .int .i64 t42_21, .int .i64 t42_22, .int .i64 t42_23] ∧ w'.heap[g9]? = some (.cells #[.int .u64 t42_24, .int .i64 t42_25, .int .i64 t42_26, .int .i64 t42_27, .int .i64 t42_28, .bool t42_29, .bool t42_30] 54 (0, 0)) ∧ Tch g9 _ w') (does_call (by kernel_rfl) (ar3 (hS.get 1 rfl) (hS.get 0 rfl) (rfl)) ((delay_Exchange_Request.calls g9 t35_2 t35_3 t35_4 t35_5 t35_6 t35_7 t35_8 (wrap64 (t16 + 1)) 0 t42_1 t42_2 t42_3 t42_4 t42_5 t42_6 t42_7 t42_8 t42_9 t42_10 t42_11 t42_12 t42_13 t42_14 t42_15 t42_16 t42_17 t42_18 t42_19 t42_20 t42_21 t42_22 t42_23 t42_24 t42_25 t42_26 t42_27 t42_28 t42_29 t42_30 _ ((hBw40_w34.block g9 (blk_lt hbxw34)).trans hbxw34) At42).mono fun _ _ h => ⟨_, h.1, rfl, h.2⟩)) ?_
                    rintro vw41 w41 ⟨rfl, hbxw41, hT⟩
                    have hn43 := hT.blk ((hBw40_w34.block g26 (blk_lt hn36)).trans hn36) hne28
                    have hBw41_w := hT.below hBw40_w (Nat.le_trans (hBw3_w).size hgeg9) (hBw40_w).size
                    have hBw41_w3 := hT.below hBw40_w3 hgeg9 (hBw40_w3).size
                    have hBw41_w41 := Below.refl w41.heap.size w41
                    clear hT
                    refine hS.next (v := .agg #[.int .i64 t42_1, .int .i64 t42_2, .int .i64 t42_3, .int .i64 t42_4, .int .u64 t42_5, .int .i64 t42_6, .int .i64 t42_7, .int .i64 t42_8, .int .i64 t42_9, .int .u64 t42_10, .int .i64 t42_11, .int .i64 t42_12, .int .i64 t42_13, .int .i64 t42_14, .int .i64 t42_15, .int .i64 t42_16, .int .i64 t42_17, .int .u64 t42_18, .int .i64 t42_19, .int .i64 t42_20, .int .i64 t42_21, .int .i64 t42_22, .int .i64 t42_23]) (d := 44) rfl (by decide) (by rfl) ?_
                    clear hS
                    intro at44 hS
                    refine list_step rfl (R := fun v w' => Below _ _ w' ∧ (IsB #[.int .i64 0, .int .i64 0, .int .i64 0, .int .i64 0, .int .u64 0, .int .i64 0, .int .i64 0, .int .i64 0, .int .i64 0, .int .u64 0, .int .i64 0, .int .i64 0, .int .i64 0, .int .i64 0, .int .i64 0, .int .i64 0, .int .i64 0, .int .u64 0, .int .i64 0, .int .i64 0, .int .i64 0, .int .i64 0, .int .i64 0] 34 w41.heap.size) v w') (does_var (x_alloc rfl (by kernel_rfl)) (hBw41_w41).size) ?_
                    rintro vw45 w45 ⟨hb, he⟩
                    have hBw45_w := below_step hBw41_w hb
                    have hBw45_w3 := below_step hBw41_w3 hb
                    have hBw45_w41 := below_step hBw41_w41 hb
                    have hBw45_w45 := Below.refl w45.heap.size w45
                    obtain ⟨g46, rfl, hgeg46, hbxg46⟩ := he
                    have hne47 : g46 ≠ g4 := Nat.ne_of_gt (Nat.lt_of_lt_of_le (blk_lt ((hBw41_w3.block g4 (blk_lt hbxg4)).trans hbxg4)) hgeg46)
                    have hne48 : g46 ≠ g9 := Nat.ne_of_gt (Nat.lt_of_lt_of_le (blk_lt ((hBw41_w41.block g9 (blk_lt hbxw41)).trans hbxw41)) hgeg46)
                    have hne49 : g46 ≠ g26 := Nat.ne_of_gt (Nat.lt_of_lt_of_le (blk_lt ((hBw41_w41.block g26 (blk_lt hn43)).trans hn43)) hgeg46)
                    refine hS.next (v := .pointer (some ⟨g46, 0, none⟩)) (d := 12) rfl (by decide) (by rfl) ?_
                    clear hS
                    intro at50 hS
                    refine list_step rfl (does_storeAll (g := g46) (cs := #[.int .i64 t42_1, .int .i64 t42_2, .int .i64 t42_3, .int .i64 t42_4, .int .u64 t42_5, .int .i64 t42_6, .int .i64 t42_7, .int .i64 t42_8, .int .i64 t42_9, .int .u64 t42_10, .int .i64 t42_11, .int .i64 t42_12, .int .i64 t42_13, .int .i64 t42_14, .int .i64 t42_15, .int .i64 t42_16, .int .i64 t42_17, .int .u64 t42_18, .int .i64 t42_19, .int .i64 t42_20, .int .i64 t42_21, .int .i64 t42_22, .int .i64 t42_23]) rfl (hS.get 0 rfl) (hS.get 1 rfl) ((hBw45_w45.block g46 (blk_lt hbxg46)).trans hbxg46) (by kernel_rfl) (by kernel_rfl) (by kernel_rfl)) ?_
                    rintro vw51 w51 ⟨rfl, hbxw51, hT⟩
                    have hBw51_w := hT.below hBw45_w (Nat.le_trans (hBw41_w).size hgeg46) (hBw45_w).size
                    have hBw51_w3 := hT.below hBw45_w3 (Nat.le_trans (hBw41_w3).size hgeg46) (hBw45_w3).size
                    have hBw51_w41 := hT.below hBw45_w41 hgeg46 (hBw45_w41).size
                    have hBw51_w51 := Below.refl w51.heap.size w51
                    clear hT
                    refine wpList_nil ?_
                    refine hK38 _ _ ?_
                    clear hK38 K38
                    refine wp_seq_k (fun K52 hK52 => ?_)
                    refine reg_seq_tail 7 (N := 130) (bs := [(12, .pointer (some ⟨g46, 0, none⟩)), (44, .agg #[.int .i64 t42_1, .int .i64 t42_2, .int .i64 t42_3, .int .i64 t42_4, .int .u64 t42_5, .int .i64 t42_6, .int .i64 t42_7, .int .i64 t42_8, .int .i64 t42_9, .int .u64 t42_10, .int .i64 t42_11, .int .i64 t42_12, .int .i64 t42_13, .int .i64 t42_14, .int .i64 t42_15, .int .i64 t42_16, .int .i64 t42_17, .int .u64 t42_18, .int .i64 t42_19, .int .i64 t42_20, .int .i64 t42_21, .int .i64 t42_22, .int .i64 t42_23]), (43, .int .i64 (wrap64 (t16 + 1))), (41, .pointer (some ⟨g9, 0, none⟩)), (11, .pointer (some ⟨g26, 0, none⟩)), (10, .int .i64 t16), (31, .bool false), (9, .pointer (some ⟨g9, 0, none⟩)), (8, .bool false), (2, .int .i64 a2), (3, .int .i64 a3)]) (I := fun x => Below w.heap.size w x ∧ Below w3.heap.size w3 x ∧ Below w41.heap.size w41 x ∧ Below w51.heap.size w51 x) (ps := [IsV (.agg #[.int .i64 t23_1, .int .i64 t23_2, .int .i64 t23_3, .int .i64 t23_4, .int .u64 t23_5, .int .i64 t23_6, .int .i64 t23_7, .int .i64 t23_8, .int .i64 t23_9, .int .u64 t23_10, .int .i64 t23_11, .int .i64 t23_12, .int .i64 t23_13, .int .i64 t23_14, .int .i64 t23_15, .int .i64 t23_16, .int .i64 t23_17, .int .u64 t23_18, .int .i64 t23_19, .int .i64 t23_20, .int .i64 t23_21, .int .i64 t23_22, .int .i64 t23_23]), IsV (.agg #[.int .u64 8, .int .i64 1]), IsV (.tuple #[.agg #[.int .i64 t53_1, .int .i64 t53_2, .int .i64 t53_3, .int .i64 t53_4, .int .u64 t53_5, .int .i64 t53_6, .int .i64 t53_7, .int .i64 t53_8, .int .i64 t53_9, .int .u64 t53_10, .int .i64 t53_11, .int .i64 t53_12, .int .i64 t53_13, .int .i64 t53_14, .int .i64 t53_15, .int .i64 t53_16, .int .i64 t53_17, .int .u64 t53_18, .int .i64 t53_19, .int .i64 t53_20, .int .i64 t53_21, .int .i64 t53_22, .int .i64 t53_23], .bool t53_24]), IsV (.tuple #[.agg #[.int .i64 t53_1, .int .i64 t53_2, .int .i64 t53_3, .int .i64 t53_4, .int .u64 t53_5, .int .i64 t53_6, .int .i64 t53_7, .int .i64 t53_8, .int .i64 t53_9, .int .u64 t53_10, .int .i64 t53_11, .int .i64 t53_12, .int .i64 t53_13, .int .i64 t53_14, .int .i64 t53_15, .int .i64 t53_16, .int .i64 t53_17, .int .u64 t53_18, .int .i64 t53_19, .int .i64 t53_20, .int .i64 t53_21, .int .i64 t53_22, .int .i64 t53_23], .bool t53_24]), IsV (.agg #[.int .i64 t53_1, .int .i64 t53_2, .int .i64 t53_3, .int .i64 t53_4, .int .u64 t53_5, .int .i64 t53_6, .int .i64 t53_7, .int .i64 t53_8, .int .i64 t53_9, .int .u64 t53_10, .int .i64 t53_11, .int .i64 t53_12, .int .i64 t53_13, .int .i64 t53_14, .int .i64 t53_15, .int .i64 t53_16, .int .i64 t53_17, .int .u64 t53_18, .int .i64 t53_19, .int .i64 t53_20, .int .i64 t53_21, .int .i64 t53_22, .int .i64 t53_23]), IsV (.bool t53_24), IsB #[.int .i64 0, .int .i64 0, .int .i64 0, .int .i64 0, .int .u64 0, .int .i64 0, .int .i64 0, .int .i64 0, .int .i64 0, .int .u64 0, .int .i64 0, .int .i64 0, .int .i64 0, .int .i64 0, .int .i64 0, .int .i64 0, .int .i64 0, .int .u64 0, .int .i64 0, .int .i64 0, .int .i64 0, .int .i64 0, .int .i64 0] 34 w51.heap.size]) (by kernel_rfl) ?_ ?_ rfl hS ⟨hBw51_w, hBw51_w3, hBw51_w41, hBw51_w51⟩ ?_ ?_
                    · exact fun x y hI hb => ⟨below_step hI.1 hb, below_step hI.2.1 hb, below_step hI.2.2.1 hb, below_step hI.2.2.2 hb⟩
                    · exact AllStay.cons (Stays.v _) (AllStay.cons (Stays.v _) (AllStay.cons (Stays.v _) (AllStay.cons (Stays.v _) (AllStay.cons (Stays.v _) (AllStay.cons (Stays.v _) (AllStay.cons (Stays.b _ _ _) (AllStay.nil)))))))
                    · refine Steps.cons (fun a w hS hI hp => ok_on rfl (does_loadrow rfl (hS.get 4 rfl) (((hI.2.2.1).block g26 (blk_lt hn43)).trans hn43) Try.underlying34 rfl (by kernel_rfl) rfl)) ?_
                      refine Steps.cons (fun a w hS hI hp => ok_on rfl (does_val (x_build (vs := [(0, .int .u64 8), (1, .int .i64 1)]) rfl (by rw [Array.toList_map]; exact (show [(0, a.eval (.const (.int .u64 8))), (1, a.eval (.const (.int .i64 1)))] = _ from (li_cons (rfl) (li_cons (rfl) rfl)))) (by kernel_rfl)) rfl)) ?_
                      refine Steps.cons (fun a w hS hI hp => ok_on rfl (does_call (by kernel_rfl) (ar4 ((hp.get 0 (by rfl) rfl rfl)) ((hp.get 1 (by rfl) rfl rfl)) (rfl) (rfl)) ((delay_Answer.calls t23_1 t23_2 t23_3 t23_4 t23_5 t23_6 t23_7 t23_8 t23_9 t23_10 t23_11 t23_12 t23_13 t23_14 t23_15 t23_16 t23_17 t23_18 t23_19 t23_20 t23_21 t23_22 t23_23 8 1 500 0 t53_1 t53_2 t53_3 t53_4 t53_5 t53_6 t53_7 t53_8 t53_9 t53_10 t53_11 t53_12 t53_13 t53_14 t53_15 t53_16 t53_17 t53_18 t53_19 t53_20 t53_21 t53_22 t53_23 t53_24 _  At53).mono fun _ _ h => ⟨_, h.1, h.2, rfl⟩))) ?_
                      refine Steps.cons (fun a w hS hI hp => ok_on rfl (does_val (x_move rfl ((hp.get 2 (by rfl) rfl rfl))) rfl)) ?_
                      refine Steps.cons (fun a w hS hI hp => ok_on rfl (does_val (x_extract rfl ((hp.get 3 (by rfl) rfl rfl)) rfl) rfl)) ?_
                      refine Steps.cons (fun a w hS hI hp => ok_on rfl (does_val (x_extract rfl ((hp.get 3 (by rfl) rfl rfl)) rfl) rfl)) ?_
                      refine Steps.cons (fun a w hS hI hp => ok_on rfl (does_var (x_alloc rfl (by kernel_rfl)) (hI.2.2.2).size)) ?_
                      exact Steps.nil
                    clear hS
                    intro at54 w55 hS hI hp
                    have hBw55_w := hI.1
                    have hBw55_w3 := hI.2.1
                    have hBw55_w41 := hI.2.2.1
                    have hBw55_w51 := hI.2.2.2
                    replace hS := (((((((hS.nil).cons (hS.get 10 rfl)).cons (hS.get 9 rfl)).cons (hS.get 8 rfl)).cons (hS.get 7 rfl)).cons (hS.get 6 rfl)).cons (hS.get 5 rfl)).cons (hS.get 0 rfl)
                    have hv49 : sl _ 49 = .agg #[.int .i64 t53_1, .int .i64 t53_2, .int .i64 t53_3, .int .i64 t53_4, .int .u64 t53_5, .int .i64 t53_6, .int .i64 t53_7, .int .i64 t53_8, .int .i64 t53_9, .int .u64 t53_10, .int .i64 t53_11, .int .i64 t53_12, .int .i64 t53_13, .int .i64 t53_14, .int .i64 t53_15, .int .i64 t53_16, .int .i64 t53_17, .int .u64 t53_18, .int .i64 t53_19, .int .i64 t53_20, .int .i64 t53_21, .int .i64 t53_22, .int .i64 t53_23] := hp 4 (by decide)
                    have hv50 : sl _ 50 = .bool t53_24 := hp 5 (by decide)
                    obtain ⟨g56, hv13, hgeg56, hbxg56⟩ := (show IsB _ 34 _ (sl _ 13) _ from hp 6 (by decide))
                    have hne57 : g56 ≠ g4 := Nat.ne_of_gt (Nat.lt_of_lt_of_le (blk_lt ((hBw51_w3.block g4 (blk_lt hbxg4)).trans hbxg4)) hgeg56)
                    have hne58 : g56 ≠ g9 := Nat.ne_of_gt (Nat.lt_of_lt_of_le (blk_lt ((hBw51_w41.block g9 (blk_lt hbxw41)).trans hbxw41)) hgeg56)
                    have hne59 : g56 ≠ g26 := Nat.ne_of_gt (Nat.lt_of_lt_of_le (blk_lt ((hBw51_w41.block g26 (blk_lt hn43)).trans hn43)) hgeg56)
                    have hne60 : g56 ≠ g46 := Nat.ne_of_gt (Nat.lt_of_lt_of_le (blk_lt ((hBw51_w51.block g46 (blk_lt hbxw51)).trans hbxw51)) hgeg56)
                    have hBw55_w55 := Below.refl w55.heap.size w55
                    have hS := hS.cons hv49
                    have hS := hS.cons hv50
                    have hS := hS.cons hv13
                    clear hp hI hv49 hv50 hv13
                    show wpList _ _ _ [_, _] _ _
                    refine list_step rfl (does_storeAll (g := g56) (cs := #[.int .i64 t53_1, .int .i64 t53_2, .int .i64 t53_3, .int .i64 t53_4, .int .u64 t53_5, .int .i64 t53_6, .int .i64 t53_7, .int .i64 t53_8, .int .i64 t53_9, .int .u64 t53_10, .int .i64 t53_11, .int .i64 t53_12, .int .i64 t53_13, .int .i64 t53_14, .int .i64 t53_15, .int .i64 t53_16, .int .i64 t53_17, .int .u64 t53_18, .int .i64 t53_19, .int .i64 t53_20, .int .i64 t53_21, .int .i64 t53_22, .int .i64 t53_23]) rfl (hS.get 0 rfl) (hS.get 2 rfl) ((hBw55_w55.block g56 (blk_lt hbxg56)).trans hbxg56) (by kernel_rfl) (by kernel_rfl) (by kernel_rfl)) ?_
                    rintro vw61 w61 ⟨rfl, hbxw61, hT⟩
                    have hBw61_w := hT.below hBw55_w (Nat.le_trans (hBw51_w).size hgeg56) (hBw55_w).size
                    have hBw61_w3 := hT.below hBw55_w3 (Nat.le_trans (hBw51_w3).size hgeg56) (hBw55_w3).size
                    have hBw61_w41 := hT.below hBw55_w41 (Nat.le_trans (hBw51_w41).size hgeg56) (hBw55_w41).size
                    have hBw61_w51 := hT.below hBw55_w51 hgeg56 (hBw55_w51).size
                    have hBw61_w61 := Below.refl w61.heap.size w61
                    clear hT
                    refine list_step rfl (R := fun v w' => Below _ _ w' ∧ (IsV (.bool t53_24)) v w') (does_val (x_assign rfl (hS.get 1 rfl)) rfl) ?_
                    rintro vw62 w62 ⟨hb, he⟩
                    have hBw62_w := below_step hBw61_w hb
                    have hBw62_w3 := below_step hBw61_w3 hb
                    have hBw62_w41 := below_step hBw61_w41 hb
                    have hBw62_w51 := below_step hBw61_w51 hb
                    have hBw62_w61 := below_step hBw61_w61 hb
                    have hBw62_w62 := Below.refl w62.heap.size w62
                    obtain rfl : vw62 = .bool t53_24 := he
                    refine hS.next (v := .bool t53_24) (d := 14) rfl (by decide) (by rfl) ?_
                    clear hS
                    intro at63 hS
                    refine wpList_nil ?_
                    refine hK52 _ _ ?_
                    clear hK52 K52
                    refine wp_seq_k (fun K64 hK64 => ?_)
                    refine reg_seq (N := 130) (bs := [(14, .bool t53_24), (13, .pointer (some ⟨g56, 0, none⟩)), (50, .bool t53_24), (49, .agg #[.int .i64 t53_1, .int .i64 t53_2, .int .i64 t53_3, .int .i64 t53_4, .int .u64 t53_5, .int .i64 t53_6, .int .i64 t53_7, .int .i64 t53_8, .int .i64 t53_9, .int .u64 t53_10, .int .i64 t53_11, .int .i64 t53_12, .int .i64 t53_13, .int .i64 t53_14, .int .i64 t53_15, .int .i64 t53_16, .int .i64 t53_17, .int .u64 t53_18, .int .i64 t53_19, .int .i64 t53_20, .int .i64 t53_21, .int .i64 t53_22, .int .i64 t53_23]), (12, .pointer (some ⟨g46, 0, none⟩)), (10, .int .i64 t16), (31, .bool false), (9, .pointer (some ⟨g9, 0, none⟩)), (8, .bool false), (2, .int .i64 a2), (3, .int .i64 a3)]) (I := fun x => Below w.heap.size w x ∧ Below w3.heap.size w3 x ∧ Below w41.heap.size w41 x ∧ Below w51.heap.size w51 x ∧ Below w61.heap.size w61 x ∧ Below w62.heap.size w62 x) (ps := [IsV (.int .i64 a3), IsV (.int .i64 t65), IsV (.int .i64 t65)]) (by kernel_rfl) ?_ ?_ rfl hS ⟨hBw62_w, hBw62_w3, hBw62_w41, hBw62_w51, hBw62_w61, hBw62_w62⟩ ?_ ?_
                    · exact fun x y hI hb => ⟨below_step hI.1 hb, below_step hI.2.1 hb, below_step hI.2.2.1 hb, below_step hI.2.2.2.1 hb, below_step hI.2.2.2.2.1 hb, below_step hI.2.2.2.2.2 hb⟩
                    · exact AllStay.cons (Stays.v _) (AllStay.cons (Stays.v _) (AllStay.cons (Stays.v _) (AllStay.nil)))
                    · refine Steps.cons (fun a w hS hI hp => ok_on rfl (does_val (x_move rfl (hS.get 10 rfl)) rfl)) ?_
                      refine Steps.cons (fun a w hS hI hp => ok_on rfl (does_call (by kernel_rfl) (ar2 ((hp.get 0 (by rfl) rfl rfl)) (rfl)) ((carillonlaw00_Place.calls a3 1099511627776 t65 _  At65).mono fun _ _ h => ⟨_, h.1, h.2.below, rfl⟩))) ?_
                      refine Steps.cons (fun a w hS hI hp => ok_on rfl (does_val (x_assign rfl ((hp.get 1 (by rfl) rfl rfl))) rfl)) ?_
                      exact Steps.nil
                    clear hS
                    intro at66 w67 hS hI hp
                    have hBw67_w := hI.1
                    have hBw67_w3 := hI.2.1
                    have hBw67_w41 := hI.2.2.1
                    have hBw67_w51 := hI.2.2.2.1
                    have hBw67_w61 := hI.2.2.2.2.1
                    have hBw67_w62 := hI.2.2.2.2.2
                    replace hS := ((((((((hS.nil).cons (hS.get 9 rfl)).cons (hS.get 8 rfl)).cons (hS.get 7 rfl)).cons (hS.get 6 rfl)).cons (hS.get 5 rfl)).cons (hS.get 4 rfl)).cons (hS.get 1 rfl)).cons (hS.get 0 rfl)
                    have hv15 : sl _ 15 = .int .i64 t65 := hp 2 (by decide)
                    have hBw67_w67 := Below.refl w67.heap.size w67
                    have hS := hS.cons hv15
                    clear hp hI hv15
                    refine hK64 _ _ ?_
                    clear hK64 K64
                    refine wp_seq_k (fun K68 hK68 => ?_)
                    refine reg_seq_tail 8 (N := 130) (bs := [(15, .int .i64 t65), (14, .bool t53_24), (13, .pointer (some ⟨g56, 0, none⟩)), (12, .pointer (some ⟨g46, 0, none⟩)), (10, .int .i64 t16), (31, .bool false), (9, .pointer (some ⟨g9, 0, none⟩)), (8, .bool false), (2, .int .i64 a2)]) (I := fun x => Below w.heap.size w x ∧ Below w3.heap.size w3 x ∧ Below w41.heap.size w41 x ∧ Below w51.heap.size w51 x ∧ Below w61.heap.size w61 x ∧ Below w67.heap.size w67 x) (ps := [IsV (.agg #[.int .i64 t42_1, .int .i64 t42_2, .int .i64 t42_3, .int .i64 t42_4, .int .u64 t42_5, .int .i64 t42_6, .int .i64 t42_7, .int .i64 t42_8, .int .i64 t42_9, .int .u64 t42_10, .int .i64 t42_11, .int .i64 t42_12, .int .i64 t42_13, .int .i64 t42_14, .int .i64 t42_15, .int .i64 t42_16, .int .i64 t42_17, .int .u64 t42_18, .int .i64 t42_19, .int .i64 t42_20, .int .i64 t42_21, .int .i64 t42_22, .int .i64 t42_23]), IsV (.agg #[.int .u64 8, .int .i64 1]), IsV (.int .i64 t65), IsV (.tuple #[.agg #[.int .i64 t69_1, .int .i64 t69_2, .int .i64 t69_3, .int .i64 t69_4, .int .u64 t69_5, .int .i64 t69_6, .int .i64 t69_7, .int .i64 t69_8, .int .i64 t69_9, .int .u64 t69_10, .int .i64 t69_11, .int .i64 t69_12, .int .i64 t69_13, .int .i64 t69_14, .int .i64 t69_15, .int .i64 t69_16, .int .i64 t69_17, .int .u64 t69_18, .int .i64 t69_19, .int .i64 t69_20, .int .i64 t69_21, .int .i64 t69_22, .int .i64 t69_23], .bool t69_24]), IsV (.tuple #[.agg #[.int .i64 t69_1, .int .i64 t69_2, .int .i64 t69_3, .int .i64 t69_4, .int .u64 t69_5, .int .i64 t69_6, .int .i64 t69_7, .int .i64 t69_8, .int .i64 t69_9, .int .u64 t69_10, .int .i64 t69_11, .int .i64 t69_12, .int .i64 t69_13, .int .i64 t69_14, .int .i64 t69_15, .int .i64 t69_16, .int .i64 t69_17, .int .u64 t69_18, .int .i64 t69_19, .int .i64 t69_20, .int .i64 t69_21, .int .i64 t69_22, .int .i64 t69_23], .bool t69_24]), IsV (.agg #[.int .i64 t69_1, .int .i64 t69_2, .int .i64 t69_3, .int .i64 t69_4, .int .u64 t69_5, .int .i64 t69_6, .int .i64 t69_7, .int .i64 t69_8, .int .i64 t69_9, .int .u64 t69_10, .int .i64 t69_11, .int .i64 t69_12, .int .i64 t69_13, .int .i64 t69_14, .int .i64 t69_15, .int .i64 t69_16, .int .i64 t69_17, .int .u64 t69_18, .int .i64 t69_19, .int .i64 t69_20, .int .i64 t69_21, .int .i64 t69_22, .int .i64 t69_23]), IsV (.bool t69_24), IsB #[.int .i64 0, .int .i64 0, .int .i64 0, .int .i64 0, .int .u64 0, .int .i64 0, .int .i64 0, .int .i64 0, .int .i64 0, .int .u64 0, .int .i64 0, .int .i64 0, .int .i64 0, .int .i64 0, .int .i64 0, .int .i64 0, .int .i64 0, .int .u64 0, .int .i64 0, .int .i64 0, .int .i64 0, .int .i64 0, .int .i64 0] 34 w67.heap.size]) (by kernel_rfl) ?_ ?_ rfl hS ⟨hBw67_w, hBw67_w3, hBw67_w41, hBw67_w51, hBw67_w61, hBw67_w67⟩ ?_ ?_
                    · exact fun x y hI hb => ⟨below_step hI.1 hb, below_step hI.2.1 hb, below_step hI.2.2.1 hb, below_step hI.2.2.2.1 hb, below_step hI.2.2.2.2.1 hb, below_step hI.2.2.2.2.2 hb⟩
                    · exact AllStay.cons (Stays.v _) (AllStay.cons (Stays.v _) (AllStay.cons (Stays.v _) (AllStay.cons (Stays.v _) (AllStay.cons (Stays.v _) (AllStay.cons (Stays.v _) (AllStay.cons (Stays.v _) (AllStay.cons (Stays.b _ _ _) (AllStay.nil))))))))
                    · refine Steps.cons (fun a w hS hI hp => ok_on rfl (does_loadrow rfl (hS.get 3 rfl) (((hI.2.2.2.1).block g46 (blk_lt hbxw51)).trans hbxw51) Try.underlying34 rfl (by kernel_rfl) rfl)) ?_
                      refine Steps.cons (fun a w hS hI hp => ok_on rfl (does_val (x_build (vs := [(0, .int .u64 8), (1, .int .i64 1)]) rfl (by rw [Array.toList_map]; exact (show [(0, a.eval (.const (.int .u64 8))), (1, a.eval (.const (.int .i64 1)))] = _ from (li_cons (rfl) (li_cons (rfl) rfl)))) (by kernel_rfl)) rfl)) ?_
                      refine Steps.cons (fun a w hS hI hp => ok_on rfl (does_val (x_move rfl (hS.get 0 rfl)) rfl)) ?_
                      refine Steps.cons (fun a w hS hI hp => ok_on rfl (does_call (by kernel_rfl) (ar4 ((hp.get 0 (by rfl) rfl rfl)) ((hp.get 1 (by rfl) rfl rfl)) ((hp.get 2 (by rfl) rfl rfl)) (rfl)) ((delay_Answer.calls t42_1 t42_2 t42_3 t42_4 t42_5 t42_6 t42_7 t42_8 t42_9 t42_10 t42_11 t42_12 t42_13 t42_14 t42_15 t42_16 t42_17 t42_18 t42_19 t42_20 t42_21 t42_22 t42_23 8 1 t65 0 t69_1 t69_2 t69_3 t69_4 t69_5 t69_6 t69_7 t69_8 t69_9 t69_10 t69_11 t69_12 t69_13 t69_14 t69_15 t69_16 t69_17 t69_18 t69_19 t69_20 t69_21 t69_22 t69_23 t69_24 _  At69).mono fun _ _ h => ⟨_, h.1, h.2, rfl⟩))) ?_
                      refine Steps.cons (fun a w hS hI hp => ok_on rfl (does_val (x_move rfl ((hp.get 3 (by rfl) rfl rfl))) rfl)) ?_
                      refine Steps.cons (fun a w hS hI hp => ok_on rfl (does_val (x_extract rfl ((hp.get 4 (by rfl) rfl rfl)) rfl) rfl)) ?_
                      refine Steps.cons (fun a w hS hI hp => ok_on rfl (does_val (x_extract rfl ((hp.get 4 (by rfl) rfl rfl)) rfl) rfl)) ?_
                      refine Steps.cons (fun a w hS hI hp => ok_on rfl (does_var (x_alloc rfl (by kernel_rfl)) (hI.2.2.2.2.2).size)) ?_
                      exact Steps.nil
                    clear hS
                    intro at70 w71 hS hI hp
                    have hBw71_w := hI.1
                    have hBw71_w3 := hI.2.1
                    have hBw71_w41 := hI.2.2.1
                    have hBw71_w51 := hI.2.2.2.1
                    have hBw71_w61 := hI.2.2.2.2.1
                    have hBw71_w67 := hI.2.2.2.2.2
                    have hv58 : sl _ 58 = .agg #[.int .i64 t69_1, .int .i64 t69_2, .int .i64 t69_3, .int .i64 t69_4, .int .u64 t69_5, .int .i64 t69_6, .int .i64 t69_7, .int .i64 t69_8, .int .i64 t69_9, .int .u64 t69_10, .int .i64 t69_11, .int .i64 t69_12, .int .i64 t69_13, .int .i64 t69_14, .int .i64 t69_15, .int .i64 t69_16, .int .i64 t69_17, .int .u64 t69_18, .int .i64 t69_19, .int .i64 t69_20, .int .i64 t69_21, .int .i64 t69_22, .int .i64 t69_23] := hp 5 (by decide)
                    have hv59 : sl _ 59 = .bool t69_24 := hp 6 (by decide)
                    obtain ⟨g72, hv16, hgeg72, hbxg72⟩ := (show IsB _ 34 _ (sl _ 16) _ from hp 7 (by decide))
                    have hne73 : g72 ≠ g4 := Nat.ne_of_gt (Nat.lt_of_lt_of_le (blk_lt ((hBw67_w3.block g4 (blk_lt hbxg4)).trans hbxg4)) hgeg72)
                    have hne74 : g72 ≠ g9 := Nat.ne_of_gt (Nat.lt_of_lt_of_le (blk_lt ((hBw67_w41.block g9 (blk_lt hbxw41)).trans hbxw41)) hgeg72)
                    have hne75 : g72 ≠ g26 := Nat.ne_of_gt (Nat.lt_of_lt_of_le (blk_lt ((hBw67_w41.block g26 (blk_lt hn43)).trans hn43)) hgeg72)
                    have hne76 : g72 ≠ g46 := Nat.ne_of_gt (Nat.lt_of_lt_of_le (blk_lt ((hBw67_w51.block g46 (blk_lt hbxw51)).trans hbxw51)) hgeg72)
                    have hne77 : g72 ≠ g56 := Nat.ne_of_gt (Nat.lt_of_lt_of_le (blk_lt ((hBw67_w61.block g56 (blk_lt hbxw61)).trans hbxw61)) hgeg72)
                    have hBw71_w71 := Below.refl w71.heap.size w71
                    have hS := hS.cons hv58
                    have hS := hS.cons hv59
                    have hS := hS.cons hv16
                    clear hp hI hv58 hv59 hv16
                    show wpList _ _ _ [_, _] _ _
                    refine list_step rfl (does_storeAll (g := g72) (cs := #[.int .i64 t69_1, .int .i64 t69_2, .int .i64 t69_3, .int .i64 t69_4, .int .u64 t69_5, .int .i64 t69_6, .int .i64 t69_7, .int .i64 t69_8, .int .i64 t69_9, .int .u64 t69_10, .int .i64 t69_11, .int .i64 t69_12, .int .i64 t69_13, .int .i64 t69_14, .int .i64 t69_15, .int .i64 t69_16, .int .i64 t69_17, .int .u64 t69_18, .int .i64 t69_19, .int .i64 t69_20, .int .i64 t69_21, .int .i64 t69_22, .int .i64 t69_23]) rfl (hS.get 0 rfl) (hS.get 2 rfl) ((hBw71_w71.block g72 (blk_lt hbxg72)).trans hbxg72) (by kernel_rfl) (by kernel_rfl) (by kernel_rfl)) ?_
                    rintro vw78 w78 ⟨rfl, hbxw78, hT⟩
                    have hBw78_w := hT.below hBw71_w (Nat.le_trans (hBw67_w).size hgeg72) (hBw71_w).size
                    have hBw78_w3 := hT.below hBw71_w3 (Nat.le_trans (hBw67_w3).size hgeg72) (hBw71_w3).size
                    have hBw78_w41 := hT.below hBw71_w41 (Nat.le_trans (hBw67_w41).size hgeg72) (hBw71_w41).size
                    have hBw78_w51 := hT.below hBw71_w51 (Nat.le_trans (hBw67_w51).size hgeg72) (hBw71_w51).size
                    have hBw78_w61 := hT.below hBw71_w61 (Nat.le_trans (hBw67_w61).size hgeg72) (hBw71_w61).size
                    have hBw78_w67 := hT.below hBw71_w67 hgeg72 (hBw71_w67).size
                    have hBw78_w78 := Below.refl w78.heap.size w78
                    clear hT
                    refine list_step rfl (R := fun v w' => Below _ _ w' ∧ (IsV (.bool t69_24)) v w') (does_val (x_assign rfl (hS.get 1 rfl)) rfl) ?_
                    rintro vw79 w79 ⟨hb, he⟩
                    have hBw79_w := below_step hBw78_w hb
                    have hBw79_w3 := below_step hBw78_w3 hb
                    have hBw79_w41 := below_step hBw78_w41 hb
                    have hBw79_w51 := below_step hBw78_w51 hb
                    have hBw79_w61 := below_step hBw78_w61 hb
                    have hBw79_w67 := below_step hBw78_w67 hb
                    have hBw79_w78 := below_step hBw78_w78 hb
                    have hBw79_w79 := Below.refl w79.heap.size w79
                    obtain rfl : vw79 = .bool t69_24 := he
                    refine hS.next (v := .bool t69_24) (d := 17) rfl (by decide) (by rfl) ?_
                    clear hS
                    intro at80 hS
                    refine wpList_nil ?_
                    refine hK68 _ _ ?_
                    clear hK68 K68
                    refine wp_seq_k (fun K81 hK81 => ?_)
                    refine reg_seq_tail 2 (N := 130) (bs := [(17, .bool t69_24), (16, .pointer (some ⟨g72, 0, none⟩)), (59, .bool t69_24), (58, .agg #[.int .i64 t69_1, .int .i64 t69_2, .int .i64 t69_3, .int .i64 t69_4, .int .u64 t69_5, .int .i64 t69_6, .int .i64 t69_7, .int .i64 t69_8, .int .i64 t69_9, .int .u64 t69_10, .int .i64 t69_11, .int .i64 t69_12, .int .i64 t69_13, .int .i64 t69_14, .int .i64 t69_15, .int .i64 t69_16, .int .i64 t69_17, .int .u64 t69_18, .int .i64 t69_19, .int .i64 t69_20, .int .i64 t69_21, .int .i64 t69_22, .int .i64 t69_23]), (15, .int .i64 t65), (14, .bool t53_24), (13, .pointer (some ⟨g56, 0, none⟩)), (12, .pointer (some ⟨g46, 0, none⟩)), (10, .int .i64 t16), (31, .bool false), (9, .pointer (some ⟨g9, 0, none⟩)), (8, .bool false), (2, .int .i64 a2)]) (I := fun x => Below w.heap.size w x ∧ Below w3.heap.size w3 x ∧ Below w41.heap.size w41 x ∧ Below w51.heap.size w51 x ∧ Below w61.heap.size w61 x ∧ Below w67.heap.size w67 x ∧ Below w78.heap.size w78 x ∧ Below w79.heap.size w79 x) (ps := [IsV (.pointer (some ⟨g9, 0, none⟩)), IsV (.agg #[.int .i64 t53_1, .int .i64 t53_2, .int .i64 t53_3, .int .i64 t53_4, .int .u64 t53_5, .int .i64 t53_6, .int .i64 t53_7, .int .i64 t53_8, .int .i64 t53_9, .int .u64 t53_10, .int .i64 t53_11, .int .i64 t53_12, .int .i64 t53_13, .int .i64 t53_14, .int .i64 t53_15, .int .i64 t53_16, .int .i64 t53_17, .int .u64 t53_18, .int .i64 t53_19, .int .i64 t53_20, .int .i64 t53_21, .int .i64 t53_22, .int .i64 t53_23])]) (by kernel_rfl) ?_ ?_ rfl hS ⟨hBw79_w, hBw79_w3, hBw79_w41, hBw79_w51, hBw79_w61, hBw79_w67, hBw79_w78, hBw79_w79⟩ ?_ ?_
                    · exact fun x y hI hb => ⟨below_step hI.1 hb, below_step hI.2.1 hb, below_step hI.2.2.1 hb, below_step hI.2.2.2.1 hb, below_step hI.2.2.2.2.1 hb, below_step hI.2.2.2.2.2.1 hb, below_step hI.2.2.2.2.2.2.1 hb, below_step hI.2.2.2.2.2.2.2 hb⟩
                    · exact AllStay.cons (Stays.v _) (AllStay.cons (Stays.v _) (AllStay.nil))
                    · refine Steps.cons (fun a w hS hI hp => ok_on rfl (does_val (x_move rfl (hS.get 10 rfl)) rfl)) ?_
                      refine Steps.cons (fun a w hS hI hp => ok_on rfl (does_loadrow rfl (hS.get 6 rfl) (((hI.2.2.2.2.1).block g56 (blk_lt hbxw61)).trans hbxw61) Try.underlying34 rfl (by kernel_rfl) rfl)) ?_
                      exact Steps.nil
                    clear hS
                    intro at82 w83 hS hI hp
                    have hBw83_w := hI.1
                    have hBw83_w3 := hI.2.1
                    have hBw83_w41 := hI.2.2.1
                    have hBw83_w51 := hI.2.2.2.1
                    have hBw83_w61 := hI.2.2.2.2.1
                    have hBw83_w67 := hI.2.2.2.2.2.1
                    have hBw83_w78 := hI.2.2.2.2.2.2.1
                    have hBw83_w79 := hI.2.2.2.2.2.2.2
                    replace hS := (((((((((((hS.nil).cons (hS.get 12 rfl)).cons (hS.get 11 rfl)).cons (hS.get 10 rfl)).cons (hS.get 9 rfl)).cons (hS.get 8 rfl)).cons (hS.get 7 rfl)).cons (hS.get 6 rfl)).cons (hS.get 5 rfl)).cons (hS.get 4 rfl)).cons (hS.get 1 rfl)).cons (hS.get 0 rfl)
                    have hv61 : sl _ 61 = .pointer (some ⟨g9, 0, none⟩) := hp 0 (by decide)
                    have hv62 : sl _ 62 = .agg #[.int .i64 t53_1, .int .i64 t53_2, .int .i64 t53_3, .int .i64 t53_4, .int .u64 t53_5, .int .i64 t53_6, .int .i64 t53_7, .int .i64 t53_8, .int .i64 t53_9, .int .u64 t53_10, .int .i64 t53_11, .int .i64 t53_12, .int .i64 t53_13, .int .i64 t53_14, .int .i64 t53_15, .int .i64 t53_16, .int .i64 t53_17, .int .u64 t53_18, .int .i64 t53_19, .int .i64 t53_20, .int .i64 t53_21, .int .i64 t53_22, .int .i64 t53_23] := hp 1 (by decide)
                    have hBw83_w83 := Below.refl w83.heap.size w83
                    have hS := hS.cons hv61
                    have hS := hS.cons hv62
                    clear hp hI hv61 hv62
                    show wpList _ _ _ [_, _, _, _, _, _] _ _
                    refine list_step rfl (R := fun v w' => v = .tuple #[.int .i64 t85_1, .bool t85_2] ∧ w'.heap[g9]? = some (.cells #[.int .u64 t85_3, .int .i64 t85_4, .int .i64 t85_5, .int .i64 t85_6, .int .i64 t85_7, .bool t85_8, .bool t85_9] 54 (0, 0)) ∧ Tch g9 _ w') (does_call (by kernel_rfl) (ar2 (hS.get 1 rfl) (hS.get 0 rfl)) ((delay_Exchange_Response.calls g9 t42_24 t42_25 t42_26 t42_27 t42_28 t42_29 t42_30 t53_1 t53_2 t53_3 t53_4 t53_5 t53_6 t53_7 t53_8 t53_9 t53_10 t53_11 t53_12 t53_13 t53_14 t53_15 t53_16 t53_17 t53_18 t53_19 t53_20 t53_21 t53_22 t53_23 t85_1 t85_2 t85_3 t85_4 t85_5 t85_6 t85_7 t85_8 t85_9 _ ((hBw83_w41.block g9 (blk_lt hbxw41)).trans hbxw41) At85).mono fun _ _ h => ⟨_, h.1, rfl, h.2⟩)) ?_
                    rintro vw84 w84 ⟨rfl, hbxw84, hT⟩
                    have hn86 := hT.blk ((hBw83_w41.block g26 (blk_lt hn43)).trans hn43) hne28
                    have hn87 := hT.blk ((hBw83_w51.block g46 (blk_lt hbxw51)).trans hbxw51) hne48
                    have hn88 := hT.blk ((hBw83_w61.block g56 (blk_lt hbxw61)).trans hbxw61) hne58
                    have hn89 := hT.blk ((hBw83_w78.block g72 (blk_lt hbxw78)).trans hbxw78) hne74
                    have hBw84_w := hT.below hBw83_w (Nat.le_trans (hBw3_w).size hgeg9) (hBw83_w).size
                    have hBw84_w3 := hT.below hBw83_w3 hgeg9 (hBw83_w3).size
                    have hBw84_w84 := Below.refl w84.heap.size w84
                    clear hT
                    refine hS.next (v := .tuple #[.int .i64 t85_1, .bool t85_2]) (d := 63) rfl (by decide) (by rfl) ?_
                    clear hS
                    intro at90 hS
                    refine list_step rfl (R := fun v w' => Below _ _ w' ∧ (IsV (.tuple #[.int .i64 t85_1, .bool t85_2])) v w') (does_val (x_move rfl (hS.get 0 rfl)) rfl) ?_
                    rintro vw91 w91 ⟨hb, he⟩
                    have hBw91_w := below_step hBw84_w hb
                    have hBw91_w3 := below_step hBw84_w3 hb
                    have hBw91_w84 := below_step hBw84_w84 hb
                    have hBw91_w91 := Below.refl w91.heap.size w91
                    obtain rfl : vw91 = .tuple #[.int .i64 t85_1, .bool t85_2] := he
                    refine hS.next (v := .tuple #[.int .i64 t85_1, .bool t85_2]) (d := 60) rfl (by decide) (by rfl) ?_
                    clear hS
                    intro at92 hS
                    refine list_step rfl (R := fun v w' => Below _ _ w' ∧ (IsV (.int .i64 t85_1)) v w') (does_val (x_extract rfl (hS.get 0 rfl) rfl) rfl) ?_
                    rintro vw93 w93 ⟨hb, he⟩
                    have hBw93_w := below_step hBw91_w hb
                    have hBw93_w3 := below_step hBw91_w3 hb
                    have hBw93_w84 := below_step hBw91_w84 hb
                    have hBw93_w91 := below_step hBw91_w91 hb
                    have hBw93_w93 := Below.refl w93.heap.size w93
                    obtain rfl : vw93 = .int .i64 t85_1 := he
                    refine hS.next (v := .int .i64 t85_1) (d := 64) rfl (by decide) (by rfl) ?_
                    clear hS
                    intro at94 hS
                    refine list_step rfl (R := fun v w' => Below _ _ w' ∧ (IsV (.bool t85_2)) v w') (does_val (x_extract rfl (hS.get 1 rfl) rfl) rfl) ?_
                    rintro vw95 w95 ⟨hb, he⟩
                    have hBw95_w := below_step hBw93_w hb
                    have hBw95_w3 := below_step hBw93_w3 hb
                    have hBw95_w84 := below_step hBw93_w84 hb
                    have hBw95_w93 := below_step hBw93_w93 hb
                    have hBw95_w95 := Below.refl w95.heap.size w95
                    obtain rfl : vw95 = .bool t85_2 := he
                    refine hS.next (v := .bool t85_2) (d := 65) rfl (by decide) (by rfl) ?_
                    clear hS
                    intro at96 hS
                    refine list_step rfl (R := fun v w' => Below _ _ w' ∧ (IsV (.int .i64 t85_1)) v w') (does_val (x_assign rfl (hS.get 1 rfl)) rfl) ?_
                    rintro vw97 w97 ⟨hb, he⟩
                    have hBw97_w := below_step hBw95_w hb
                    have hBw97_w3 := below_step hBw95_w3 hb
                    have hBw97_w84 := below_step hBw95_w84 hb
                    have hBw97_w95 := below_step hBw95_w95 hb
                    have hBw97_w97 := Below.refl w97.heap.size w97
                    obtain rfl : vw97 = .int .i64 t85_1 := he
                    refine hS.next (v := .int .i64 t85_1) (d := 18) rfl (by decide) (by rfl) ?_
                    clear hS
                    intro at98 hS
                    refine list_step rfl (R := fun v w' => Below _ _ w' ∧ (IsV (.bool t85_2)) v w') (does_val (x_assign rfl (hS.get 1 rfl)) rfl) ?_
                    rintro vw99 w99 ⟨hb, he⟩
                    have hBw99_w := below_step hBw97_w hb
                    have hBw99_w3 := below_step hBw97_w3 hb
                    have hBw99_w84 := below_step hBw97_w84 hb
                    have hBw99_w97 := below_step hBw97_w97 hb
                    have hBw99_w99 := Below.refl w99.heap.size w99
                    obtain rfl : vw99 = .bool t85_2 := he
                    refine hS.next (v := .bool t85_2) (d := 19) rfl (by decide) (by rfl) ?_
                    clear hS
                    intro at100 hS
                    refine wpList_nil ?_
                    refine hK81 _ _ ?_
                    clear hK81 K81
                    refine wp_seq_k (fun K101 hK101 => ?_)
                    refine reg_seq_tail 2 (N := 130) (bs := [(19, .bool t85_2), (18, .int .i64 t85_1), (65, .bool t85_2), (64, .int .i64 t85_1), (60, .tuple #[.int .i64 t85_1, .bool t85_2]), (63, .tuple #[.int .i64 t85_1, .bool t85_2]), (62, .agg #[.int .i64 t53_1, .int .i64 t53_2, .int .i64 t53_3, .int .i64 t53_4, .int .u64 t53_5, .int .i64 t53_6, .int .i64 t53_7, .int .i64 t53_8, .int .i64 t53_9, .int .u64 t53_10, .int .i64 t53_11, .int .i64 t53_12, .int .i64 t53_13, .int .i64 t53_14, .int .i64 t53_15, .int .i64 t53_16, .int .i64 t53_17, .int .u64 t53_18, .int .i64 t53_19, .int .i64 t53_20, .int .i64 t53_21, .int .i64 t53_22, .int .i64 t53_23]), (61, .pointer (some ⟨g9, 0, none⟩)), (17, .bool t69_24), (16, .pointer (some ⟨g72, 0, none⟩)), (15, .int .i64 t65), (14, .bool t53_24), (13, .pointer (some ⟨g56, 0, none⟩)), (12, .pointer (some ⟨g46, 0, none⟩)), (10, .int .i64 t16), (31, .bool false), (9, .pointer (some ⟨g9, 0, none⟩)), (8, .bool false), (2, .int .i64 a2)]) (I := fun x => Below w.heap.size w x ∧ Below w3.heap.size w3 x ∧ Below w84.heap.size w84 x ∧ Below w99.heap.size w99 x) (ps := [IsV (.pointer (some ⟨g9, 0, none⟩)), IsV (.agg #[.int .i64 t69_1, .int .i64 t69_2, .int .i64 t69_3, .int .i64 t69_4, .int .u64 t69_5, .int .i64 t69_6, .int .i64 t69_7, .int .i64 t69_8, .int .i64 t69_9, .int .u64 t69_10, .int .i64 t69_11, .int .i64 t69_12, .int .i64 t69_13, .int .i64 t69_14, .int .i64 t69_15, .int .i64 t69_16, .int .i64 t69_17, .int .u64 t69_18, .int .i64 t69_19, .int .i64 t69_20, .int .i64 t69_21, .int .i64 t69_22, .int .i64 t69_23])]) (by kernel_rfl) ?_ ?_ rfl hS ⟨hBw99_w, hBw99_w3, hBw99_w84, hBw99_w99⟩ ?_ ?_
                    · exact fun x y hI hb => ⟨below_step hI.1 hb, below_step hI.2.1 hb, below_step hI.2.2.1 hb, below_step hI.2.2.2 hb⟩
                    · exact AllStay.cons (Stays.v _) (AllStay.cons (Stays.v _) (AllStay.nil))
                    · refine Steps.cons (fun a w hS hI hp => ok_on rfl (does_val (x_move rfl (hS.get 16 rfl)) rfl)) ?_
                      refine Steps.cons (fun a w hS hI hp => ok_on rfl (does_loadrow rfl (hS.get 9 rfl) (((hI.2.2.1).block g72 (blk_lt hn89)).trans hn89) Try.underlying34 rfl (by kernel_rfl) rfl)) ?_
                      exact Steps.nil
                    clear hS
                    intro at102 w103 hS hI hp
                    have hBw103_w := hI.1
                    have hBw103_w3 := hI.2.1
                    have hBw103_w84 := hI.2.2.1
                    have hBw103_w99 := hI.2.2.2
                    replace hS := ((((((((((((hS.nil).cons (hS.get 18 rfl)).cons (hS.get 17 rfl)).cons (hS.get 16 rfl)).cons (hS.get 15 rfl)).cons (hS.get 14 rfl)).cons (hS.get 13 rfl)).cons (hS.get 12 rfl)).cons (hS.get 11 rfl)).cons (hS.get 10 rfl)).cons (hS.get 9 rfl)).cons (hS.get 8 rfl)).cons (hS.get 0 rfl)
                    have hv67 : sl _ 67 = .pointer (some ⟨g9, 0, none⟩) := hp 0 (by decide)
                    have hv68 : sl _ 68 = .agg #[.int .i64 t69_1, .int .i64 t69_2, .int .i64 t69_3, .int .i64 t69_4, .int .u64 t69_5, .int .i64 t69_6, .int .i64 t69_7, .int .i64 t69_8, .int .i64 t69_9, .int .u64 t69_10, .int .i64 t69_11, .int .i64 t69_12, .int .i64 t69_13, .int .i64 t69_14, .int .i64 t69_15, .int .i64 t69_16, .int .i64 t69_17, .int .u64 t69_18, .int .i64 t69_19, .int .i64 t69_20, .int .i64 t69_21, .int .i64 t69_22, .int .i64 t69_23] := hp 1 (by decide)
                    have hBw103_w103 := Below.refl w103.heap.size w103
                    have hS := hS.cons hv67
                    have hS := hS.cons hv68
                    clear hp hI hv67 hv68
                    show wpList _ _ _ [_, _, _, _, _, _] _ _
                    refine list_step rfl (R := fun v w' => v = .tuple #[.int .i64 t105_1, .bool t105_2] ∧ w'.heap[g9]? = some (.cells #[.int .u64 t105_3, .int .i64 t105_4, .int .i64 t105_5, .int .i64 t105_6, .int .i64 t105_7, .bool t105_8, .bool t105_9] 54 (0, 0)) ∧ Tch g9 _ w') (does_call (by kernel_rfl) (ar2 (hS.get 1 rfl) (hS.get 0 rfl)) ((delay_Exchange_Response.calls g9 t85_3 t85_4 t85_5 t85_6 t85_7 t85_8 t85_9 t69_1 t69_2 t69_3 t69_4 t69_5 t69_6 t69_7 t69_8 t69_9 t69_10 t69_11 t69_12 t69_13 t69_14 t69_15 t69_16 t69_17 t69_18 t69_19 t69_20 t69_21 t69_22 t69_23 t105_1 t105_2 t105_3 t105_4 t105_5 t105_6 t105_7 t105_8 t105_9 _ ((hBw103_w84.block g9 (blk_lt hbxw84)).trans hbxw84) At105).mono fun _ _ h => ⟨_, h.1, rfl, h.2⟩)) ?_
                    rintro vw104 w104 ⟨rfl, hbxw104, hT⟩
                    have hn106 := hT.blk ((hBw103_w84.block g26 (blk_lt hn86)).trans hn86) hne28
                    have hn107 := hT.blk ((hBw103_w84.block g46 (blk_lt hn87)).trans hn87) hne48
                    have hn108 := hT.blk ((hBw103_w84.block g56 (blk_lt hn88)).trans hn88) hne58
                    have hn109 := hT.blk ((hBw103_w84.block g72 (blk_lt hn89)).trans hn89) hne74
                    have hBw104_w := hT.below hBw103_w (Nat.le_trans (hBw3_w).size hgeg9) (hBw103_w).size
                    have hBw104_w3 := hT.below hBw103_w3 hgeg9 (hBw103_w3).size
                    have hBw104_w104 := Below.refl w104.heap.size w104
                    clear hT
                    refine hS.next (v := .tuple #[.int .i64 t105_1, .bool t105_2]) (d := 69) rfl (by decide) (by rfl) ?_
                    clear hS
                    intro at110 hS
                    refine list_step rfl (R := fun v w' => Below _ _ w' ∧ (IsV (.tuple #[.int .i64 t105_1, .bool t105_2])) v w') (does_val (x_move rfl (hS.get 0 rfl)) rfl) ?_
                    rintro vw111 w111 ⟨hb, he⟩
                    have hBw111_w := below_step hBw104_w hb
                    have hBw111_w3 := below_step hBw104_w3 hb
                    have hBw111_w104 := below_step hBw104_w104 hb
                    have hBw111_w111 := Below.refl w111.heap.size w111
                    obtain rfl : vw111 = .tuple #[.int .i64 t105_1, .bool t105_2] := he
                    refine hS.next (v := .tuple #[.int .i64 t105_1, .bool t105_2]) (d := 66) rfl (by decide) (by rfl) ?_
                    clear hS
                    intro at112 hS
                    refine list_step rfl (R := fun v w' => Below _ _ w' ∧ (IsV (.int .i64 t105_1)) v w') (does_val (x_extract rfl (hS.get 0 rfl) rfl) rfl) ?_
                    rintro vw113 w113 ⟨hb, he⟩
                    have hBw113_w := below_step hBw111_w hb
                    have hBw113_w3 := below_step hBw111_w3 hb
                    have hBw113_w104 := below_step hBw111_w104 hb
                    have hBw113_w111 := below_step hBw111_w111 hb
                    have hBw113_w113 := Below.refl w113.heap.size w113
                    obtain rfl : vw113 = .int .i64 t105_1 := he
                    refine hS.next (v := .int .i64 t105_1) (d := 70) rfl (by decide) (by rfl) ?_
                    clear hS
                    intro at114 hS
                    refine list_step rfl (R := fun v w' => Below _ _ w' ∧ (IsV (.bool t105_2)) v w') (does_val (x_extract rfl (hS.get 1 rfl) rfl) rfl) ?_
                    rintro vw115 w115 ⟨hb, he⟩
                    have hBw115_w := below_step hBw113_w hb
                    have hBw115_w3 := below_step hBw113_w3 hb
                    have hBw115_w104 := below_step hBw113_w104 hb
                    have hBw115_w113 := below_step hBw113_w113 hb
                    have hBw115_w115 := Below.refl w115.heap.size w115
                    obtain rfl : vw115 = .bool t105_2 := he
                    refine hS.next (v := .bool t105_2) (d := 71) rfl (by decide) (by rfl) ?_
                    clear hS
                    intro at116 hS
                    refine list_step rfl (R := fun v w' => Below _ _ w' ∧ (IsV (.int .i64 t105_1)) v w') (does_val (x_assign rfl (hS.get 1 rfl)) rfl) ?_
                    rintro vw117 w117 ⟨hb, he⟩
                    have hBw117_w := below_step hBw115_w hb
                    have hBw117_w3 := below_step hBw115_w3 hb
                    have hBw117_w104 := below_step hBw115_w104 hb
                    have hBw117_w115 := below_step hBw115_w115 hb
                    have hBw117_w117 := Below.refl w117.heap.size w117
                    obtain rfl : vw117 = .int .i64 t105_1 := he
                    refine hS.next (v := .int .i64 t105_1) (d := 20) rfl (by decide) (by rfl) ?_
                    clear hS
                    intro at118 hS
                    refine list_step rfl (R := fun v w' => Below _ _ w' ∧ (IsV (.bool t105_2)) v w') (does_val (x_assign rfl (hS.get 1 rfl)) rfl) ?_
                    rintro vw119 w119 ⟨hb, he⟩
                    have hBw119_w := below_step hBw117_w hb
                    have hBw119_w3 := below_step hBw117_w3 hb
                    have hBw119_w104 := below_step hBw117_w104 hb
                    have hBw119_w117 := below_step hBw117_w117 hb
                    have hBw119_w119 := Below.refl w119.heap.size w119
                    obtain rfl : vw119 = .bool t105_2 := he
                    refine hS.next (v := .bool t105_2) (d := 21) rfl (by decide) (by rfl) ?_
                    clear hS
                    intro at120 hS
                    refine wpList_nil ?_
                    refine hK101 _ _ ?_
                    clear hK101 K101
                    refine wp_seq_k (fun K121 hK121 => ?_)
                    refine reg_seq (N := 130) (bs := [(21, .bool t105_2), (20, .int .i64 t105_1), (71, .bool t105_2), (70, .int .i64 t105_1), (66, .tuple #[.int .i64 t105_1, .bool t105_2]), (69, .tuple #[.int .i64 t105_1, .bool t105_2]), (68, .agg #[.int .i64 t69_1, .int .i64 t69_2, .int .i64 t69_3, .int .i64 t69_4, .int .u64 t69_5, .int .i64 t69_6, .int .i64 t69_7, .int .i64 t69_8, .int .i64 t69_9, .int .u64 t69_10, .int .i64 t69_11, .int .i64 t69_12, .int .i64 t69_13, .int .i64 t69_14, .int .i64 t69_15, .int .i64 t69_16, .int .i64 t69_17, .int .u64 t69_18, .int .i64 t69_19, .int .i64 t69_20, .int .i64 t69_21, .int .i64 t69_22, .int .i64 t69_23]), (67, .pointer (some ⟨g9, 0, none⟩)), (19, .bool t85_2), (17, .bool t69_24), (16, .pointer (some ⟨g72, 0, none⟩)), (15, .int .i64 t65), (14, .bool t53_24), (13, .pointer (some ⟨g56, 0, none⟩)), (12, .pointer (some ⟨g46, 0, none⟩)), (10, .int .i64 t16), (31, .bool false), (9, .pointer (some ⟨g9, 0, none⟩)), (8, .bool false), (2, .int .i64 a2)]) (I := fun x => Below w.heap.size w x ∧ Below w3.heap.size w3 x ∧ Below w104.heap.size w104 x ∧ Below w119.heap.size w119 x) (ps := [IsV (.int .i64 a2), IsV (.int .i64 t122), IsV (.int .i64 t122)]) (by kernel_rfl) ?_ ?_ rfl hS ⟨hBw119_w, hBw119_w3, hBw119_w104, hBw119_w119⟩ ?_ ?_
                    · exact fun x y hI hb => ⟨below_step hI.1 hb, below_step hI.2.1 hb, below_step hI.2.2.1 hb, below_step hI.2.2.2 hb⟩
                    · exact AllStay.cons (Stays.v _) (AllStay.cons (Stays.v _) (AllStay.cons (Stays.v _) (AllStay.nil)))
                    · refine Steps.cons (fun a w hS hI hp => ok_on rfl (does_val (x_move rfl (hS.get 19 rfl)) rfl)) ?_
                      refine Steps.cons (fun a w hS hI hp => ok_on rfl (does_call (by kernel_rfl) (ar2 ((hp.get 0 (by rfl) rfl rfl)) (rfl)) ((carillonlaw00_Place.calls a2 1099511627776 t122 _  At122).mono fun _ _ h => ⟨_, h.1, h.2.below, rfl⟩))) ?_
                      refine Steps.cons (fun a w hS hI hp => ok_on rfl (does_val (x_assign rfl ((hp.get 1 (by rfl) rfl rfl))) rfl)) ?_
                      exact Steps.nil
                    clear hS
                    intro at123 w124 hS hI hp
                    have hBw124_w := hI.1
                    have hBw124_w3 := hI.2.1
                    have hBw124_w104 := hI.2.2.1
                    have hBw124_w119 := hI.2.2.2
                    replace hS := ((((((((((((hS.nil).cons (hS.get 18 rfl)).cons (hS.get 17 rfl)).cons (hS.get 16 rfl)).cons (hS.get 15 rfl)).cons (hS.get 14 rfl)).cons (hS.get 13 rfl)).cons (hS.get 12 rfl)).cons (hS.get 11 rfl)).cons (hS.get 10 rfl)).cons (hS.get 9 rfl)).cons (hS.get 8 rfl)).cons (hS.get 0 rfl)
                    have hv22 : sl _ 22 = .int .i64 t122 := hp 2 (by decide)
                    have hBw124_w124 := Below.refl w124.heap.size w124
                    have hS := hS.cons hv22
                    clear hp hI hv22
                    refine hK121 _ _ ?_
                    clear hK121 K121
                    refine wp_seq_k (fun K125 hK125 => ?_)
                    refine reg_seq_tail 4 (N := 130) (bs := [(22, .int .i64 t122), (21, .bool t105_2), (19, .bool t85_2), (17, .bool t69_24), (16, .pointer (some ⟨g72, 0, none⟩)), (15, .int .i64 t65), (14, .bool t53_24), (13, .pointer (some ⟨g56, 0, none⟩)), (12, .pointer (some ⟨g46, 0, none⟩)), (10, .int .i64 t16), (31, .bool false), (9, .pointer (some ⟨g9, 0, none⟩)), (8, .bool false)]) (I := fun x => Below w.heap.size w x ∧ Below w3.heap.size w3 x ∧ Below w104.heap.size w104 x ∧ Below w124.heap.size w124 x) (ps := [IsV (.pointer (some ⟨g9, 0, none⟩)), IsV (.pointer (some ⟨g46, 6, none⟩)), IsV (.int .i64 t42_7), IsV (.int .i64 t122)]) (by kernel_rfl) ?_ ?_ rfl hS ⟨hBw124_w, hBw124_w3, hBw124_w104, hBw124_w124⟩ ?_ ?_
                    · exact fun x y hI hb => ⟨below_step hI.1 hb, below_step hI.2.1 hb, below_step hI.2.2.1 hb, below_step hI.2.2.2 hb⟩
                    · exact AllStay.cons (Stays.v _) (AllStay.cons (Stays.v _) (AllStay.cons (Stays.v _) (AllStay.cons (Stays.v _) (AllStay.nil))))
                    · refine Steps.cons (fun a w hS hI hp => ok_on rfl (does_val (x_move rfl (hS.get 11 rfl)) rfl)) ?_
                      refine Steps.cons (fun a w hS hI hp => ok_on rfl (does_val (x_field rfl (hS.get 8 rfl) Try.underlying34 rfl (by kernel_rfl)) rfl)) ?_
                      refine Steps.cons (fun a w hS hI hp => ok_on rfl (does_val (x_load1 (d := .int .i64) rfl ((hp.get 1 (by rfl) rfl rfl)) (by kernel_rfl) rfl ((blk_cell (((hI.2.2.1).block g46 (blk_lt hn107)).trans hn107) 6).trans rfl)) rfl)) ?_
                      refine Steps.cons (fun a w hS hI hp => ok_on rfl (does_val (x_move rfl (hS.get 0 rfl)) rfl)) ?_
                      exact Steps.nil
                    clear hS
                    intro at126 w127 hS hI hp
                    have hBw127_w := hI.1
                    have hBw127_w3 := hI.2.1
                    have hBw127_w104 := hI.2.2.1
                    have hBw127_w124 := hI.2.2.2
                    have hv74 : sl _ 74 = .pointer (some ⟨g9, 0, none⟩) := hp 0 (by decide)
                    have hv76 : sl _ 76 = .int .i64 t42_7 := hp 2 (by decide)
                    have hv77 : sl _ 77 = .int .i64 t122 := hp 3 (by decide)
                    have hBw127_w127 := Below.refl w127.heap.size w127
                    have hS := hS.cons hv74
                    have hS := hS.cons hv76
                    have hS := hS.cons hv77
                    clear hp hI hv74 hv76 hv77
                    show wpList _ _ _ [_, _] _ _
                    refine list_step rfl (R := fun v w' => v = .bool t129_1 ∧ w'.heap[g9]? = some (.cells #[.int .u64 t129_2, .int .i64 t129_3, .int .i64 t129_4, .int .i64 t129_5, .int .i64 t129_6, .bool t129_7, .bool t129_8] 54 (0, 0)) ∧ Tch g9 _ w') (does_call (by kernel_rfl) (ar3 (hS.get 2 rfl) (hS.get 1 rfl) (hS.get 0 rfl)) ((delay_Exchange_Sent.calls g9 t105_3 t105_4 t105_5 t105_6 t105_7 t105_8 t105_9 t42_7 t122 t129_1 t129_2 t129_3 t129_4 t129_5 t129_6 t129_7 t129_8 _ ((hBw127_w104.block g9 (blk_lt hbxw104)).trans hbxw104) At129).mono fun _ _ h => ⟨_, h.1, rfl, h.2⟩)) ?_
                    rintro vw128 w128 ⟨rfl, hbxw128, hT⟩
                    have hn130 := hT.blk ((hBw127_w104.block g26 (blk_lt hn106)).trans hn106) hne28
                    have hn131 := hT.blk ((hBw127_w104.block g46 (blk_lt hn107)).trans hn107) hne48
                    have hn132 := hT.blk ((hBw127_w104.block g56 (blk_lt hn108)).trans hn108) hne58
                    have hn133 := hT.blk ((hBw127_w104.block g72 (blk_lt hn109)).trans hn109) hne74
                    have hBw128_w := hT.below hBw127_w (Nat.le_trans (hBw3_w).size hgeg9) (hBw127_w).size
                    have hBw128_w3 := hT.below hBw127_w3 hgeg9 (hBw127_w3).size
                    have hBw128_w128 := Below.refl w128.heap.size w128
                    clear hT
                    refine hS.next (v := .bool t129_1) (d := 78) rfl (by decide) (by rfl) ?_
                    clear hS
                    intro at134 hS
                    refine list_step rfl (R := fun v w' => Below _ _ w' ∧ (IsV (.bool t129_1)) v w') (does_val (x_assign rfl (hS.get 0 rfl)) rfl) ?_
                    rintro vw135 w135 ⟨hb, he⟩
                    have hBw135_w := below_step hBw128_w hb
                    have hBw135_w3 := below_step hBw128_w3 hb
                    have hBw135_w128 := below_step hBw128_w128 hb
                    have hBw135_w135 := Below.refl w135.heap.size w135
                    obtain rfl : vw135 = .bool t129_1 := he
                    refine hS.next (v := .bool t129_1) (d := 23) rfl (by decide) (by rfl) ?_
                    clear hS
                    intro at136 hS
                    refine wpList_nil ?_
                    refine hK125 _ _ ?_
                    clear hK125 K125
                    refine wp_seq_k (fun K137 hK137 => ?_)
                    refine reg_seq_tail 2 (N := 130) (bs := [(23, .bool t129_1), (78, .bool t129_1), (77, .int .i64 t122), (76, .int .i64 t42_7), (74, .pointer (some ⟨g9, 0, none⟩)), (22, .int .i64 t122), (21, .bool t105_2), (19, .bool t85_2), (17, .bool t69_24), (16, .pointer (some ⟨g72, 0, none⟩)), (15, .int .i64 t65), (14, .bool t53_24), (13, .pointer (some ⟨g56, 0, none⟩)), (12, .pointer (some ⟨g46, 0, none⟩)), (10, .int .i64 t16), (31, .bool false), (9, .pointer (some ⟨g9, 0, none⟩)), (8, .bool false)]) (I := fun x => Below w.heap.size w x ∧ Below w3.heap.size w3 x ∧ Below w128.heap.size w128 x ∧ Below w135.heap.size w135 x) (ps := [IsV (.pointer (some ⟨g9, 0, none⟩)), IsV (.agg #[.int .i64 t53_1, .int .i64 t53_2, .int .i64 t53_3, .int .i64 t53_4, .int .u64 t53_5, .int .i64 t53_6, .int .i64 t53_7, .int .i64 t53_8, .int .i64 t53_9, .int .u64 t53_10, .int .i64 t53_11, .int .i64 t53_12, .int .i64 t53_13, .int .i64 t53_14, .int .i64 t53_15, .int .i64 t53_16, .int .i64 t53_17, .int .u64 t53_18, .int .i64 t53_19, .int .i64 t53_20, .int .i64 t53_21, .int .i64 t53_22, .int .i64 t53_23])]) (by kernel_rfl) ?_ ?_ rfl hS ⟨hBw135_w, hBw135_w3, hBw135_w128, hBw135_w135⟩ ?_ ?_
                    · exact fun x y hI hb => ⟨below_step hI.1 hb, below_step hI.2.1 hb, below_step hI.2.2.1 hb, below_step hI.2.2.2 hb⟩
                    · exact AllStay.cons (Stays.v _) (AllStay.cons (Stays.v _) (AllStay.nil))
                    · refine Steps.cons (fun a w hS hI hp => ok_on rfl (does_val (x_move rfl (hS.get 16 rfl)) rfl)) ?_
                      refine Steps.cons (fun a w hS hI hp => ok_on rfl (does_loadrow rfl (hS.get 12 rfl) (((hI.2.2.1).block g56 (blk_lt hn132)).trans hn132) Try.underlying34 rfl (by kernel_rfl) rfl)) ?_
                      exact Steps.nil
                    clear hS
                    intro at138 w139 hS hI hp
                    have hBw139_w := hI.1
                    have hBw139_w3 := hI.2.1
                    have hBw139_w128 := hI.2.2.1
                    have hBw139_w135 := hI.2.2.2
                    replace hS := (((((((((((((hS.nil).cons (hS.get 17 rfl)).cons (hS.get 16 rfl)).cons (hS.get 15 rfl)).cons (hS.get 14 rfl)).cons (hS.get 13 rfl)).cons (hS.get 11 rfl)).cons (hS.get 10 rfl)).cons (hS.get 9 rfl)).cons (hS.get 8 rfl)).cons (hS.get 7 rfl)).cons (hS.get 6 rfl)).cons (hS.get 5 rfl)).cons (hS.get 0 rfl)
                    have hv80 : sl _ 80 = .pointer (some ⟨g9, 0, none⟩) := hp 0 (by decide)
                    have hv81 : sl _ 81 = .agg #[.int .i64 t53_1, .int .i64 t53_2, .int .i64 t53_3, .int .i64 t53_4, .int .u64 t53_5, .int .i64 t53_6, .int .i64 t53_7, .int .i64 t53_8, .int .i64 t53_9, .int .u64 t53_10, .int .i64 t53_11, .int .i64 t53_12, .int .i64 t53_13, .int .i64 t53_14, .int .i64 t53_15, .int .i64 t53_16, .int .i64 t53_17, .int .u64 t53_18, .int .i64 t53_19, .int .i64 t53_20, .int .i64 t53_21, .int .i64 t53_22, .int .i64 t53_23] := hp 1 (by decide)
                    have hBw139_w139 := Below.refl w139.heap.size w139
                    have hS := hS.cons hv80
                    have hS := hS.cons hv81
                    clear hp hI hv80 hv81
                    show wpList _ _ _ [_, _, _, _, _, _] _ _
                    refine list_step rfl (R := fun v w' => v = .tuple #[.int .i64 t141_1, .bool t141_2] ∧ w'.heap[g9]? = some (.cells #[.int .u64 t141_3, .int .i64 t141_4, .int .i64 t141_5, .int .i64 t141_6, .int .i64 t141_7, .bool t141_8, .bool t141_9] 54 (0, 0)) ∧ Tch g9 _ w') (does_call (by kernel_rfl) (ar2 (hS.get 1 rfl) (hS.get 0 rfl)) ((delay_Exchange_Response.calls g9 t129_2 t129_3 t129_4 t129_5 t129_6 t129_7 t129_8 t53_1 t53_2 t53_3 t53_4 t53_5 t53_6 t53_7 t53_8 t53_9 t53_10 t53_11 t53_12 t53_13 t53_14 t53_15 t53_16 t53_17 t53_18 t53_19 t53_20 t53_21 t53_22 t53_23 t141_1 t141_2 t141_3 t141_4 t141_5 t141_6 t141_7 t141_8 t141_9 _ ((hBw139_w128.block g9 (blk_lt hbxw128)).trans hbxw128) At141).mono fun _ _ h => ⟨_, h.1, rfl, h.2⟩)) ?_
                    rintro vw140 w140 ⟨rfl, hbxw140, hT⟩
                    have hn142 := hT.blk ((hBw139_w128.block g26 (blk_lt hn130)).trans hn130) hne28
                    have hn143 := hT.blk ((hBw139_w128.block g46 (blk_lt hn131)).trans hn131) hne48
                    have hn144 := hT.blk ((hBw139_w128.block g56 (blk_lt hn132)).trans hn132) hne58
                    have hn145 := hT.blk ((hBw139_w128.block g72 (blk_lt hn133)).trans hn133) hne74
                    have hBw140_w := hT.below hBw139_w (Nat.le_trans (hBw3_w).size hgeg9) (hBw139_w).size
                    have hBw140_w3 := hT.below hBw139_w3 hgeg9 (hBw139_w3).size
                    have hBw140_w140 := Below.refl w140.heap.size w140
                    clear hT
                    refine hS.next (v := .tuple #[.int .i64 t141_1, .bool t141_2]) (d := 82) rfl (by decide) (by rfl) ?_
                    clear hS
                    intro at146 hS
                    refine list_step rfl (R := fun v w' => Below _ _ w' ∧ (IsV (.tuple #[.int .i64 t141_1, .bool t141_2])) v w') (does_val (x_move rfl (hS.get 0 rfl)) rfl) ?_
                    rintro vw147 w147 ⟨hb, he⟩
                    have hBw147_w := below_step hBw140_w hb
                    have hBw147_w3 := below_step hBw140_w3 hb
                    have hBw147_w140 := below_step hBw140_w140 hb
                    have hBw147_w147 := Below.refl w147.heap.size w147
                    obtain rfl : vw147 = .tuple #[.int .i64 t141_1, .bool t141_2] := he
                    refine hS.next (v := .tuple #[.int .i64 t141_1, .bool t141_2]) (d := 79) rfl (by decide) (by rfl) ?_
                    clear hS
                    intro at148 hS
                    refine list_step rfl (R := fun v w' => Below _ _ w' ∧ (IsV (.int .i64 t141_1)) v w') (does_val (x_extract rfl (hS.get 0 rfl) rfl) rfl) ?_
                    rintro vw149 w149 ⟨hb, he⟩
                    have hBw149_w := below_step hBw147_w hb
                    have hBw149_w3 := below_step hBw147_w3 hb
                    have hBw149_w140 := below_step hBw147_w140 hb
                    have hBw149_w147 := below_step hBw147_w147 hb
                    have hBw149_w149 := Below.refl w149.heap.size w149
                    obtain rfl : vw149 = .int .i64 t141_1 := he
                    refine hS.next (v := .int .i64 t141_1) (d := 83) rfl (by decide) (by rfl) ?_
                    clear hS
                    intro at150 hS
                    refine list_step rfl (R := fun v w' => Below _ _ w' ∧ (IsV (.bool t141_2)) v w') (does_val (x_extract rfl (hS.get 1 rfl) rfl) rfl) ?_
                    rintro vw151 w151 ⟨hb, he⟩
                    have hBw151_w := below_step hBw149_w hb
                    have hBw151_w3 := below_step hBw149_w3 hb
                    have hBw151_w140 := below_step hBw149_w140 hb
                    have hBw151_w149 := below_step hBw149_w149 hb
                    have hBw151_w151 := Below.refl w151.heap.size w151
                    obtain rfl : vw151 = .bool t141_2 := he
                    refine hS.next (v := .bool t141_2) (d := 84) rfl (by decide) (by rfl) ?_
                    clear hS
                    intro at152 hS
                    refine list_step rfl (R := fun v w' => Below _ _ w' ∧ (IsV (.int .i64 t141_1)) v w') (does_val (x_assign rfl (hS.get 1 rfl)) rfl) ?_
                    rintro vw153 w153 ⟨hb, he⟩
                    have hBw153_w := below_step hBw151_w hb
                    have hBw153_w3 := below_step hBw151_w3 hb
                    have hBw153_w140 := below_step hBw151_w140 hb
                    have hBw153_w151 := below_step hBw151_w151 hb
                    have hBw153_w153 := Below.refl w153.heap.size w153
                    obtain rfl : vw153 = .int .i64 t141_1 := he
                    refine hS.next (v := .int .i64 t141_1) (d := 24) rfl (by decide) (by rfl) ?_
                    clear hS
                    intro at154 hS
                    refine list_step rfl (R := fun v w' => Below _ _ w' ∧ (IsV (.bool t141_2)) v w') (does_val (x_assign rfl (hS.get 1 rfl)) rfl) ?_
                    rintro vw155 w155 ⟨hb, he⟩
                    have hBw155_w := below_step hBw153_w hb
                    have hBw155_w3 := below_step hBw153_w3 hb
                    have hBw155_w140 := below_step hBw153_w140 hb
                    have hBw155_w153 := below_step hBw153_w153 hb
                    have hBw155_w155 := Below.refl w155.heap.size w155
                    obtain rfl : vw155 = .bool t141_2 := he
                    refine hS.next (v := .bool t141_2) (d := 25) rfl (by decide) (by rfl) ?_
                    clear hS
                    intro at156 hS
                    refine wpList_nil ?_
                    refine hK137 _ _ ?_
                    clear hK137 K137
                    refine wp_seq_k (fun K157 hK157 => ?_)
                    refine reg_seq_tail 2 (N := 130) (bs := [(25, .bool t141_2), (24, .int .i64 t141_1), (84, .bool t141_2), (83, .int .i64 t141_1), (79, .tuple #[.int .i64 t141_1, .bool t141_2]), (82, .tuple #[.int .i64 t141_1, .bool t141_2]), (81, .agg #[.int .i64 t53_1, .int .i64 t53_2, .int .i64 t53_3, .int .i64 t53_4, .int .u64 t53_5, .int .i64 t53_6, .int .i64 t53_7, .int .i64 t53_8, .int .i64 t53_9, .int .u64 t53_10, .int .i64 t53_11, .int .i64 t53_12, .int .i64 t53_13, .int .i64 t53_14, .int .i64 t53_15, .int .i64 t53_16, .int .i64 t53_17, .int .u64 t53_18, .int .i64 t53_19, .int .i64 t53_20, .int .i64 t53_21, .int .i64 t53_22, .int .i64 t53_23]), (80, .pointer (some ⟨g9, 0, none⟩)), (23, .bool t129_1), (22, .int .i64 t122), (21, .bool t105_2), (19, .bool t85_2), (17, .bool t69_24), (16, .pointer (some ⟨g72, 0, none⟩)), (15, .int .i64 t65), (14, .bool t53_24), (12, .pointer (some ⟨g46, 0, none⟩)), (10, .int .i64 t16), (31, .bool false), (9, .pointer (some ⟨g9, 0, none⟩)), (8, .bool false)]) (I := fun x => Below w.heap.size w x ∧ Below w3.heap.size w3 x ∧ Below w140.heap.size w140 x ∧ Below w155.heap.size w155 x) (ps := [IsV (.pointer (some ⟨g9, 0, none⟩)), IsV (.agg #[.int .i64 t69_1, .int .i64 t69_2, .int .i64 t69_3, .int .i64 t69_4, .int .u64 t69_5, .int .i64 t69_6, .int .i64 t69_7, .int .i64 t69_8, .int .i64 t69_9, .int .u64 t69_10, .int .i64 t69_11, .int .i64 t69_12, .int .i64 t69_13, .int .i64 t69_14, .int .i64 t69_15, .int .i64 t69_16, .int .i64 t69_17, .int .u64 t69_18, .int .i64 t69_19, .int .i64 t69_20, .int .i64 t69_21, .int .i64 t69_22, .int .i64 t69_23])]) (by kernel_rfl) ?_ ?_ rfl hS ⟨hBw155_w, hBw155_w3, hBw155_w140, hBw155_w155⟩ ?_ ?_
                    · exact fun x y hI hb => ⟨below_step hI.1 hb, below_step hI.2.1 hb, below_step hI.2.2.1 hb, below_step hI.2.2.2 hb⟩
                    · exact AllStay.cons (Stays.v _) (AllStay.cons (Stays.v _) (AllStay.nil))
                    · refine Steps.cons (fun a w hS hI hp => ok_on rfl (does_val (x_move rfl (hS.get 19 rfl)) rfl)) ?_
                      refine Steps.cons (fun a w hS hI hp => ok_on rfl (does_loadrow rfl (hS.get 13 rfl) (((hI.2.2.1).block g72 (blk_lt hn145)).trans hn145) Try.underlying34 rfl (by kernel_rfl) rfl)) ?_
                      exact Steps.nil
                    clear hS
                    intro at158 w159 hS hI hp
                    have hBw159_w := hI.1
                    have hBw159_w3 := hI.2.1
                    have hBw159_w140 := hI.2.2.1
                    have hBw159_w155 := hI.2.2.2
                    replace hS := ((((((((((((hS.nil).cons (hS.get 20 rfl)).cons (hS.get 18 rfl)).cons (hS.get 17 rfl)).cons (hS.get 16 rfl)).cons (hS.get 15 rfl)).cons (hS.get 14 rfl)).cons (hS.get 12 rfl)).cons (hS.get 11 rfl)).cons (hS.get 10 rfl)).cons (hS.get 9 rfl)).cons (hS.get 8 rfl)).cons (hS.get 0 rfl)
                    have hv86 : sl _ 86 = .pointer (some ⟨g9, 0, none⟩) := hp 0 (by decide)
                    have hv87 : sl _ 87 = .agg #[.int .i64 t69_1, .int .i64 t69_2, .int .i64 t69_3, .int .i64 t69_4, .int .u64 t69_5, .int .i64 t69_6, .int .i64 t69_7, .int .i64 t69_8, .int .i64 t69_9, .int .u64 t69_10, .int .i64 t69_11, .int .i64 t69_12, .int .i64 t69_13, .int .i64 t69_14, .int .i64 t69_15, .int .i64 t69_16, .int .i64 t69_17, .int .u64 t69_18, .int .i64 t69_19, .int .i64 t69_20, .int .i64 t69_21, .int .i64 t69_22, .int .i64 t69_23] := hp 1 (by decide)
                    have hBw159_w159 := Below.refl w159.heap.size w159
                    have hS := hS.cons hv86
                    have hS := hS.cons hv87
                    clear hp hI hv86 hv87
                    show wpList _ _ _ [_, _, _, _, _, _] _ _
                    refine list_step rfl (R := fun v w' => v = .tuple #[.int .i64 t161_1, .bool t161_2] ∧ w'.heap[g9]? = some (.cells #[.int .u64 t161_3, .int .i64 t161_4, .int .i64 t161_5, .int .i64 t161_6, .int .i64 t161_7, .bool t161_8, .bool t161_9] 54 (0, 0)) ∧ Tch g9 _ w') (does_call (by kernel_rfl) (ar2 (hS.get 1 rfl) (hS.get 0 rfl)) ((delay_Exchange_Response.calls g9 t141_3 t141_4 t141_5 t141_6 t141_7 t141_8 t141_9 t69_1 t69_2 t69_3 t69_4 t69_5 t69_6 t69_7 t69_8 t69_9 t69_10 t69_11 t69_12 t69_13 t69_14 t69_15 t69_16 t69_17 t69_18 t69_19 t69_20 t69_21 t69_22 t69_23 t161_1 t161_2 t161_3 t161_4 t161_5 t161_6 t161_7 t161_8 t161_9 _ ((hBw159_w140.block g9 (blk_lt hbxw140)).trans hbxw140) At161).mono fun _ _ h => ⟨_, h.1, rfl, h.2⟩)) ?_
                    rintro vw160 w160 ⟨rfl, hbxw160, hT⟩
                    have hn162 := hT.blk ((hBw159_w140.block g26 (blk_lt hn142)).trans hn142) hne28
                    have hn163 := hT.blk ((hBw159_w140.block g46 (blk_lt hn143)).trans hn143) hne48
                    have hn164 := hT.blk ((hBw159_w140.block g56 (blk_lt hn144)).trans hn144) hne58
                    have hn165 := hT.blk ((hBw159_w140.block g72 (blk_lt hn145)).trans hn145) hne74
                    have hBw160_w := hT.below hBw159_w (Nat.le_trans (hBw3_w).size hgeg9) (hBw159_w).size
                    have hBw160_w3 := hT.below hBw159_w3 hgeg9 (hBw159_w3).size
                    have hBw160_w160 := Below.refl w160.heap.size w160
                    clear hT
                    refine hS.next (v := .tuple #[.int .i64 t161_1, .bool t161_2]) (d := 88) rfl (by decide) (by rfl) ?_
                    clear hS
                    intro at166 hS
                    refine list_step rfl (R := fun v w' => Below _ _ w' ∧ (IsV (.tuple #[.int .i64 t161_1, .bool t161_2])) v w') (does_val (x_move rfl (hS.get 0 rfl)) rfl) ?_
                    rintro vw167 w167 ⟨hb, he⟩
                    have hBw167_w := below_step hBw160_w hb
                    have hBw167_w3 := below_step hBw160_w3 hb
                    have hBw167_w160 := below_step hBw160_w160 hb
                    have hBw167_w167 := Below.refl w167.heap.size w167
                    obtain rfl : vw167 = .tuple #[.int .i64 t161_1, .bool t161_2] := he
                    refine hS.next (v := .tuple #[.int .i64 t161_1, .bool t161_2]) (d := 85) rfl (by decide) (by rfl) ?_
                    clear hS
                    intro at168 hS
                    refine list_step rfl (R := fun v w' => Below _ _ w' ∧ (IsV (.int .i64 t161_1)) v w') (does_val (x_extract rfl (hS.get 0 rfl) rfl) rfl) ?_
                    rintro vw169 w169 ⟨hb, he⟩
                    have hBw169_w := below_step hBw167_w hb
                    have hBw169_w3 := below_step hBw167_w3 hb
                    have hBw169_w160 := below_step hBw167_w160 hb
                    have hBw169_w167 := below_step hBw167_w167 hb
                    have hBw169_w169 := Below.refl w169.heap.size w169
                    obtain rfl : vw169 = .int .i64 t161_1 := he
                    refine hS.next (v := .int .i64 t161_1) (d := 89) rfl (by decide) (by rfl) ?_
                    clear hS
                    intro at170 hS
                    refine list_step rfl (R := fun v w' => Below _ _ w' ∧ (IsV (.bool t161_2)) v w') (does_val (x_extract rfl (hS.get 1 rfl) rfl) rfl) ?_
                    rintro vw171 w171 ⟨hb, he⟩
                    have hBw171_w := below_step hBw169_w hb
                    have hBw171_w3 := below_step hBw169_w3 hb
                    have hBw171_w160 := below_step hBw169_w160 hb
                    have hBw171_w169 := below_step hBw169_w169 hb
                    have hBw171_w171 := Below.refl w171.heap.size w171
                    obtain rfl : vw171 = .bool t161_2 := he
                    refine hS.next (v := .bool t161_2) (d := 90) rfl (by decide) (by rfl) ?_
                    clear hS
                    intro at172 hS
                    refine list_step rfl (R := fun v w' => Below _ _ w' ∧ (IsV (.int .i64 t161_1)) v w') (does_val (x_assign rfl (hS.get 1 rfl)) rfl) ?_
                    rintro vw173 w173 ⟨hb, he⟩
                    have hBw173_w := below_step hBw171_w hb
                    have hBw173_w3 := below_step hBw171_w3 hb
                    have hBw173_w160 := below_step hBw171_w160 hb
                    have hBw173_w171 := below_step hBw171_w171 hb
                    have hBw173_w173 := Below.refl w173.heap.size w173
                    obtain rfl : vw173 = .int .i64 t161_1 := he
                    refine hS.next (v := .int .i64 t161_1) (d := 26) rfl (by decide) (by rfl) ?_
                    clear hS
                    intro at174 hS
                    refine list_step rfl (R := fun v w' => Below _ _ w' ∧ (IsV (.bool t161_2)) v w') (does_val (x_assign rfl (hS.get 1 rfl)) rfl) ?_
                    rintro vw175 w175 ⟨hb, he⟩
                    have hBw175_w := below_step hBw173_w hb
                    have hBw175_w3 := below_step hBw173_w3 hb
                    have hBw175_w160 := below_step hBw173_w160 hb
                    have hBw175_w173 := below_step hBw173_w173 hb
                    have hBw175_w175 := Below.refl w175.heap.size w175
                    obtain rfl : vw175 = .bool t161_2 := he
                    refine hS.next (v := .bool t161_2) (d := 27) rfl (by decide) (by rfl) ?_
                    clear hS
                    intro at176 hS
                    refine wpList_nil ?_
                    refine hK157 _ _ ?_
                    clear hK157 K157
                    refine wp_seq_k (fun K177 hK177 => ?_)
                    replace hS := (((((((((((((((((((hS.nil).cons (hS.get 18 rfl)).cons (hS.get 17 rfl)).cons (hS.get 16 rfl)).cons (hS.get 15 rfl)).cons (hS.get 14 rfl)).cons (hS.get 13 rfl)).cons (hS.get 12 rfl)).cons (hS.get 11 rfl)).cons (hS.get 10 rfl)).cons (hS.get 9 rfl)).cons (hS.get 8 rfl)).cons (hS.get 7 rfl)).cons (hS.get 6 rfl)).cons (hS.get 5 rfl)).cons (hS.get 4 rfl)).cons (hS.get 3 rfl)).cons (hS.get 2 rfl)).cons (hS.get 1 rfl)).cons (hS.get 0 rfl)
                    refine reg_seq (N := 130) (bs := [(27, .bool t161_2), (26, .int .i64 t161_1), (90, .bool t161_2), (89, .int .i64 t161_1), (85, .tuple #[.int .i64 t161_1, .bool t161_2]), (88, .tuple #[.int .i64 t161_1, .bool t161_2]), (87, .agg #[.int .i64 t69_1, .int .i64 t69_2, .int .i64 t69_3, .int .i64 t69_4, .int .u64 t69_5, .int .i64 t69_6, .int .i64 t69_7, .int .i64 t69_8, .int .i64 t69_9, .int .u64 t69_10, .int .i64 t69_11, .int .i64 t69_12, .int .i64 t69_13, .int .i64 t69_14, .int .i64 t69_15, .int .i64 t69_16, .int .i64 t69_17, .int .u64 t69_18, .int .i64 t69_19, .int .i64 t69_20, .int .i64 t69_21, .int .i64 t69_22, .int .i64 t69_23]), (86, .pointer (some ⟨g9, 0, none⟩)), (25, .bool t141_2), (23, .bool t129_1), (22, .int .i64 t122), (21, .bool t105_2), (19, .bool t85_2), (17, .bool t69_24), (15, .int .i64 t65), (14, .bool t53_24), (12, .pointer (some ⟨g46, 0, none⟩)), (10, .int .i64 t16), (31, .bool false)]) (I := fun x => Below w.heap.size w x ∧ Below w3.heap.size w3 x ∧ Below w160.heap.size w160 x ∧ Below w175.heap.size w175 x) (ps := [IsV (.bool t53_24), IsV (.bool t53_24), IsV (.bool t69_24), IsV (.bool t69_24), IsV (.bool t69_24), IsV (.bool t85_2), IsV (.bool (!t85_2)), IsV (.bool (!t85_2)), IsV (.bool (!t85_2)), IsV (.bool t105_2), IsV (.bool (!t105_2)), IsV (.bool (!t105_2)), IsV (.bool (!t105_2)), IsV (.bool t129_1), IsV (.bool t129_1), IsV (.bool t129_1), IsV (.bool t141_2), IsV (.bool (!t141_2)), IsV (.bool (!t141_2)), IsV (.bool (!t141_2)), IsV (.bool t161_2), IsV (.bool t161_2), IsV (.bool t161_2), IsV (.int .i64 t161_1), IsV (.int .i64 t65), IsV (.int .i64 t122), IsV (.int .i64 (wrap64 (t65 - t122))), IsV (.bool (decide (t161_1 = (wrap64 (t65 - t122))))), IsV (.bool (decide (t161_1 = (wrap64 (t65 - t122))))), IsV (.bool (decide (t161_1 = (wrap64 (t65 - t122))))), IsV (.pointer (some ⟨g46, 6, none⟩)), IsV (.int .i64 t42_7), IsV (.int .i64 t16), IsV (.int .i64 (wrap64 (t16 + 1))), IsV (.bool (decide (t42_7 = (wrap64 (t16 + 1))))), IsV (.bool (decide (t42_7 = (wrap64 (t16 + 1))))), IsV (.bool (decide (t42_7 = (wrap64 (t16 + 1))))), IsV (.bool t178), IsV (.bool t178), IsV (.bool t178)]) (by kernel_rfl) ?_ ?_ rfl hS ⟨hBw175_w, hBw175_w3, hBw175_w160, hBw175_w175⟩ ?_ ?_
                    · exact fun x y hI hb => ⟨below_step hI.1 hb, below_step hI.2.1 hb, below_step hI.2.2.1 hb, below_step hI.2.2.2 hb⟩
                    · exact AllStay.cons (Stays.v _) (AllStay.cons (Stays.v _) (AllStay.cons (Stays.v _) (AllStay.cons (Stays.v _) (AllStay.cons (Stays.v _) (AllStay.cons (Stays.v _) (AllStay.cons (Stays.v _) (AllStay.cons (Stays.v _) (AllStay.cons (Stays.v _) (AllStay.cons (Stays.v _) (AllStay.cons (Stays.v _) (AllStay.cons (Stays.v _) (AllStay.cons (Stays.v _) (AllStay.cons (Stays.v _) (AllStay.cons (Stays.v _) (AllStay.cons (Stays.v _) (AllStay.cons (Stays.v _) (AllStay.cons (Stays.v _) (AllStay.cons (Stays.v _) (AllStay.cons (Stays.v _) (AllStay.cons (Stays.v _) (AllStay.cons (Stays.v _) (AllStay.cons (Stays.v _) (AllStay.cons (Stays.v _) (AllStay.cons (Stays.v _) (AllStay.cons (Stays.v _) (AllStay.cons (Stays.v _) (AllStay.cons (Stays.v _) (AllStay.cons (Stays.v _) (AllStay.cons (Stays.v _) (AllStay.cons (Stays.v _) (AllStay.cons (Stays.v _) (AllStay.cons (Stays.v _) (AllStay.cons (Stays.v _) (AllStay.cons (Stays.v _) (AllStay.cons (Stays.v _) (AllStay.cons (Stays.v _) (AllStay.cons (Stays.v _) (AllStay.cons (Stays.v _) (AllStay.cons (Stays.v _) (AllStay.nil))))))))))))))))))))))))))))))))))))))))
                    · refine Steps.cons (fun a w hS hI hp => ok_on rfl (does_val (x_move rfl (hS.get 15 rfl)) rfl)) ?_
                      refine Steps.cons (fun a w hS hI hp => ok_on rfl (does_val (x_move rfl ((hp.get 0 (by rfl) rfl rfl))) rfl)) ?_
                      refine Steps.cons (fun a w hS hI hp => ok_if (d := 92) rfl rfl (by rw [hS.size]; decide) (((hp.get 1 (by rfl) rfl rfl)).trans (bT c1)) (does_val (x_move rfl (hS.get 13 rfl)) rfl)) ?_
                      refine Steps.cons (fun a w hS hI hp => ok_on rfl (does_val (x_pickT rfl (((hp.get 1 (by rfl) rfl rfl)).trans (bT c1)) ((hp.get 2 (by rfl) rfl rfl))) rfl)) ?_
                      refine Steps.cons (fun a w hS hI hp => ok_on rfl (does_val (x_move rfl ((hp.get 3 (by rfl) rfl rfl))) rfl)) ?_
                      refine Steps.cons (fun a w hS hI hp => ok_if (d := 95) rfl rfl (by rw [hS.size]; decide) (((hp.get 4 (by rfl) rfl rfl)).trans (bT c2)) (does_val (x_move rfl (hS.get 12 rfl)) rfl)) ?_
                      refine Steps.cons (fun a w hS hI hp => ok_if (d := 95) rfl rfl (by rw [hS.size]; decide) (((hp.get 4 (by rfl) rfl rfl)).trans (bT c2)) (does_val (x_not rfl ((hp.get 5 (by rfl) rfl rfl))) rfl)) ?_
                      refine Steps.cons (fun a w hS hI hp => ok_on rfl (does_val (x_pickT rfl (((hp.get 4 (by rfl) rfl rfl)).trans (bT c2)) ((hp.get 6 (by rfl) rfl rfl))) rfl)) ?_
                      refine Steps.cons (fun a w hS hI hp => ok_on rfl (does_val (x_move rfl ((hp.get 7 (by rfl) rfl rfl))) rfl)) ?_
                      refine Steps.cons (fun a w hS hI hp => ok_if (d := 99) rfl rfl (by rw [hS.size]; decide) (((hp.get 8 (by rfl) rfl rfl)).trans (bT (congrArg (!·) (Bool.eq_false_iff.2 c3)))) (does_val (x_move rfl (hS.get 11 rfl)) rfl)) ?_
                      refine Steps.cons (fun a w hS hI hp => ok_if (d := 99) rfl rfl (by rw [hS.size]; decide) (((hp.get 8 (by rfl) rfl rfl)).trans (bT (congrArg (!·) (Bool.eq_false_iff.2 c3)))) (does_val (x_not rfl ((hp.get 9 (by rfl) rfl rfl))) rfl)) ?_
                      refine Steps.cons (fun a w hS hI hp => ok_on rfl (does_val (x_pickT rfl (((hp.get 8 (by rfl) rfl rfl)).trans (bT (congrArg (!·) (Bool.eq_false_iff.2 c3)))) ((hp.get 10 (by rfl) rfl rfl))) rfl)) ?_
                      refine Steps.cons (fun a w hS hI hp => ok_on rfl (does_val (x_move rfl ((hp.get 11 (by rfl) rfl rfl))) rfl)) ?_
                      refine Steps.cons (fun a w hS hI hp => ok_if (d := 103) rfl rfl (by rw [hS.size]; decide) (((hp.get 12 (by rfl) rfl rfl)).trans (bT (congrArg (!·) (Bool.eq_false_iff.2 c4)))) (does_val (x_move rfl (hS.get 9 rfl)) rfl)) ?_
                      refine Steps.cons (fun a w hS hI hp => ok_on rfl (does_val (x_pickT rfl (((hp.get 12 (by rfl) rfl rfl)).trans (bT (congrArg (!·) (Bool.eq_false_iff.2 c4)))) ((hp.get 13 (by rfl) rfl rfl))) rfl)) ?_
                      refine Steps.cons (fun a w hS hI hp => ok_on rfl (does_val (x_move rfl ((hp.get 14 (by rfl) rfl rfl))) rfl)) ?_
                      refine Steps.cons (fun a w hS hI hp => ok_if (d := 106) rfl rfl (by rw [hS.size]; decide) (((hp.get 15 (by rfl) rfl rfl)).trans (bT c5)) (does_val (x_move rfl (hS.get 8 rfl)) rfl)) ?_
                      refine Steps.cons (fun a w hS hI hp => ok_if (d := 106) rfl rfl (by rw [hS.size]; decide) (((hp.get 15 (by rfl) rfl rfl)).trans (bT c5)) (does_val (x_not rfl ((hp.get 16 (by rfl) rfl rfl))) rfl)) ?_
                      refine Steps.cons (fun a w hS hI hp => ok_on rfl (does_val (x_pickT rfl (((hp.get 15 (by rfl) rfl rfl)).trans (bT c5)) ((hp.get 17 (by rfl) rfl rfl))) rfl)) ?_
                      refine Steps.cons (fun a w hS hI hp => ok_on rfl (does_val (x_move rfl ((hp.get 18 (by rfl) rfl rfl))) rfl)) ?_
                      refine Steps.cons (fun a w hS hI hp => ok_if (d := 110) rfl rfl (by rw [hS.size]; decide) (((hp.get 19 (by rfl) rfl rfl)).trans (bT (congrArg (!·) (Bool.eq_false_iff.2 c6)))) (does_val (x_move rfl (hS.get 0 rfl)) rfl)) ?_
                      refine Steps.cons (fun a w hS hI hp => ok_on rfl (does_val (x_pickT rfl (((hp.get 19 (by rfl) rfl rfl)).trans (bT (congrArg (!·) (Bool.eq_false_iff.2 c6)))) ((hp.get 20 (by rfl) rfl rfl))) rfl)) ?_
                      refine Steps.cons (fun a w hS hI hp => ok_on rfl (does_val (x_move rfl ((hp.get 21 (by rfl) rfl rfl))) rfl)) ?_
                      refine Steps.cons (fun a w hS hI hp => ok_if (d := 113) rfl rfl (by rw [hS.size]; decide) (((hp.get 22 (by rfl) rfl rfl)).trans (bT c7)) (does_val (x_move rfl (hS.get 1 rfl)) rfl)) ?_
                      refine Steps.cons (fun a w hS hI hp => ok_if (d := 113) rfl rfl (by rw [hS.size]; decide) (((hp.get 22 (by rfl) rfl rfl)).trans (bT c7)) (does_val (x_move rfl (hS.get 14 rfl)) rfl)) ?_
                      refine Steps.cons (fun a w hS hI hp => ok_if (d := 113) rfl rfl (by rw [hS.size]; decide) (((hp.get 22 (by rfl) rfl rfl)).trans (bT c7)) (does_val (x_move rfl (hS.get 10 rfl)) rfl)) ?_
                      refine Steps.cons (fun a w hS hI hp => ok_if (d := 113) rfl rfl (by rw [hS.size]; decide) (((hp.get 22 (by rfl) rfl rfl)).trans (bT c7)) (does_val (x_bin rfl ((hp.get 24 (by rfl) rfl rfl)) ((hp.get 25 (by rfl) rfl rfl)) (b_sub _ _ _ _ _)) rfl)) ?_
                      refine Steps.cons (fun a w hS hI hp => ok_if (d := 113) rfl rfl (by rw [hS.size]; decide) (((hp.get 22 (by rfl) rfl rfl)).trans (bT c7)) (does_val (x_bin rfl ((hp.get 23 (by rfl) rfl rfl)) ((hp.get 26 (by rfl) rfl rfl)) (b_eql _ _ _ _ _ _)) rfl)) ?_
                      refine Steps.cons (fun a w hS hI hp => ok_on rfl (does_val (x_pickT rfl (((hp.get 22 (by rfl) rfl rfl)).trans (bT c7)) ((hp.get 27 (by rfl) rfl rfl))) rfl)) ?_
                      refine Steps.cons (fun a w hS hI hp => ok_on rfl (does_val (x_move rfl ((hp.get 28 (by rfl) rfl rfl))) rfl)) ?_
                      refine Steps.cons (fun a w hS hI hp => ok_if (d := 120) rfl rfl (by rw [hS.size]; decide) (((hp.get 29 (by rfl) rfl rfl)).trans (bT (decide_eq_true c8))) (does_val (x_field rfl (hS.get 16 rfl) Try.underlying34 rfl (by kernel_rfl)) rfl)) ?_
                      refine Steps.cons (fun a w hS hI hp => ok_if (d := 120) rfl rfl (by rw [hS.size]; decide) (((hp.get 29 (by rfl) rfl rfl)).trans (bT (decide_eq_true c8))) (does_val (x_load1 (d := .int .i64) rfl ((hp.get 30 (by rfl) rfl rfl)) (by kernel_rfl) rfl ((blk_cell (((hI.2.2.1).block g46 (blk_lt hn163)).trans hn163) 6).trans rfl)) rfl)) ?_
                      refine Steps.cons (fun a w hS hI hp => ok_if (d := 120) rfl rfl (by rw [hS.size]; decide) (((hp.get 29 (by rfl) rfl rfl)).trans (bT (decide_eq_true c8))) (does_val (x_move rfl (hS.get 17 rfl)) rfl)) ?_
                      refine Steps.cons (fun a w hS hI hp => ok_if (d := 120) rfl rfl (by rw [hS.size]; decide) (((hp.get 29 (by rfl) rfl rfl)).trans (bT (decide_eq_true c8))) (does_val (x_bin rfl ((hp.get 32 (by rfl) rfl rfl)) (rfl) (b_add _ _ _ _ _)) rfl)) ?_
                      refine Steps.cons (fun a w hS hI hp => ok_if (d := 120) rfl rfl (by rw [hS.size]; decide) (((hp.get 29 (by rfl) rfl rfl)).trans (bT (decide_eq_true c8))) (does_val (x_bin rfl ((hp.get 31 (by rfl) rfl rfl)) ((hp.get 33 (by rfl) rfl rfl)) (b_eql _ _ _ _ _ _)) rfl)) ?_
                      refine Steps.cons (fun a w hS hI hp => ok_on rfl (does_val (x_pickT rfl (((hp.get 29 (by rfl) rfl rfl)).trans (bT (decide_eq_true c8))) ((hp.get 34 (by rfl) rfl rfl))) rfl)) ?_
                      refine Steps.cons (fun a w hS hI hp => ok_on rfl (does_val (x_move rfl ((hp.get 35 (by rfl) rfl rfl))) rfl)) ?_
                      refine Steps.cons (fun a w hS hI hp => ok_if (d := 127) rfl rfl (by rw [hS.size]; decide) (((hp.get 36 (by rfl) rfl rfl)).trans (bT (decide_eq_true c9))) (does_call (by kernel_rfl) rfl ((carillonlaw17_awake.calls  t178 _  At178).mono fun _ _ h => ⟨_, h.1, h.2, rfl⟩))) ?_
                      refine Steps.cons (fun a w hS hI hp => ok_on rfl (does_val (x_pickT rfl (((hp.get 36 (by rfl) rfl rfl)).trans (bT (decide_eq_true c9))) ((hp.get 37 (by rfl) rfl rfl))) rfl)) ?_
                      refine Steps.cons (fun a w hS hI hp => ok_on rfl (does_val (x_assign rfl ((hp.get 38 (by rfl) rfl rfl))) rfl)) ?_
                      exact Steps.nil
                    clear hS
                    intro at179 w180 hS hI hp
                    have hBw180_w := hI.1
                    have hBw180_w3 := hI.2.1
                    have hBw180_w160 := hI.2.2.1
                    have hBw180_w175 := hI.2.2.2
                    replace hS := (hS.nil).cons (hS.get 18 rfl)
                    have hv8 : sl _ 8 = .bool t178 := hp 39 (by decide)
                    have hBw180_w180 := Below.refl w180.heap.size w180
                    have hS := hS.cons hv8
                    clear hp hI hv8
                    refine hK177 _ _ ?_
                    clear hK177 K177
                    refine wp_ret ?_
                    (try simp only [Exit.then, Exit.inBlock])
                    exact bodyPost_ret (v := .bool true) (by rw [results_tmp rfl]; exact congrArg (Result.ok · _) ((hS.get 0 rfl).trans (congrArg Value.bool hret))) hS.nodef ⟨rfl, hBw180_w⟩
                  · rw [if_neg c9] at H
                    exact absurd H (by simp)
                · rw [if_neg c8] at H
                  exact absurd H (by simp)
              · rw [if_neg c7] at H
                exact absurd H (by simp)
          · rw [if_neg c5] at H
            exact absurd H (by simp)
    · rw [if_neg c2] at H
      exact absurd H (by simp)
  · rw [if_neg c1] at H
    exact absurd H (by simp)

/-- The one pure statement of carillonlaw17_DelayNext. -/
def carillonlaw17_DelayNext.Pure : Prop := ∀ (a0_0 : Int) (a0_1 : Int) (a1 : Int) (a2 : Int) (a3 : Int), (Lit.int .u64 a0_0).wf = true → (Lit.int .i64 a0_1).wf = true → (Lit.int .i64 a1).wf = true → (Lit.int .i64 a2).wf = true → (Lit.int .i64 a3).wf = true → carillonlaw17_DelayNext.f a0_0 a0_1 a1 a2 a3 = some true
theorem carillonlaw17_DelayNext.walk (P : carillonlaw17_DelayNext.Pure) (a0_0 : Int) (a0_1 : Int) (a1 : Int) (a2 : Int) (a3 : Int) (w : World) (w0_0 : (Lit.int .u64 a0_0).wf = true) (w0_1 : (Lit.int .i64 a0_1).wf = true) (w1 : (Lit.int .i64 a1).wf = true) (w2 : (Lit.int .i64 a2).wf = true) (w3 : (Lit.int .i64 a3).wf = true) :
    Calls Try.prog 5 #[.agg #[.int .u64 a0_0, .int .i64 a0_1], .int .i64 a1, .int .i64 a2, .int .i64 a3] w fun e w' => e = .returned (.bool true) ∧ Below w.heap.size w w' := by
  have h := P a0_0 a0_1 a1 a2 a3 w0_0 w0_1 w1 w2 w3
  refine (carillonlaw17_DelayNext.calls a0_0 a0_1 a1 a2 a3 w  h).mono ?_
  rintro e w' ⟨rfl, hd⟩
  exact ⟨rfl, hd⟩

end Go.Proofs.Ytpfjpfbhgeoadaa.P
