/- Functions and loops of the given program as Lean functions, and that the code comes to what they say: written by this session's own program; Lean checks it. -/
import Derived.Test.YtpfjpfbhgeoadaaZzPx0
import Derived.Test.YtpfjpfbhgeoadaaZzPx1
import Derived.Test.YtpfjpfbhgeoadaaZzPx2
import Derived.Test.YtpfjpfbhgeoadaaZzPx3
import Derived.Test.YtpfjpfbhgeoadaaZzPx4
namespace Go.Proofs.Ytpfjpfbhgeoadaa.P
open Go.RowKit Go.Proofs.YtpfjpfbhgeoadaaW.PrintWords Go.Proofs.YtpfjpfbhgeoadaaW.PrintLast Go.Proofs.YtpfjpfbhgeoadaaW.PrintMore
attribute [local go_sem] max2_int min2_int max_two min_two max_three min_three max_four min_four   -- for this text's walks alone
set_option linter.unusedVariables false
set_option linter.unusedSimpArgs false
/-! ### carillonlaw17_DelayPlays: function 3: by our own printer -/
def carillonlaw17_DelayPlays.j2 (k : Nat) (lc1 : (List (S36)) → Int → Int → Int → Int → Int → Int → Int → Bool → Bool → Int → Int → Int → Bool → Bool → Int → Int → Int → Option (Bool)) (y2_2 : List (S36)) (x2_3_0 x2_3_1 x2_7_0 x2_7_1 x2_7_2 x2_7_3 x2_7_4 : Int) (x2_7_5 x2_7_6 : Bool) (x2_8_0 x2_8_1 x2_8_2 : Int) (x2_8_3 x2_8_4 : Bool) (x2_8_5 x2_8_6 x2_9 : Int) : Option (Bool) := lc1 y2_2 x2_3_0 x2_3_1 x2_7_0 x2_7_1 x2_7_2 x2_7_3 x2_7_4 x2_7_5 x2_7_6 x2_8_0 x2_8_1 x2_8_2 x2_8_3 x2_8_4 x2_8_5 x2_8_6 (wrap64 (x2_9 + 1))
def carillonlaw17_DelayPlays.j4 (k : Nat) (lc1 : (List (S36)) → Int → Int → Int → Int → Int → Int → Int → Bool → Bool → Int → Int → Int → Bool → Bool → Int → Int → Int → Option (Bool)) (y4_2 : List (S36)) (x4_3_0 x4_3_1 x4_7_0 x4_7_1 x4_7_2 x4_7_3 x4_7_4 : Int) (x4_7_5 x4_7_6 : Bool) (x4_8_0 x4_8_1 x4_8_2 : Int) (x4_8_3 x4_8_4 : Bool) (x4_8_5 x4_8_6 x4_9 x4_15_0 x4_15_1 x4_15_2 x4_15_3 x4_15_4 x4_15_5 x4_15_6 x4_15_7 x4_15_8 x4_15_9 x4_15_10 x4_15_11 x4_15_12 x4_15_13 x4_15_14 x4_15_15 x4_15_16 x4_15_17 x4_15_18 x4_15_19 x4_15_20 x4_15_21 x4_15_22 : Int) : Option (Bool) := (delay_Exchange_Response.f x4_7_0 x4_7_1 x4_7_2 x4_7_3 x4_7_4 x4_7_5 x4_7_6 x4_15_0 x4_15_1 x4_15_2 x4_15_3 x4_15_4 x4_15_5 x4_15_6 x4_15_7 x4_15_8 x4_15_9 x4_15_10 x4_15_11 x4_15_12 x4_15_13 x4_15_14 x4_15_15 x4_15_16 x4_15_17 x4_15_18 x4_15_19 x4_15_20 x4_15_21 x4_15_22).bind fun t4005 => ((carillonref17_X_Response.f x4_8_0 x4_8_1 x4_8_2 x4_8_3 x4_8_4 x4_8_5 x4_8_6 x4_15_0 x4_15_1 x4_15_2 x4_15_3 x4_15_4 x4_15_5 x4_15_6 x4_15_7 x4_15_8 x4_15_9 x4_15_10 x4_15_11 x4_15_12 x4_15_13 x4_15_14 x4_15_15 x4_15_16 x4_15_17 x4_15_18 x4_15_19 x4_15_20 x4_15_21 x4_15_22).bind fun t4024 => (if t4005.1 = t4024.1 then (if (t4005.2.1 == t4024.2.1) = true then (carillonlaw17_DelayPlays.j2 k lc1 y4_2 x4_3_0 x4_3_1 t4005.2.2.1 t4005.2.2.2.1 t4005.2.2.2.2.1 t4005.2.2.2.2.2.1 t4005.2.2.2.2.2.2.1 t4005.2.2.2.2.2.2.2.1 t4005.2.2.2.2.2.2.2.2 t4024.2.2.1 t4024.2.2.2.1 t4024.2.2.2.2.1 t4024.2.2.2.2.2.1 t4024.2.2.2.2.2.2.1 t4024.2.2.2.2.2.2.2.1 t4024.2.2.2.2.2.2.2.2 x4_9) else (some false)) else (some false)))
def carillonlaw17_DelayPlays.j3 (k : Nat) (lc1 : (List (S36)) → Int → Int → Int → Int → Int → Int → Int → Bool → Bool → Int → Int → Int → Bool → Bool → Int → Int → Int → Option (Bool)) (y3_2 : List (S36)) (x3_3_0 x3_3_1 x3_7_0 x3_7_1 x3_7_2 x3_7_3 x3_7_4 : Int) (x3_7_5 x3_7_6 : Bool) (x3_8_0 x3_8_1 x3_8_2 : Int) (x3_8_3 x3_8_4 : Bool) (x3_8_5 x3_8_6 x3_9 x3_10_0 x3_10_1 x3_10_2 x3_10_3 x3_10_4 x3_10_5 x3_10_6 x3_10_7 x3_10_8 x3_10_9 x3_10_10 x3_10_11 x3_10_12 x3_10_13 x3_10_14 x3_10_15 x3_10_16 x3_10_17 x3_10_18 x3_10_19 x3_10_20 x3_10_21 x3_10_22 x3_10_23 x3_10_24 x3_10_25 : Int) (x3_10_26 : Bool) : Option (Bool) := (carillonlaw00_Place.f x3_10_0 6).bind fun t3002 => (if (if t3002 = 0 then decide (t3002 = 0) else decide (t3002 = 1)) = true then ((delay_Exchange_Request.f x3_7_0 x3_7_1 x3_7_2 x3_7_3 x3_7_4 x3_7_5 x3_7_6 x3_10_1 x3_10_2).bind fun t3024 => ((carillonref17_X_Request.f x3_8_0 x3_8_1 x3_8_2 x3_8_3 x3_8_4 x3_8_5 x3_8_6 x3_10_1).bind fun t3030 => (if ((t3024.1 == t3030.1) && ((t3024.2.1 == t3030.2.1) && ((t3024.2.2.1 == t3030.2.2.1) && ((t3024.2.2.2.1 == t3030.2.2.2.1) && ((t3024.2.2.2.2.1 == t3030.2.2.2.2.1) && ((t3024.2.2.2.2.2.1 == t3030.2.2.2.2.2.1) && ((t3024.2.2.2.2.2.2.1 == t3030.2.2.2.2.2.2.1) && ((t3024.2.2.2.2.2.2.2.1 == t3030.2.2.2.2.2.2.2.1) && ((t3024.2.2.2.2.2.2.2.2.1 == t3030.2.2.2.2.2.2.2.2.1) && ((t3024.2.2.2.2.2.2.2.2.2.1 == t3030.2.2.2.2.2.2.2.2.2.1) && ((t3024.2.2.2.2.2.2.2.2.2.2.1 == t3030.2.2.2.2.2.2.2.2.2.2.1) && ((t3024.2.2.2.2.2.2.2.2.2.2.2.1 == t3030.2.2.2.2.2.2.2.2.2.2.2.1) && ((t3024.2.2.2.2.2.2.2.2.2.2.2.2.1 == t3030.2.2.2.2.2.2.2.2.2.2.2.2.1) && ((t3024.2.2.2.2.2.2.2.2.2.2.2.2.2.1 == t3030.2.2.2.2.2.2.2.2.2.2.2.2.2.1) && ((t3024.2.2.2.2.2.2.2.2.2.2.2.2.2.2.1 == t3030.2.2.2.2.2.2.2.2.2.2.2.2.2.2.1) && ((t3024.2.2.2.2.2.2.2.2.2.2.2.2.2.2.2.1 == t3030.2.2.2.2.2.2.2.2.2.2.2.2.2.2.2.1) && ((t3024.2.2.2.2.2.2.2.2.2.2.2.2.2.2.2.2.1 == t3030.2.2.2.2.2.2.2.2.2.2.2.2.2.2.2.2.1) && ((t3024.2.2.2.2.2.2.2.2.2.2.2.2.2.2.2.2.2.1 == t3030.2.2.2.2.2.2.2.2.2.2.2.2.2.2.2.2.2.1) && ((t3024.2.2.2.2.2.2.2.2.2.2.2.2.2.2.2.2.2.2.1 == t3030.2.2.2.2.2.2.2.2.2.2.2.2.2.2.2.2.2.2.1) && ((t3024.2.2.2.2.2.2.2.2.2.2.2.2.2.2.2.2.2.2.2.1 == t3030.2.2.2.2.2.2.2.2.2.2.2.2.2.2.2.2.2.2.2.1) && ((t3024.2.2.2.2.2.2.2.2.2.2.2.2.2.2.2.2.2.2.2.2.1 == t3030.2.2.2.2.2.2.2.2.2.2.2.2.2.2.2.2.2.2.2.2.1) && ((t3024.2.2.2.2.2.2.2.2.2.2.2.2.2.2.2.2.2.2.2.2.2.1 == t3030.2.2.2.2.2.2.2.2.2.2.2.2.2.2.2.2.2.2.2.2.2.1) && (t3024.2.2.2.2.2.2.2.2.2.2.2.2.2.2.2.2.2.2.2.2.2.2.1 == t3030.2.2.2.2.2.2.2.2.2.2.2.2.2.2.2.2.2.2.2.2.2.2.1))))))))))))))))))))))) = true then (carillonlaw17_DelayPlays.j2 k lc1 y3_2 x3_3_0 x3_3_1 t3024.2.2.2.2.2.2.2.2.2.2.2.2.2.2.2.2.2.2.2.2.2.2.2.1 t3024.2.2.2.2.2.2.2.2.2.2.2.2.2.2.2.2.2.2.2.2.2.2.2.2.1 t3024.2.2.2.2.2.2.2.2.2.2.2.2.2.2.2.2.2.2.2.2.2.2.2.2.2.1 t3024.2.2.2.2.2.2.2.2.2.2.2.2.2.2.2.2.2.2.2.2.2.2.2.2.2.2.1 t3024.2.2.2.2.2.2.2.2.2.2.2.2.2.2.2.2.2.2.2.2.2.2.2.2.2.2.2.1 t3024.2.2.2.2.2.2.2.2.2.2.2.2.2.2.2.2.2.2.2.2.2.2.2.2.2.2.2.2.1 t3024.2.2.2.2.2.2.2.2.2.2.2.2.2.2.2.2.2.2.2.2.2.2.2.2.2.2.2.2.2 t3030.2.2.2.2.2.2.2.2.2.2.2.2.2.2.2.2.2.2.2.2.2.2.2.1 t3030.2.2.2.2.2.2.2.2.2.2.2.2.2.2.2.2.2.2.2.2.2.2.2.2.1 t3030.2.2.2.2.2.2.2.2.2.2.2.2.2.2.2.2.2.2.2.2.2.2.2.2.2.1 t3030.2.2.2.2.2.2.2.2.2.2.2.2.2.2.2.2.2.2.2.2.2.2.2.2.2.2.1 t3030.2.2.2.2.2.2.2.2.2.2.2.2.2.2.2.2.2.2.2.2.2.2.2.2.2.2.2.1 t3030.2.2.2.2.2.2.2.2.2.2.2.2.2.2.2.2.2.2.2.2.2.2.2.2.2.2.2.2.1 t3030.2.2.2.2.2.2.2.2.2.2.2.2.2.2.2.2.2.2.2.2.2.2.2.2.2.2.2.2.2 x3_9) else (some false)))) else (if t3002 = 2 then ((delay_Exchange_Sent.f x3_7_0 x3_7_1 x3_7_2 x3_7_3 x3_7_4 x3_7_5 x3_7_6 x3_10_1 x3_10_2).bind fun t3027 => ((carillonref17_X_Sent.f x3_8_0 x3_8_1 x3_8_2 x3_8_3 x3_8_4 x3_8_5 x3_8_6 x3_10_1 x3_10_2).bind fun t3033 => (if (t3027.1 == t3033.1) = true then (carillonlaw17_DelayPlays.j2 k lc1 y3_2 x3_3_0 x3_3_1 t3027.2.1 t3027.2.2.1 t3027.2.2.2.1 t3027.2.2.2.2.1 t3027.2.2.2.2.2.1 t3027.2.2.2.2.2.2.1 t3027.2.2.2.2.2.2.2 t3033.2.1 t3033.2.2.1 t3033.2.2.2.1 t3033.2.2.2.2.1 t3033.2.2.2.2.2.1 t3033.2.2.2.2.2.2.1 t3033.2.2.2.2.2.2.2 x3_9) else (some false)))) else (if t3002 = 5 then ((delay_Exchange_Clear.f x3_7_0 x3_7_1 x3_7_2 x3_7_3 x3_7_4 x3_7_5 x3_7_6).bind fun t3030 => ((carillonref17_X_Clear.f x3_8_0 x3_8_1 x3_8_2 x3_8_3 x3_8_4 x3_8_5 x3_8_6).bind fun t3038 => (carillonlaw17_DelayPlays.j2 k lc1 y3_2 x3_3_0 x3_3_1 t3030.1 t3030.2.1 t3030.2.2.1 t3030.2.2.2.1 t3030.2.2.2.2.1 t3030.2.2.2.2.2.1 t3030.2.2.2.2.2.2 t3038.1 t3038.2.1 t3038.2.2.1 t3038.2.2.2.1 t3038.2.2.2.2.1 t3038.2.2.2.2.2.1 t3038.2.2.2.2.2.2 x3_9))) else (if x3_10_26 = true then (carillonlaw17_DelayPlays.j4 k lc1 y3_2 x3_3_0 x3_3_1 x3_7_0 x3_7_1 x3_7_2 x3_7_3 x3_7_4 x3_7_5 x3_7_6 x3_8_0 x3_8_1 x3_8_2 x3_8_3 x3_8_4 x3_8_5 x3_8_6 x3_9 9 x3_10_4 x3_10_5 x3_10_6 x3_10_7 x3_10_8 x3_8_5 x3_10_10 x3_10_11 x3_3_0 x3_3_1 x3_10_14 x3_10_15 x3_10_16 x3_10_17 x3_10_18 x3_10_19 x3_10_20 x3_10_21 x3_10_22 x3_10_23 x3_10_24 x3_10_25) else (carillonlaw17_DelayPlays.j4 k lc1 y3_2 x3_3_0 x3_3_1 x3_7_0 x3_7_1 x3_7_2 x3_7_3 x3_7_4 x3_7_5 x3_7_6 x3_8_0 x3_8_1 x3_8_2 x3_8_3 x3_8_4 x3_8_5 x3_8_6 x3_9 x3_10_3 x3_10_4 x3_10_5 x3_10_6 x3_10_7 x3_10_8 x3_10_9 x3_10_10 x3_10_11 x3_10_12 x3_10_13 x3_10_14 x3_10_15 x3_10_16 x3_10_17 x3_10_18 x3_10_19 x3_10_20 x3_10_21 x3_10_22 x3_10_23 x3_10_24 x3_10_25)))))
def carillonlaw17_DelayPlays.l1 (k : Nat) : Nat → (List (S36)) → Int → Int → Int → Int → Int → Int → Int → Bool → Bool → Int → Int → Int → Bool → Bool → Int → Int → Int → Option (Bool)
  | 0, _, _, _, _, _, _, _, _, _, _, _, _, _, _, _, _, _, _ => none
  | n1 + 1, y1_2, x1_3_0, x1_3_1, x1_7_0, x1_7_1, x1_7_2, x1_7_3, x1_7_4, x1_7_5, x1_7_6, x1_8_0, x1_8_1, x1_8_2, x1_8_3, x1_8_4, x1_8_5, x1_8_6, x1_9 => if x1_9 < (y1_2.length : Int) then (if x1_9 < 60 then (if 0 ≤ x1_9 then ((delay_Answer.f ((rd_T36 y1_2 x1_9).f3.f0) ((rd_T36 y1_2 x1_9).f3.f1) ((rd_T36 y1_2 x1_9).f3.f2) ((rd_T36 y1_2 x1_9).f3.f3) ((rd_T36 y1_2 x1_9).f3.f4.f0) ((rd_T36 y1_2 x1_9).f3.f4.f1) ((rd_T36 y1_2 x1_9).f3.f5) ((rd_T36 y1_2 x1_9).f3.f6) ((rd_T36 y1_2 x1_9).f3.f7) ((rd_T36 y1_2 x1_9).f3.f8.f0) ((rd_T36 y1_2 x1_9).f3.f8.f1) ((rd_T36 y1_2 x1_9).f3.f9) ((rd_T36 y1_2 x1_9).f3.f10) ((rd_T36 y1_2 x1_9).f3.f11.f0) ((rd_T36 y1_2 x1_9).f3.f11.f1) ((rd_T36 y1_2 x1_9).f3.f11.f2) ((rd_T36 y1_2 x1_9).f3.f12) ((rd_T36 y1_2 x1_9).f3.f13) ((rd_T36 y1_2 x1_9).f3.f14) ((rd_T36 y1_2 x1_9).f3.f15) ((rd_T36 y1_2 x1_9).f3.f16) ((rd_T36 y1_2 x1_9).f3.f17) ((rd_T36 y1_2 x1_9).f3.f18) x1_3_0 x1_3_1 ((rd_T36 y1_2 x1_9).f2) ((rd_T36 y1_2 x1_9).f1)).bind fun t1015 => ((carillonref17_Answer.f ((rd_T36 y1_2 x1_9).f3.f0) ((rd_T36 y1_2 x1_9).f3.f1) ((rd_T36 y1_2 x1_9).f3.f2) ((rd_T36 y1_2 x1_9).f3.f3) ((rd_T36 y1_2 x1_9).f3.f4.f0) ((rd_T36 y1_2 x1_9).f3.f4.f1) ((rd_T36 y1_2 x1_9).f3.f5) ((rd_T36 y1_2 x1_9).f3.f6) ((rd_T36 y1_2 x1_9).f3.f7) ((rd_T36 y1_2 x1_9).f3.f8.f0) ((rd_T36 y1_2 x1_9).f3.f8.f1) ((rd_T36 y1_2 x1_9).f3.f9) ((rd_T36 y1_2 x1_9).f3.f10) ((rd_T36 y1_2 x1_9).f3.f11.f0) ((rd_T36 y1_2 x1_9).f3.f11.f1) ((rd_T36 y1_2 x1_9).f3.f11.f2) ((rd_T36 y1_2 x1_9).f3.f12) ((rd_T36 y1_2 x1_9).f3.f13) ((rd_T36 y1_2 x1_9).f3.f14) ((rd_T36 y1_2 x1_9).f3.f15) ((rd_T36 y1_2 x1_9).f3.f16) ((rd_T36 y1_2 x1_9).f3.f17) ((rd_T36 y1_2 x1_9).f3.f18) x1_3_0 x1_3_1 ((rd_T36 y1_2 x1_9).f2) ((rd_T36 y1_2 x1_9).f1)).bind fun t1027 => (if ((t1015.1 == t1027.1) && ((t1015.2.1 == t1027.2.1) && ((t1015.2.2.1 == t1027.2.2.1) && ((t1015.2.2.2.1 == t1027.2.2.2.1) && ((t1015.2.2.2.2.1 == t1027.2.2.2.2.1) && ((t1015.2.2.2.2.2.1 == t1027.2.2.2.2.2.1) && ((t1015.2.2.2.2.2.2.1 == t1027.2.2.2.2.2.2.1) && ((t1015.2.2.2.2.2.2.2.1 == t1027.2.2.2.2.2.2.2.1) && ((t1015.2.2.2.2.2.2.2.2.1 == t1027.2.2.2.2.2.2.2.2.1) && ((t1015.2.2.2.2.2.2.2.2.2.1 == t1027.2.2.2.2.2.2.2.2.2.1) && ((t1015.2.2.2.2.2.2.2.2.2.2.1 == t1027.2.2.2.2.2.2.2.2.2.2.1) && ((t1015.2.2.2.2.2.2.2.2.2.2.2.1 == t1027.2.2.2.2.2.2.2.2.2.2.2.1) && ((t1015.2.2.2.2.2.2.2.2.2.2.2.2.1 == t1027.2.2.2.2.2.2.2.2.2.2.2.2.1) && ((t1015.2.2.2.2.2.2.2.2.2.2.2.2.2.1 == t1027.2.2.2.2.2.2.2.2.2.2.2.2.2.1) && ((t1015.2.2.2.2.2.2.2.2.2.2.2.2.2.2.1 == t1027.2.2.2.2.2.2.2.2.2.2.2.2.2.2.1) && ((t1015.2.2.2.2.2.2.2.2.2.2.2.2.2.2.2.1 == t1027.2.2.2.2.2.2.2.2.2.2.2.2.2.2.2.1) && ((t1015.2.2.2.2.2.2.2.2.2.2.2.2.2.2.2.2.1 == t1027.2.2.2.2.2.2.2.2.2.2.2.2.2.2.2.2.1) && ((t1015.2.2.2.2.2.2.2.2.2.2.2.2.2.2.2.2.2.1 == t1027.2.2.2.2.2.2.2.2.2.2.2.2.2.2.2.2.2.1) && ((t1015.2.2.2.2.2.2.2.2.2.2.2.2.2.2.2.2.2.2.1 == t1027.2.2.2.2.2.2.2.2.2.2.2.2.2.2.2.2.2.2.1) && ((t1015.2.2.2.2.2.2.2.2.2.2.2.2.2.2.2.2.2.2.2.1 == t1027.2.2.2.2.2.2.2.2.2.2.2.2.2.2.2.2.2.2.2.1) && ((t1015.2.2.2.2.2.2.2.2.2.2.2.2.2.2.2.2.2.2.2.2.1 == t1027.2.2.2.2.2.2.2.2.2.2.2.2.2.2.2.2.2.2.2.2.1) && ((t1015.2.2.2.2.2.2.2.2.2.2.2.2.2.2.2.2.2.2.2.2.2.1 == t1027.2.2.2.2.2.2.2.2.2.2.2.2.2.2.2.2.2.2.2.2.2.1) && (t1015.2.2.2.2.2.2.2.2.2.2.2.2.2.2.2.2.2.2.2.2.2.2.1 == t1027.2.2.2.2.2.2.2.2.2.2.2.2.2.2.2.2.2.2.2.2.2.2.1))))))))))))))))))))))) = true then (if (t1015.2.2.2.2.2.2.2.2.2.2.2.2.2.2.2.2.2.2.2.2.2.2.2 == t1027.2.2.2.2.2.2.2.2.2.2.2.2.2.2.2.2.2.2.2.2.2.2.2) = true then (carillonlaw17_DelayPlays.j3 k (carillonlaw17_DelayPlays.l1 k n1) y1_2 x1_3_0 x1_3_1 x1_7_0 x1_7_1 x1_7_2 x1_7_3 x1_7_4 x1_7_5 x1_7_6 x1_8_0 x1_8_1 x1_8_2 x1_8_3 x1_8_4 x1_8_5 x1_8_6 x1_9 ((rd_T36 y1_2 x1_9).f0) ((rd_T36 y1_2 x1_9).f1) ((rd_T36 y1_2 x1_9).f2) ((rd_T36 y1_2 x1_9).f3.f0) ((rd_T36 y1_2 x1_9).f3.f1) ((rd_T36 y1_2 x1_9).f3.f2) ((rd_T36 y1_2 x1_9).f3.f3) ((rd_T36 y1_2 x1_9).f3.f4.f0) ((rd_T36 y1_2 x1_9).f3.f4.f1) ((rd_T36 y1_2 x1_9).f3.f5) ((rd_T36 y1_2 x1_9).f3.f6) ((rd_T36 y1_2 x1_9).f3.f7) ((rd_T36 y1_2 x1_9).f3.f8.f0) ((rd_T36 y1_2 x1_9).f3.f8.f1) ((rd_T36 y1_2 x1_9).f3.f9) ((rd_T36 y1_2 x1_9).f3.f10) ((rd_T36 y1_2 x1_9).f3.f11.f0) ((rd_T36 y1_2 x1_9).f3.f11.f1) ((rd_T36 y1_2 x1_9).f3.f11.f2) ((rd_T36 y1_2 x1_9).f3.f12) ((rd_T36 y1_2 x1_9).f3.f13) ((rd_T36 y1_2 x1_9).f3.f14) ((rd_T36 y1_2 x1_9).f3.f15) ((rd_T36 y1_2 x1_9).f3.f16) ((rd_T36 y1_2 x1_9).f3.f17) ((rd_T36 y1_2 x1_9).f3.f18) ((rd_T36 y1_2 x1_9).f4)) else (some false)) else (some false)))) else (none)) else ((carillonlaw17_awake.f ).bind fun t1006 => (some t1006))) else ((carillonlaw17_awake.f ).bind fun t1006 => (some t1006))
def carillonlaw17_DelayPlays.f (k : Nat) (a0_0 a0_1 a1 : Int) (l2 : List (S36)) : Option (Bool) := (delay_New.f a0_0 a0_1 a1).bind fun t6 => (carillonlaw17_DelayPlays.l1 k k l2 a0_0 a0_1 t6.1 t6.2.1 t6.2.2.1 t6.2.2.2.1 t6.2.2.2.2.1 t6.2.2.2.2.2.1 t6.2.2.2.2.2.2 a0_0 a0_1 a1 false false 0 0 0)
open Go.Proofs.Ytpfjpfbhgeoadaa.E in
set_option maxRecDepth 100000 in
theorem carillonlaw17_DelayPlays.neq34 (x y : Operand) (w : World) (a0 a1 a2 a3 a4 a5 a6 a7 a8 a9 a10 a11 a12 a13 a14 a15 a16 a17 a18 a19 a20 a21 a22 b0 b1 b2 b3 b4 b5 b6 b7 b8 b9 b10 b11 b12 b13 b14 b15 b16 b17 b18 b19 b20 b21 b22 : Int) : (do eqGuard .neq 34 x y (.agg #[.int .i64 a0, .int .i64 a1, .int .i64 a2, .int .i64 a3, .int .u64 a4, .int .i64 a5, .int .i64 a6, .int .i64 a7, .int .i64 a8, .int .u64 a9, .int .i64 a10, .int .i64 a11, .int .i64 a12, .int .i64 a13, .int .i64 a14, .int .i64 a15, .int .i64 a16, .int .u64 a17, .int .i64 a18, .int .i64 a19, .int .i64 a20, .int .i64 a21, .int .i64 a22]) (.agg #[.int .i64 b0, .int .i64 b1, .int .i64 b2, .int .i64 b3, .int .u64 b4, .int .i64 b5, .int .i64 b6, .int .i64 b7, .int .i64 b8, .int .u64 b9, .int .i64 b10, .int .i64 b11, .int .i64 b12, .int .i64 b13, .int .i64 b14, .int .i64 b15, .int .i64 b16, .int .u64 b17, .int .i64 b18, .int .i64 b19, .int .i64 b20, .int .i64 b21, .int .i64 b22]); binOp .neq 34 (.agg #[.int .i64 a0, .int .i64 a1, .int .i64 a2, .int .i64 a3, .int .u64 a4, .int .i64 a5, .int .i64 a6, .int .i64 a7, .int .i64 a8, .int .u64 a9, .int .i64 a10, .int .i64 a11, .int .i64 a12, .int .i64 a13, .int .i64 a14, .int .i64 a15, .int .i64 a16, .int .u64 a17, .int .i64 a18, .int .i64 a19, .int .i64 a20, .int .i64 a21, .int .i64 a22]) (.agg #[.int .i64 b0, .int .i64 b1, .int .i64 b2, .int .i64 b3, .int .u64 b4, .int .i64 b5, .int .i64 b6, .int .i64 b7, .int .i64 b8, .int .u64 b9, .int .i64 b10, .int .i64 b11, .int .i64 b12, .int .i64 b13, .int .i64 b14, .int .i64 b15, .int .i64 b16, .int .u64 b17, .int .i64 b18, .int .i64 b19, .int .i64 b20, .int .i64 b21, .int .i64 b22]) : Sem Value).run Try.prog w = .ok (.bool (!((a0 == b0) && ((a1 == b1) && ((a2 == b2) && ((a3 == b3) && ((a4 == b4) && ((a5 == b5) && ((a6 == b6) && ((a7 == b7) && ((a8 == b8) && ((a9 == b9) && ((a10 == b10) && ((a11 == b11) && ((a12 == b12) && ((a13 == b13) && ((a14 == b14) && ((a15 == b15) && ((a16 == b16) && ((a17 == b17) && ((a18 == b18) && ((a19 == b19) && ((a20 == b20) && ((a21 == b21) && (a22 == b22))))))))))))))))))))))))) w := by
  have hu3 := Try.underlying3
  have hu22 := Try.underlying22
  have hu24 := Try.underlying24
  have hu32 := Try.underlying32
  have hu34 := Try.underlying34
  conv => lhs; simp [eqGuard, go_sem, hu3, hu22, hu24, hu32, hu34]
  exact ite_nand (ite_nand (ite_nand (ite_nand (ite_nand (ite_nand (ite_nand (ite_nand (ite_nand (ite_nand (ite_nand (ite_nand (ite_nand (ite_nand (ite_nand (ite_nand (ite_nand (ite_nand (ite_nand (ite_nand (ite_nand (ite_nand (ite_nlast))))))))))))))))))))))
open Go.Proofs.Ytpfjpfbhgeoadaa.E in
theorem carillonlaw17_DelayPlays.flat36 : Flat k36 (fun x => [.int .i64 x.f0, .int .i64 x.f1, .int .i64 x.f2, .int .i64 x.f3.f0, .int .i64 x.f3.f1, .int .i64 x.f3.f2, .int .i64 x.f3.f3, .int .u64 x.f3.f4.f0, .int .i64 x.f3.f4.f1, .int .i64 x.f3.f5, .int .i64 x.f3.f6, .int .i64 x.f3.f7, .int .u64 x.f3.f8.f0, .int .i64 x.f3.f8.f1, .int .i64 x.f3.f9, .int .i64 x.f3.f10, .int .i64 x.f3.f11.f0, .int .i64 x.f3.f11.f1, .int .i64 x.f3.f11.f2, .int .i64 x.f3.f12, .int .u64 x.f3.f13, .int .i64 x.f3.f14, .int .i64 x.f3.f15, .int .i64 x.f3.f16, .int .i64 x.f3.f17, .int .i64 x.f3.f18, .bool x.f4]) := ⟨fun w x cs h => k36_open h, fun w base x => k36_mkM w base _ x⟩
abbrev carillonlaw17_DelayPlays.c0 (x0 x1 x2 x3 x4 : Int) (x5 x6 : Bool) : Array Value := #[.int .u64 x0, .int .i64 x1, .int .i64 x2, .int .i64 x3, .int .i64 x4, .bool x5, .bool x6]
abbrev carillonlaw17_DelayPlays.v1 (x0 x1 x2 : Int) (x3 x4 : Bool) (x5 x6 : Int) : Value := .agg #[.int .u64 x0, .int .i64 x1, .int .i64 x2, .bool x3, .bool x4, .int .i64 x5, .int .i64 x6]
abbrev carillonlaw17_DelayPlays.c2 (x0 x1 x2 : Int) (x3 x4 : Bool) (x5 x6 : Int) : Array Value := #[.int .u64 x0, .int .i64 x1, .int .i64 x2, .bool x3, .bool x4, .int .i64 x5, .int .i64 x6]
abbrev carillonlaw17_DelayPlays.v3 (x0 x1 x2 x3 x4 x5 x6 x7 x8 x9 x10 x11 x12 x13 x14 x15 x16 x17 x18 x19 x20 x21 x22 x23 x24 x25 : Int) (x26 : Bool) : Value := .agg #[.int .i64 x0, .int .i64 x1, .int .i64 x2, .int .i64 x3, .int .i64 x4, .int .i64 x5, .int .i64 x6, .int .u64 x7, .int .i64 x8, .int .i64 x9, .int .i64 x10, .int .i64 x11, .int .u64 x12, .int .i64 x13, .int .i64 x14, .int .i64 x15, .int .i64 x16, .int .i64 x17, .int .i64 x18, .int .i64 x19, .int .u64 x20, .int .i64 x21, .int .i64 x22, .int .i64 x23, .int .i64 x24, .int .i64 x25, .bool x26]
abbrev carillonlaw17_DelayPlays.c4 (x0 x1 x2 x3 x4 x5 x6 x7 x8 x9 x10 x11 x12 x13 x14 x15 x16 x17 x18 x19 x20 x21 x22 x23 x24 x25 : Int) (x26 : Bool) : Array Value := #[.int .i64 x0, .int .i64 x1, .int .i64 x2, .int .i64 x3, .int .i64 x4, .int .i64 x5, .int .i64 x6, .int .u64 x7, .int .i64 x8, .int .i64 x9, .int .i64 x10, .int .i64 x11, .int .u64 x12, .int .i64 x13, .int .i64 x14, .int .i64 x15, .int .i64 x16, .int .i64 x17, .int .i64 x18, .int .i64 x19, .int .u64 x20, .int .i64 x21, .int .i64 x22, .int .i64 x23, .int .i64 x24, .int .i64 x25, .bool x26]
abbrev carillonlaw17_DelayPlays.v5 (x0 x1 x2 x3 x4 x5 x6 x7 x8 x9 x10 x11 x12 x13 x14 x15 x16 x17 x18 x19 x20 x21 x22 : Int) : Value := .agg #[.int .i64 x0, .int .i64 x1, .int .i64 x2, .int .i64 x3, .int .u64 x4, .int .i64 x5, .int .i64 x6, .int .i64 x7, .int .i64 x8, .int .u64 x9, .int .i64 x10, .int .i64 x11, .int .i64 x12, .int .i64 x13, .int .i64 x14, .int .i64 x15, .int .i64 x16, .int .u64 x17, .int .i64 x18, .int .i64 x19, .int .i64 x20, .int .i64 x21, .int .i64 x22]
abbrev carillonlaw17_DelayPlays.c6 (x0 x1 x2 x3 x4 x5 x6 x7 x8 x9 x10 x11 x12 x13 x14 x15 x16 x17 x18 x19 x20 x21 x22 : Int) : Array Value := #[.int .i64 x0, .int .i64 x1, .int .i64 x2, .int .i64 x3, .int .u64 x4, .int .i64 x5, .int .i64 x6, .int .i64 x7, .int .i64 x8, .int .u64 x9, .int .i64 x10, .int .i64 x11, .int .i64 x12, .int .i64 x13, .int .i64 x14, .int .i64 x15, .int .i64 x16, .int .u64 x17, .int .i64 x18, .int .i64 x19, .int .i64 x20, .int .i64 x21, .int .i64 x22]
open Go.Proofs.Ytpfjpfbhgeoadaa.E in
set_option maxHeartbeats 60000000 in
set_option maxRecDepth 100000 in
theorem carillonlaw17_DelayPlays.calls (k : Nat) (a0_0 a0_1 a1 : Int) (A2 : Option Addr) (cp2 : Nat) (l2 : List (S36)) (w : World) (HR2 : Kd.C k36 w A2 l2.length l2) (HC2 : l2.length ≤ cp2) (h : carillonlaw17_DelayPlays.f k a0_0 a0_1 a1 l2 = some true) :
    Calls Try.prog 3 #[.agg #[.int .u64 a0_0, .int .i64 a0_1], .int .i64 a1, .slice A2 l2.length cp2] w fun e w' => e = .returned (.bool true) ∧ Below w.heap.size w w' := by
  have H := h
  clear h
  unfold carillonlaw17_DelayPlays.f at H
  obtain ⟨t6, At6, H⟩ := Option.bind_eq_some_iff.mp H
  obtain ⟨t6_1, t6_2, t6_3, t6_4, t6_5, t6_6, t6_7⟩ := t6
  (try dsimp only at H)
  refine calls_of_wp (fn := Try.f3) (by kernel_rfl) rfl ?_
  have hS := St.enter #[.agg #[.int .u64 a0_0, .int .i64 a0_1], .int .i64 a1, .slice A2 l2.length cp2] 144 (by simp) [(0, .agg #[.int .u64 a0_0, .int .i64 a0_1]), (1, .int .i64 a1), (2, .slice A2 l2.length cp2)] (by simp)
  have HB0 := Below.refl w.heap.size w
  refine wp_seq_k (fun K1 hK1 => ?_)
  refine reg_seq (N := 144) (bs := [(0, .agg #[.int .u64 a0_0, .int .i64 a0_1]), (1, .int .i64 a1), (2, .slice A2 l2.length cp2)]) (I := fun x => Below w.heap.size w x) (ps := [IsB #[.int .u64 a0_0, .int .i64 a0_1] 24 w.heap.size, VB false]) (by kernel_rfl) ?_ ?_ rfl hS HB0 ?_ ?_
  · exact fun x y hI hb => below_step hI hb
  · exact .cons (Stays.b _ _ _) (.v (.nil))
  · refine .on rfl (fun a w hS hI hp => does_var (x_box rfl (congrArg Value.cells (hS.get 0 rfl))) (hI).size) ?_
    refine .on rfl (fun a w hS hI hp => does_val (x_assign rfl (rfl)) rfl) ?_
    exact .nil
  clear hS
  intro at2 w3 hS hI hp
  have hBw3_w := hI
  replace hS := ((hS.nil).cons (hS.get 2 rfl)).cons (hS.get 1 rfl)
  obtain ⟨g4, hv3, hgeg4, hbxg4⟩ := (show IsB _ 24 _ (sl _ 3) _ from hp 0 (by decide))
  have hBw3_w3 := Below.refl w3.heap.size w3
  have hS := hS.cons hv3
  clear hp hI hv3
  refine hK1 _ _ ?_
  (try clear hK1 K1)
  refine wp_seq_k (fun K5 hK5 => ?_)
  refine reg_seq (N := 144) (bs := [(3, .pointer (some ⟨g4, 0, none⟩)), (1, .int .i64 a1), (2, .slice A2 l2.length cp2)]) (I := fun x => Below w.heap.size w x ∧ Below w3.heap.size w3 x) (ps := [IsV (.agg #[.int .u64 a0_0, .int .i64 a0_1]), VI a1, IsB (carillonlaw17_DelayPlays.c0 t6_1 t6_2 t6_3 t6_4 t6_5 t6_6 t6_7) 54 w3.heap.size, IsB (carillonlaw17_DelayPlays.c0 t6_1 t6_2 t6_3 t6_4 t6_5 t6_6 t6_7) 54 w3.heap.size]) (by kernel_rfl) ?_ ?_ rfl hS ⟨hBw3_w, hBw3_w3⟩ ?_ ?_
  · exact fun x y hI hb => ⟨below_step hI.1 hb, below_step hI.2 hb⟩
  · exact .v (.v (.cons (Stays.b _ _ _) (.cons (Stays.b _ _ _) (.nil))))
  · refine .on rfl (fun a w hS hI hp => does_loadrow rfl (hS.get 0 rfl) (((hI.2).block g4 (blk_lt hbxg4)).trans hbxg4) Try.underlying24 rfl (by kernel_rfl) rfl) ?_
    refine .ms 1 rfl rfl rfl ?_
    refine .on rfl (fun a w hS hI hp => does_call (by kernel_rfl) (ar2 (hp.V 0 rfl rfl) (hp.V 1 rfl rfl)) ((delay_New.calls a0_0 a0_1 a1 t6_1 t6_2 t6_3 t6_4 t6_5 t6_6 t6_7 _  At6).mono fun _ _ h => h.elim fun g_ h => ⟨_, h.1, h.2.2.2, g_, rfl, Nat.le_trans hI.2.size h.2.1, h.2.2.1⟩)) ?_
    refine .on rfl (fun a w hS hI hp => does_val (x_assign rfl rfl) (hp.V 2 rfl rfl)) ?_
    exact .nil
  clear hS
  intro at7 w8 hS hI hp
  have hBw8_w := hI.1
  have hBw8_w3 := hI.2
  obtain ⟨g9, hv7, hgeg9, hbxg9⟩ := (show IsB _ 54 _ (sl _ 7) _ from hp 3 (by decide))
  have hne10 : g9 ≠ g4 := Nat.ne_of_gt (Nat.lt_of_lt_of_le (blk_lt ((hBw3_w3.block g4 (blk_lt hbxg4)).trans hbxg4)) hgeg9)
  have hBw8_w8 := Below.refl w8.heap.size w8
  have hS := hS.cons hv7
  clear hp hI hv7
  refine hK5 _ _ ?_
  (try clear hK5 K5)
  refine wp_seq_k (fun K11 hK11 => ?_)
  refine reg_seq (N := 144) (bs := [(7, .pointer (some ⟨g9, 0, none⟩)), (3, .pointer (some ⟨g4, 0, none⟩)), (1, .int .i64 a1), (2, .slice A2 l2.length cp2)]) (I := fun x => Below w.heap.size w x ∧ Below w3.heap.size w3 x ∧ Below w8.heap.size w8 x) (ps := [IsV (.agg #[.int .u64 a0_0, .int .i64 a0_1]), VI a1, IsV ((carillonlaw17_DelayPlays.v1 a0_0 a0_1 a1 false false 0 0)), IsB (carillonlaw17_DelayPlays.c2 a0_0 a0_1 a1 false false 0 0) 30 w8.heap.size, IsB (carillonlaw17_DelayPlays.c2 a0_0 a0_1 a1 false false 0 0) 30 w8.heap.size]) (by kernel_rfl) ?_ ?_ rfl hS ⟨hBw8_w, hBw8_w3, hBw8_w8⟩ ?_ ?_
  · exact fun x y hI hb => ⟨below_step hI.1 hb, below_step hI.2.1 hb, below_step hI.2.2 hb⟩
  · exact .v (.v (.v (.cons (Stays.b _ _ _) (.cons (Stays.b _ _ _) (.nil)))))
  · refine .on rfl (fun a w hS hI hp => does_loadrow rfl (hS.get 1 rfl) (((hI.2.1).block g4 (blk_lt hbxg4)).trans hbxg4) Try.underlying24 rfl (by kernel_rfl) rfl) ?_
    refine .ms 2 rfl rfl rfl ?_
    refine .on rfl (fun a w hS hI hp => does_val (x_build (vs := [(0, .agg #[.int .u64 a0_0, .int .i64 a0_1]), (1, .int .i64 a1)]) rfl (by rw [Array.toList_map]; exact (show [(0, a.eval (.tmp 23)), (1, a.eval (.tmp 24))] = _ from (li_cons (hp.V 0 rfl rfl) (li_cons (hp.V 1 rfl rfl) rfl)))) (by kernel_rfl)) rfl) ?_
    refine .on rfl (fun a w hS hI hp => does_var (x_box rfl (congrArg Value.cells (hp.V 2 rfl rfl))) (hI.2.2).size) ?_
    refine .on rfl (fun a w hS hI hp => does_val (x_assign rfl rfl) (hp.V 3 rfl rfl)) ?_
    exact .nil
  clear hS
  intro at12 w13 hS hI hp
  have hBw13_w := hI.1
  have hBw13_w3 := hI.2.1
  have hBw13_w8 := hI.2.2
  replace hS := (((hS.nil).cons (hS.get 3 rfl)).cons (hS.get 1 rfl)).cons (hS.get 0 rfl)
  obtain ⟨g14, hv8, hgeg14, hbxg14⟩ := (show IsB _ 30 _ (sl _ 8) _ from hp 4 (by decide))
  have hne15 : g14 ≠ g4 := Nat.ne_of_gt (Nat.lt_of_lt_of_le (blk_lt ((hBw8_w3.block g4 (blk_lt hbxg4)).trans hbxg4)) hgeg14)
  have hne16 : g14 ≠ g9 := Nat.ne_of_gt (Nat.lt_of_lt_of_le (blk_lt ((hBw8_w8.block g9 (blk_lt hbxg9)).trans hbxg9)) hgeg14)
  have hBw13_w13 := Below.refl w13.heap.size w13
  have hS := hS.cons hv8
  clear hp hI hv8
  refine hK11 _ _ ?_
  (try clear hK11 K11)
  refine wp_seq_k (fun K17 hK17 => ?_)
  refine wp_seq_k (fun K18 hK18 => ?_)
  refine reg_seq (N := 144) (bs := [(8, .pointer (some ⟨g14, 0, none⟩)), (7, .pointer (some ⟨g9, 0, none⟩)), (3, .pointer (some ⟨g4, 0, none⟩)), (2, .slice A2 l2.length cp2)]) (I := fun x => Below w.heap.size w x ∧ Below w3.heap.size w3 x ∧ Below w8.heap.size w8 x ∧ Below w13.heap.size w13 x) (ps := [VP g9 0, VB false]) (by kernel_rfl) ?_ ?_ rfl hS ⟨hBw13_w, hBw13_w3, hBw13_w8, hBw13_w13⟩ ?_ ?_
  · exact fun x y hI hb => ⟨below_step hI.1 hb, below_step hI.2.1 hb, below_step hI.2.2.1 hb, below_step hI.2.2.2 hb⟩
  · exact .v (.v (.nil))
  · refine .ms 1 rfl rfl rfl ?_
    refine .on rfl (fun a w hS hI hp => does_val (x_bin rfl (hp.V 0 rfl rfl) (rfl) (b_eqp 26 54 _ _ _ Try.underlying26)) rfl) ?_
    exact .nil
  clear hS
  intro at19 w20 hS hI hp
  have hBw20_w := hI.1
  have hBw20_w3 := hI.2.1
  have hBw20_w8 := hI.2.2.1
  have hBw20_w13 := hI.2.2.2
  have hv28 : sl _ 28 = .bool false := hp 1 (by decide)
  have hBw20_w20 := Below.refl w20.heap.size w20
  have hS := hS.cons hv28
  clear hp hI hv28
  refine hK18 _ _ ?_
  (try clear hK18 K18)
  refine wp_cond_false ((hS.get 0 rfl).trans (bF rfl)) ?_
  refine wp_skip ?_
  refine hK17 _ _ ?_
  (try clear hK17 K17)
  refine wp_seq_k (fun K21 hK21 => ?_)
  refine wp_seq_k (fun K22 hK22 => ?_)
  refine reg_seq (N := 144) (bs := [(28, .bool false), (8, .pointer (some ⟨g14, 0, none⟩)), (7, .pointer (some ⟨g9, 0, none⟩)), (3, .pointer (some ⟨g4, 0, none⟩)), (2, .slice A2 l2.length cp2)]) (I := fun x => Below w.heap.size w x ∧ Below w3.heap.size w3 x ∧ Below w8.heap.size w8 x ∧ Below w13.heap.size w13 x ∧ Below w20.heap.size w20 x) (ps := [VI 0]) (by kernel_rfl) ?_ ?_ rfl hS ⟨hBw20_w, hBw20_w3, hBw20_w8, hBw20_w13, hBw20_w20⟩ ?_ ?_
  · exact fun x y hI hb => ⟨below_step hI.1 hb, below_step hI.2.1 hb, below_step hI.2.2.1 hb, below_step hI.2.2.2.1 hb, below_step hI.2.2.2.2 hb⟩
  · exact .v (.nil)
  · refine .on rfl (fun a w hS hI hp => does_val (x_assign rfl (rfl)) rfl) ?_
    exact .nil
  clear hS
  intro at23 w24 hS hI hp
  have hBw24_w := hI.1
  have hBw24_w3 := hI.2.1
  have hBw24_w8 := hI.2.2.1
  have hBw24_w13 := hI.2.2.2.1
  have hBw24_w20 := hI.2.2.2.2
  replace hS := ((((hS.nil).cons (hS.get 4 rfl)).cons (hS.get 3 rfl)).cons (hS.get 2 rfl)).cons (hS.get 1 rfl)
  have hv9 : sl _ 9 = .int .i64 0 := hp 0 (by decide)
  have hBw24_w24 := Below.refl w24.heap.size w24
  have hS := hS.cons hv9
  clear hp hI hv9
  refine hK22 _ _ ?_
  (try clear hK22 K22)
  refine wp_block ?_
  replace hS := (((((hS.nil).cons (hS.get 0 rfl)).cons (hS.get 1 rfl)).cons (hS.get 2 rfl)).cons (hS.get 3 rfl)).cons (hS.get 4 rfl)
  refine wp_loop_ghost (fun n_ a_ wL1 => ∃ (y1_2 : List (S36)) (AL1_2 : Option Addr) (CL1_2 : Nat) (x1_3_0 x1_3_1 : Int) (gL1_3 : Nat) (x1_7_0 x1_7_1 x1_7_2 x1_7_3 x1_7_4 : Int) (x1_7_5 x1_7_6 : Bool) (gL1_7 : Nat) (x1_8_0 x1_8_1 x1_8_2 : Int) (x1_8_3 x1_8_4 : Bool) (x1_8_5 x1_8_6 : Int) (gL1_8 : Nat) (x1_9 : Int), carillonlaw17_DelayPlays.l1 k n_ y1_2 x1_3_0 x1_3_1 x1_7_0 x1_7_1 x1_7_2 x1_7_3 x1_7_4 x1_7_5 x1_7_6 x1_8_0 x1_8_1 x1_8_2 x1_8_3 x1_8_4 x1_8_5 x1_8_6 x1_9 = some true ∧ St 144 [(2, .slice AL1_2 y1_2.length CL1_2), (3, .pointer (some ⟨gL1_3, 0, none⟩)), (7, .pointer (some ⟨gL1_7, 0, none⟩)), (8, .pointer (some ⟨gL1_8, 0, none⟩)), (9, .int .i64 x1_9)] a_ ∧ Below w.heap.size w wL1 ∧ y1_2.length ≤ CL1_2 ∧ Kd.C k36 w AL1_2 y1_2.length y1_2 ∧ w.heap.size ≤ gL1_3 ∧ wL1.heap[gL1_3]? = some (.cells #[.int .u64 x1_3_0, .int .i64 x1_3_1] 24 (0, 0)) ∧ w.heap.size ≤ gL1_7 ∧ wL1.heap[gL1_7]? = some (.cells (carillonlaw17_DelayPlays.c0 x1_7_0 x1_7_1 x1_7_2 x1_7_3 x1_7_4 x1_7_5 x1_7_6) 54 (0, 0)) ∧ w.heap.size ≤ gL1_8 ∧ wL1.heap[gL1_8]? = some (.cells (carillonlaw17_DelayPlays.c2 x1_8_0 x1_8_1 x1_8_2 x1_8_3 x1_8_4 x1_8_5 x1_8_6) 30 (0, 0)) ∧ gL1_7 ≠ gL1_3 ∧ gL1_8 ≠ gL1_3 ∧ gL1_8 ≠ gL1_7) k ⟨l2, A2, cp2, a0_0, a0_1, g4, t6_1, t6_2, t6_3, t6_4, t6_5, t6_6, t6_7, g9, a0_0, a0_1, a1, false, false, 0, 0, g14, 0, H, hS, hBw24_w, HC2, (HR2), hgeg4, ((hBw24_w3.block g4 (blk_lt hbxg4)).trans hbxg4), (Nat.le_trans (hBw3_w).size hgeg9), ((hBw24_w8.block g9 (blk_lt hbxg9)).trans hbxg9), (Nat.le_trans (hBw8_w).size hgeg14), ((hBw24_w13.block g14 (blk_lt hbxg14)).trans hbxg14), hne10, hne15, hne16⟩ ?_
  clear H hS
  rintro n1 aL1 wL1 ⟨y1_2, AL1_2, CL1_2, x1_3_0, x1_3_1, gL1_3, x1_7_0, x1_7_1, x1_7_2, x1_7_3, x1_7_4, x1_7_5, x1_7_6, gL1_7, x1_8_0, x1_8_1, x1_8_2, x1_8_3, x1_8_4, x1_8_5, x1_8_6, gL1_8, x1_9, H, hS, hBwL1_w, hr1_2, hcL1_2, hgeLgL1_3, hbxLgL1_3, hgeLgL1_7, hbxLgL1_7, hgeLgL1_8, hbxLgL1_8, hneL1_7_3, hneL1_8_3, hneL1_8_7⟩
  rcases n1 with _ | n1
  · exact absurd H (by simp [carillonlaw17_DelayPlays.l1])
  rw [carillonlaw17_DelayPlays.l1] at H
  (try dsimp only at H)
  by_cases c1 : x1_9 < (y1_2.length : Int)
  rotate_left
  · rw [if_neg c1] at H
    obtain ⟨t1006, At1006, H⟩ := Option.bind_eq_some_iff.mp H
    have hret := Option.some.inj H
    clear H
    have hBwL1_wL1 := Below.refl wL1.heap.size wL1
    refine wp_seq_k (fun K1001 hK1001 => ?_)
    refine wp_seq_k (fun K1002 hK1002 => ?_)
    refine reg_seq (N := 144) (bs := [(2, .slice AL1_2 y1_2.length CL1_2), (3, .pointer (some ⟨gL1_3, 0, none⟩)), (7, .pointer (some ⟨gL1_7, 0, none⟩)), (8, .pointer (some ⟨gL1_8, 0, none⟩)), (9, .int .i64 x1_9)]) (I := fun x => Below w.heap.size w x ∧ Below wL1.heap.size wL1 x) (ps := [VI x1_9, IsV (.slice AL1_2 y1_2.length CL1_2), VI (y1_2.length : Int), VB (decide (x1_9 < (y1_2.length : Int))), VB (decide (x1_9 < (y1_2.length : Int))), VU, VU, VB false]) (by kernel_rfl) ?_ ?_ rfl hS ⟨hBwL1_w, hBwL1_wL1⟩ ?_ ?_
    · exact fun x y hI hb => ⟨below_step hI.1 hb, below_step hI.2 hb⟩
    · exact .v (.v (.v (.v (.v (.v (.v (.v (.nil))))))))
    · refine .ms 4 rfl rfl rfl ?_
      refine .ms 0 rfl rfl rfl ?_
      refine .on rfl (fun a w hS hI hp => does_val (x_len (e := 36) rfl (by kernel_rfl) (hp.V 1 rfl rfl)) rfl) ?_
      refine .on rfl (fun a w hS hI hp => does_val (x_bin rfl (hp.V 0 rfl rfl) (hp.V 2 rfl rfl) (b_lss _ _ _ _ _ _)) rfl) ?_
      refine .mv 3 rfl rfl rfl rfl ?_
      iterate 2 refine .sn 4 33 rfl rfl rfl rfl rfl ((decide_eq_false c1)) ?_
      refine .pf 4 rfl rfl rfl rfl ((decide_eq_false c1)) (fun _ => rfl) ?_
      exact .nil
    clear hS
    intro at1003 w1004 hS hI hp
    have hBw1004_w := hI.1
    have hBw1004_wL1 := hI.2
    have hv36 : sl _ 36 = .bool false := hp 7 (by decide)
    have hBw1004_w1004 := Below.refl w1004.heap.size w1004
    have hS := hS.cons hv36
    clear hp hI hv36
    refine hK1002 _ _ ?_
    (try clear hK1002 K1002)
    refine wp_cond_false ((hS.get 0 rfl).trans (bF rfl)) ?_
    refine wp_exit ?_
    (try simp only [Exit.then, Exit.inBlock, reduceIte])
    refine hK21 _ _ ?_
    (try clear hK21 K21)
    refine wp_seq_k (fun K1005 hK1005 => ?_)
    refine reg_seq (N := 144) (bs := [(36, .bool false), (2, .slice AL1_2 y1_2.length CL1_2), (3, .pointer (some ⟨gL1_3, 0, none⟩)), (7, .pointer (some ⟨gL1_7, 0, none⟩)), (8, .pointer (some ⟨gL1_8, 0, none⟩)), (9, .int .i64 x1_9)]) (I := fun x => Below w.heap.size w x ∧ Below wL1.heap.size wL1 x ∧ Below w1004.heap.size w1004 x) (ps := [VB t1006, VB t1006]) (by kernel_rfl) ?_ ?_ rfl hS ⟨hBw1004_w, hBw1004_wL1, hBw1004_w1004⟩ ?_ ?_
    · exact fun x y hI hb => ⟨below_step hI.1 hb, below_step hI.2.1 hb, below_step hI.2.2 hb⟩
    · exact .v (.v (.nil))
    · refine .on rfl (fun a w hS hI hp => does_call (by kernel_rfl) rfl ((carillonlaw17_awake.calls  t1006 _  At1006).mono fun _ _ h => ⟨_, h.1, h.2, rfl⟩)) ?_
      refine .asg 0 rfl rfl rfl rfl ?_
      exact .nil
    clear hS
    intro at1007 w1008 hS hI hp
    have hBw1008_w := hI.1
    have hBw1008_wL1 := hI.2.1
    have hBw1008_w1004 := hI.2.2
    replace hS := hS.nil
    have hv6 : sl _ 6 = .bool t1006 := hp 1 (by decide)
    have hBw1008_w1008 := Below.refl w1008.heap.size w1008
    have hS := hS.cons hv6
    clear hp hI hv6
    refine hK1005 _ _ ?_
    (try clear hK1005 K1005)
    refine wp_ret ?_
    (try simp only [Exit.then, Exit.inBlock, Exit.jump, Exit.noGoto])
    exact bodyPost_ret (v := .bool true) (by rw [results_tmp rfl]; exact congrArg (Result.ok · _) ((hS.get 0 rfl).trans (congrArg Value.bool hret))) hS.nodef ⟨rfl, hBw1008_w⟩
  rw [if_pos c1] at H
  by_cases c2 : x1_9 < 60
  rotate_left
  · rw [if_neg c2] at H
    obtain ⟨t1006, At1006, H⟩ := Option.bind_eq_some_iff.mp H
    have hret := Option.some.inj H
    clear H
    have hBwL1_wL1 := Below.refl wL1.heap.size wL1
    refine wp_seq_k (fun K1001 hK1001 => ?_)
    refine wp_seq_k (fun K1002 hK1002 => ?_)
    refine reg_seq (N := 144) (bs := [(2, .slice AL1_2 y1_2.length CL1_2), (3, .pointer (some ⟨gL1_3, 0, none⟩)), (7, .pointer (some ⟨gL1_7, 0, none⟩)), (8, .pointer (some ⟨gL1_8, 0, none⟩)), (9, .int .i64 x1_9)]) (I := fun x => Below w.heap.size w x ∧ Below wL1.heap.size wL1 x) (ps := [VI x1_9, IsV (.slice AL1_2 y1_2.length CL1_2), VI (y1_2.length : Int), VB (decide (x1_9 < (y1_2.length : Int))), VB (decide (x1_9 < (y1_2.length : Int))), VI x1_9, VB (decide (x1_9 < 60)), VB (decide (x1_9 < 60))]) (by kernel_rfl) ?_ ?_ rfl hS ⟨hBwL1_w, hBwL1_wL1⟩ ?_ ?_
    · exact fun x y hI hb => ⟨below_step hI.1 hb, below_step hI.2 hb⟩
    · exact .v (.v (.v (.v (.v (.v (.v (.v (.nil))))))))
    · refine .ms 4 rfl rfl rfl ?_
      refine .ms 0 rfl rfl rfl ?_
      refine .on rfl (fun a w hS hI hp => does_val (x_len (e := 36) rfl (by kernel_rfl) (hp.V 1 rfl rfl)) rfl) ?_
      refine .on rfl (fun a w hS hI hp => does_val (x_bin rfl (hp.V 0 rfl rfl) (hp.V 2 rfl rfl) (b_lss _ _ _ _ _ _)) rfl) ?_
      refine .mv 3 rfl rfl rfl rfl ?_
      refine .oy 4 33 rfl rfl rfl rfl rfl ((decide_eq_true c1)) (fun a w hS hI hp => does_val (x_move rfl (hS.get 4 rfl)) rfl) ?_
      refine .oy 4 33 rfl rfl rfl rfl rfl ((decide_eq_true c1)) (fun a w hS hI hp => does_val (x_bin rfl (hp.V 5 rfl rfl) (rfl) (b_lss _ _ _ _ _ _)) rfl) ?_
      refine .pt 4 6 rfl rfl rfl rfl ((decide_eq_true c1)) rfl rfl ?_
      exact .nil
    clear hS
    intro at1003 w1004 hS hI hp
    have hBw1004_w := hI.1
    have hBw1004_wL1 := hI.2
    have hv36 : sl _ 36 = .bool (decide (x1_9 < 60)) := hp 7 (by decide)
    have hBw1004_w1004 := Below.refl w1004.heap.size w1004
    have hS := hS.cons hv36
    clear hp hI hv36
    refine hK1002 _ _ ?_
    (try clear hK1002 K1002)
    refine wp_cond_false ((hS.get 0 rfl).trans (bF (decide_eq_false c2))) ?_
    refine wp_exit ?_
    (try simp only [Exit.then, Exit.inBlock, reduceIte])
    refine hK21 _ _ ?_
    (try clear hK21 K21)
    refine wp_seq_k (fun K1005 hK1005 => ?_)
    refine reg_seq (N := 144) (bs := [(36, .bool (decide (x1_9 < 60))), (2, .slice AL1_2 y1_2.length CL1_2), (3, .pointer (some ⟨gL1_3, 0, none⟩)), (7, .pointer (some ⟨gL1_7, 0, none⟩)), (8, .pointer (some ⟨gL1_8, 0, none⟩)), (9, .int .i64 x1_9)]) (I := fun x => Below w.heap.size w x ∧ Below wL1.heap.size wL1 x ∧ Below w1004.heap.size w1004 x) (ps := [VB t1006, VB t1006]) (by kernel_rfl) ?_ ?_ rfl hS ⟨hBw1004_w, hBw1004_wL1, hBw1004_w1004⟩ ?_ ?_
    · exact fun x y hI hb => ⟨below_step hI.1 hb, below_step hI.2.1 hb, below_step hI.2.2 hb⟩
    · exact .v (.v (.nil))
    · refine .on rfl (fun a w hS hI hp => does_call (by kernel_rfl) rfl ((carillonlaw17_awake.calls  t1006 _  At1006).mono fun _ _ h => ⟨_, h.1, h.2, rfl⟩)) ?_
      refine .asg 0 rfl rfl rfl rfl ?_
      exact .nil
    clear hS
    intro at1007 w1008 hS hI hp
    have hBw1008_w := hI.1
    have hBw1008_wL1 := hI.2.1
    have hBw1008_w1004 := hI.2.2
    replace hS := hS.nil
    have hv6 : sl _ 6 = .bool t1006 := hp 1 (by decide)
    have hBw1008_w1008 := Below.refl w1008.heap.size w1008
    have hS := hS.cons hv6
    clear hp hI hv6
    refine hK1005 _ _ ?_
    (try clear hK1005 K1005)
    refine wp_ret ?_
    (try simp only [Exit.then, Exit.inBlock, Exit.jump, Exit.noGoto])
    exact bodyPost_ret (v := .bool true) (by rw [results_tmp rfl]; exact congrArg (Result.ok · _) ((hS.get 0 rfl).trans (congrArg Value.bool hret))) hS.nodef ⟨rfl, hBw1008_w⟩
  rw [if_pos c2] at H
  have hBwL1_wL1 := Below.refl wL1.heap.size wL1
  refine wp_seq_k (fun K1001 hK1001 => ?_)
  refine wp_seq_k (fun K1002 hK1002 => ?_)
  refine reg_seq (N := 144) (bs := [(2, .slice AL1_2 y1_2.length CL1_2), (3, .pointer (some ⟨gL1_3, 0, none⟩)), (7, .pointer (some ⟨gL1_7, 0, none⟩)), (8, .pointer (some ⟨gL1_8, 0, none⟩)), (9, .int .i64 x1_9)]) (I := fun x => Below w.heap.size w x ∧ Below wL1.heap.size wL1 x) (ps := [VI x1_9, IsV (.slice AL1_2 y1_2.length CL1_2), VI (y1_2.length : Int), VB (decide (x1_9 < (y1_2.length : Int))), VB (decide (x1_9 < (y1_2.length : Int))), VI x1_9, VB (decide (x1_9 < 60)), VB (decide (x1_9 < 60))]) (by kernel_rfl) ?_ ?_ rfl hS ⟨hBwL1_w, hBwL1_wL1⟩ ?_ ?_
  · exact fun x y hI hb => ⟨below_step hI.1 hb, below_step hI.2 hb⟩
  · exact .v (.v (.v (.v (.v (.v (.v (.v (.nil))))))))
  · refine .ms 4 rfl rfl rfl ?_
    refine .ms 0 rfl rfl rfl ?_
    refine .on rfl (fun a w hS hI hp => does_val (x_len (e := 36) rfl (by kernel_rfl) (hp.V 1 rfl rfl)) rfl) ?_
    refine .on rfl (fun a w hS hI hp => does_val (x_bin rfl (hp.V 0 rfl rfl) (hp.V 2 rfl rfl) (b_lss _ _ _ _ _ _)) rfl) ?_
    refine .mv 3 rfl rfl rfl rfl ?_
    refine .oy 4 33 rfl rfl rfl rfl rfl ((decide_eq_true c1)) (fun a w hS hI hp => does_val (x_move rfl (hS.get 4 rfl)) rfl) ?_
    refine .oy 4 33 rfl rfl rfl rfl rfl ((decide_eq_true c1)) (fun a w hS hI hp => does_val (x_bin rfl (hp.V 5 rfl rfl) (rfl) (b_lss _ _ _ _ _ _)) rfl) ?_
    refine .pt 4 6 rfl rfl rfl rfl ((decide_eq_true c1)) rfl rfl ?_
    exact .nil
  clear hS
  intro at1003 w1004 hS hI hp
  have hBw1004_w := hI.1
  have hBw1004_wL1 := hI.2
  have hv36 : sl _ 36 = .bool (decide (x1_9 < 60)) := hp 7 (by decide)
  have hBw1004_w1004 := Below.refl w1004.heap.size w1004
  have hS := hS.cons hv36
  clear hp hI hv36
  refine hK1002 _ _ ?_
  (try clear hK1002 K1002)
  refine wp_cond_true ((hS.get 0 rfl).trans (bT (decide_eq_true c2))) ?_
  refine wp_skip ?_
  refine hK1001 _ _ ?_
  (try clear hK1001 K1001)
  refine wp_seq_k (fun K1005 hK1005 => ?_)
  have J2 : ∀ (aL2 : Act) (wL2 : World) (y2_2 : List (S36)) (AL2_2 : Option Addr) (CL2_2 : Nat) (x2_3_0 x2_3_1 : Int) (gL2_3 : Nat) (x2_7_0 x2_7_1 x2_7_2 x2_7_3 x2_7_4 : Int) (x2_7_5 x2_7_6 : Bool) (gL2_7 : Nat) (x2_8_0 x2_8_1 x2_8_2 : Int) (x2_8_3 x2_8_4 : Bool) (x2_8_5 x2_8_6 : Int) (gL2_8 : Nat) (x2_9 : Int), carillonlaw17_DelayPlays.j2 k (carillonlaw17_DelayPlays.l1 k n1) y2_2 x2_3_0 x2_3_1 x2_7_0 x2_7_1 x2_7_2 x2_7_3 x2_7_4 x2_7_5 x2_7_6 x2_8_0 x2_8_1 x2_8_2 x2_8_3 x2_8_4 x2_8_5 x2_8_6 x2_9 = some true → St 144 [(2, .slice AL2_2 y2_2.length CL2_2), (3, .pointer (some ⟨gL2_3, 0, none⟩)), (7, .pointer (some ⟨gL2_7, 0, none⟩)), (8, .pointer (some ⟨gL2_8, 0, none⟩)), (9, .int .i64 x2_9)] aL2 → Below w.heap.size w wL2 → y2_2.length ≤ CL2_2 → Kd.C k36 w AL2_2 y2_2.length y2_2 → w.heap.size ≤ gL2_3 → wL2.heap[gL2_3]? = some (.cells #[.int .u64 x2_3_0, .int .i64 x2_3_1] 24 (0, 0)) → w.heap.size ≤ gL2_7 → wL2.heap[gL2_7]? = some (.cells (carillonlaw17_DelayPlays.c0 x2_7_0 x2_7_1 x2_7_2 x2_7_3 x2_7_4 x2_7_5 x2_7_6) 54 (0, 0)) → w.heap.size ≤ gL2_8 → wL2.heap[gL2_8]? = some (.cells (carillonlaw17_DelayPlays.c2 x2_8_0 x2_8_1 x2_8_2 x2_8_3 x2_8_4 x2_8_5 x2_8_6) 30 (0, 0)) → gL2_7 ≠ gL2_3 → gL2_8 ≠ gL2_3 → gL2_8 ≠ gL2_7 → K1005 aL2 wL2 := by
    intro aL2 wL2 y2_2 AL2_2 CL2_2 x2_3_0 x2_3_1 gL2_3 x2_7_0 x2_7_1 x2_7_2 x2_7_3 x2_7_4 x2_7_5 x2_7_6 gL2_7 x2_8_0 x2_8_1 x2_8_2 x2_8_3 x2_8_4 x2_8_5 x2_8_6 gL2_8 x2_9 H hS hBwL2_w hr2_2 hcL2_2 hgeLgL2_3 hbxLgL2_3 hgeLgL2_7 hbxLgL2_7 hgeLgL2_8 hbxLgL2_8 hneL2_7_3 hneL2_8_3 hneL2_8_7
    unfold carillonlaw17_DelayPlays.j2 at H
    (try dsimp only at H)
    have hBwL2_wL2 := Below.refl wL2.heap.size wL2
    refine hK1005 _ _ ?_
    (try clear hK1005 K1005)
    refine reg_seq_tail 2 (N := 144) (bs := [(2, .slice AL2_2 y2_2.length CL2_2), (3, .pointer (some ⟨gL2_3, 0, none⟩)), (7, .pointer (some ⟨gL2_7, 0, none⟩)), (8, .pointer (some ⟨gL2_8, 0, none⟩)), (9, .int .i64 x2_9)]) (I := fun x => Below w.heap.size w x ∧ Below wL2.heap.size wL2 x) (ps := [VI x2_9, VI (wrap64 (x2_9 + 1))]) (by kernel_rfl) ?_ ?_ rfl hS ⟨hBwL2_w, hBwL2_wL2⟩ ?_ ?_
    · exact fun x y hI hb => ⟨below_step hI.1 hb, below_step hI.2 hb⟩
    · exact .v (.v (.nil))
    · refine .ms 4 rfl rfl rfl ?_
      refine .on rfl (fun a w hS hI hp => does_val (x_bin rfl (hp.V 0 rfl rfl) (rfl) (b_add _ _ _ _ _)) rfl) ?_
      exact .nil
    clear hS
    intro at2001 w2002 hS hI hp
    have hBw2002_w := hI.1
    have hBw2002_wL2 := hI.2
    have hv38 : sl _ 38 = .int .i64 (wrap64 (x2_9 + 1)) := hp 1 (by decide)
    have hBw2002_w2002 := Below.refl w2002.heap.size w2002
    have hS := hS.cons hv38
    clear hp hI hv38
    show wpList _ _ _ [_] _ _
    refine list_step rfl (R := fun v w' => Below _ _ w' ∧ (VI (wrap64 (x2_9 + 1))) v w') (does_val (x_assign rfl (hS.get 0 rfl)) rfl) ?_
    rintro vw2003 w2003 ⟨hb, he⟩
    have hBw2003_w := below_step hBw2002_w hb
    have hBw2003_wL2 := below_step hBw2002_wL2 hb
    have hBw2003_w2002 := below_step hBw2002_w2002 hb
    have hBw2003_w2003 := Below.refl w2003.heap.size w2003
    obtain rfl : vw2003 = .int .i64 (wrap64 (x2_9 + 1)) := he
    replace hS := (((((hS.nil).cons (hS.get 4 rfl)).cons (hS.get 3 rfl)).cons (hS.get 2 rfl)).cons (hS.get 1 rfl)).cons (hS.get 0 rfl)
    refine hS.next (v := .int .i64 (wrap64 (x2_9 + 1))) (d := 9) rfl (by decide) (by rfl) ?_
    clear hS
    intro at2004 hS
    refine wpList_nil ?_
    replace hS := (((((hS.nil).cons (hS.get 0 rfl)).cons (hS.get 5 rfl)).cons (hS.get 4 rfl)).cons (hS.get 3 rfl)).cons (hS.get 2 rfl)
    (try simp only [Exit.then, Exit.inBlock])
    exact ⟨n1, Nat.lt_succ_self _, y2_2, AL2_2, CL2_2, x2_3_0, x2_3_1, gL2_3, x2_7_0, x2_7_1, x2_7_2, x2_7_3, x2_7_4, x2_7_5, x2_7_6, gL2_7, x2_8_0, x2_8_1, x2_8_2, x2_8_3, x2_8_4, x2_8_5, x2_8_6, gL2_8, wrap64 (x2_9 + 1), H, hS, hBw2003_w, hr2_2, (hcL2_2), hgeLgL2_3, ((hBw2003_wL2.block gL2_3 (blk_lt hbxLgL2_3)).trans hbxLgL2_3), hgeLgL2_7, ((hBw2003_wL2.block gL2_7 (blk_lt hbxLgL2_7)).trans hbxLgL2_7), hgeLgL2_8, ((hBw2003_wL2.block gL2_8 (blk_lt hbxLgL2_8)).trans hbxLgL2_8), hneL2_7_3, hneL2_8_3, hneL2_8_7⟩
  by_cases c3 : 0 ≤ x1_9
  rotate_left
  · rw [if_neg c3] at H
    exact absurd H (by simp)
  rw [if_pos c3] at H
  obtain ⟨t1015, At1015, H⟩ := Option.bind_eq_some_iff.mp H
  obtain ⟨t1015_1, t1015_2, t1015_3, t1015_4, t1015_5, t1015_6, t1015_7, t1015_8, t1015_9, t1015_10, t1015_11, t1015_12, t1015_13, t1015_14, t1015_15, t1015_16, t1015_17, t1015_18, t1015_19, t1015_20, t1015_21, t1015_22, t1015_23, t1015_24⟩ := t1015
  (try dsimp only at H)
  obtain ⟨t1027, At1027, H⟩ := Option.bind_eq_some_iff.mp H
  obtain ⟨t1027_1, t1027_2, t1027_3, t1027_4, t1027_5, t1027_6, t1027_7, t1027_8, t1027_9, t1027_10, t1027_11, t1027_12, t1027_13, t1027_14, t1027_15, t1027_16, t1027_17, t1027_18, t1027_19, t1027_20, t1027_21, t1027_22, t1027_23, t1027_24⟩ := t1027
  (try dsimp only at H)
  refine wp_block ?_
  refine wp_seq_k (fun K1006 hK1006 => ?_)
  refine reg_seq_tail 5 (N := 144) (bs := [(36, .bool (decide (x1_9 < 60))), (2, .slice AL1_2 y1_2.length CL1_2), (3, .pointer (some ⟨gL1_3, 0, none⟩)), (7, .pointer (some ⟨gL1_7, 0, none⟩)), (8, .pointer (some ⟨gL1_8, 0, none⟩)), (9, .int .i64 x1_9)]) (I := fun x => Below w.heap.size w x ∧ Below wL1.heap.size wL1 x ∧ Below w1004.heap.size w1004 x) (ps := [IsV (.slice AL1_2 y1_2.length CL1_2), VI x1_9, IsAT [.int .i64 ((rd_T36 y1_2 x1_9).f0), .int .i64 ((rd_T36 y1_2 x1_9).f1), .int .i64 ((rd_T36 y1_2 x1_9).f2), .int .i64 ((rd_T36 y1_2 x1_9).f3.f0), .int .i64 ((rd_T36 y1_2 x1_9).f3.f1), .int .i64 ((rd_T36 y1_2 x1_9).f3.f2), .int .i64 ((rd_T36 y1_2 x1_9).f3.f3), .int .u64 ((rd_T36 y1_2 x1_9).f3.f4.f0), .int .i64 ((rd_T36 y1_2 x1_9).f3.f4.f1), .int .i64 ((rd_T36 y1_2 x1_9).f3.f5), .int .i64 ((rd_T36 y1_2 x1_9).f3.f6), .int .i64 ((rd_T36 y1_2 x1_9).f3.f7), .int .u64 ((rd_T36 y1_2 x1_9).f3.f8.f0), .int .i64 ((rd_T36 y1_2 x1_9).f3.f8.f1), .int .i64 ((rd_T36 y1_2 x1_9).f3.f9), .int .i64 ((rd_T36 y1_2 x1_9).f3.f10), .int .i64 ((rd_T36 y1_2 x1_9).f3.f11.f0), .int .i64 ((rd_T36 y1_2 x1_9).f3.f11.f1), .int .i64 ((rd_T36 y1_2 x1_9).f3.f11.f2), .int .i64 ((rd_T36 y1_2 x1_9).f3.f12), .int .u64 ((rd_T36 y1_2 x1_9).f3.f13), .int .i64 ((rd_T36 y1_2 x1_9).f3.f14), .int .i64 ((rd_T36 y1_2 x1_9).f3.f15), .int .i64 ((rd_T36 y1_2 x1_9).f3.f16), .int .i64 ((rd_T36 y1_2 x1_9).f3.f17), .int .i64 ((rd_T36 y1_2 x1_9).f3.f18), .bool ((rd_T36 y1_2 x1_9).f4)], IsV ((carillonlaw17_DelayPlays.v3 ((rd_T36 y1_2 x1_9).f0) ((rd_T36 y1_2 x1_9).f1) ((rd_T36 y1_2 x1_9).f2) ((rd_T36 y1_2 x1_9).f3.f0) ((rd_T36 y1_2 x1_9).f3.f1) ((rd_T36 y1_2 x1_9).f3.f2) ((rd_T36 y1_2 x1_9).f3.f3) ((rd_T36 y1_2 x1_9).f3.f4.f0) ((rd_T36 y1_2 x1_9).f3.f4.f1) ((rd_T36 y1_2 x1_9).f3.f5) ((rd_T36 y1_2 x1_9).f3.f6) ((rd_T36 y1_2 x1_9).f3.f7) ((rd_T36 y1_2 x1_9).f3.f8.f0) ((rd_T36 y1_2 x1_9).f3.f8.f1) ((rd_T36 y1_2 x1_9).f3.f9) ((rd_T36 y1_2 x1_9).f3.f10) ((rd_T36 y1_2 x1_9).f3.f11.f0) ((rd_T36 y1_2 x1_9).f3.f11.f1) ((rd_T36 y1_2 x1_9).f3.f11.f2) ((rd_T36 y1_2 x1_9).f3.f12) ((rd_T36 y1_2 x1_9).f3.f13) ((rd_T36 y1_2 x1_9).f3.f14) ((rd_T36 y1_2 x1_9).f3.f15) ((rd_T36 y1_2 x1_9).f3.f16) ((rd_T36 y1_2 x1_9).f3.f17) ((rd_T36 y1_2 x1_9).f3.f18) ((rd_T36 y1_2 x1_9).f4))), IsB (carillonlaw17_DelayPlays.c4 0 0 0 0 0 0 0 0 0 0 0 0 0 0 0 0 0 0 0 0 0 0 0 0 0 0 false) 36 w1004.heap.size]) (by kernel_rfl) ?_ ?_ rfl hS ⟨hBw1004_w, hBw1004_wL1, hBw1004_w1004⟩ ?_ ?_
  · exact fun x y hI hb => ⟨below_step hI.1 hb, below_step hI.2.1 hb, below_step hI.2.2 hb⟩
  · exact .v (.v (.cons (Stays.at_ _) (.v (.cons (Stays.b _ _ _) (.nil)))))
  · refine .ms 1 rfl rfl rfl ?_
    refine .ms 5 rfl rfl rfl ?_
    refine .on rfl (fun a w hS hI hp => does_indexT carillonlaw17_DelayPlays.flat36 (e := 36) (xs := y1_2) (i := x1_9) z36 rfl (hp.V 0 rfl rfl) (hp.V 1 rfl rfl) (by kernel_rfl) (by kernel_rfl) c3 c1 c1 (by decide) ((Kd.C_below hcL1_2 hI.1))) ?_
    refine .on rfl (fun a w hS hI hp => does_loadT (cs := [.int .i64 ((rd_T36 y1_2 x1_9).f0), .int .i64 ((rd_T36 y1_2 x1_9).f1), .int .i64 ((rd_T36 y1_2 x1_9).f2), .int .i64 ((rd_T36 y1_2 x1_9).f3.f0), .int .i64 ((rd_T36 y1_2 x1_9).f3.f1), .int .i64 ((rd_T36 y1_2 x1_9).f3.f2), .int .i64 ((rd_T36 y1_2 x1_9).f3.f3), .int .u64 ((rd_T36 y1_2 x1_9).f3.f4.f0), .int .i64 ((rd_T36 y1_2 x1_9).f3.f4.f1), .int .i64 ((rd_T36 y1_2 x1_9).f3.f5), .int .i64 ((rd_T36 y1_2 x1_9).f3.f6), .int .i64 ((rd_T36 y1_2 x1_9).f3.f7), .int .u64 ((rd_T36 y1_2 x1_9).f3.f8.f0), .int .i64 ((rd_T36 y1_2 x1_9).f3.f8.f1), .int .i64 ((rd_T36 y1_2 x1_9).f3.f9), .int .i64 ((rd_T36 y1_2 x1_9).f3.f10), .int .i64 ((rd_T36 y1_2 x1_9).f3.f11.f0), .int .i64 ((rd_T36 y1_2 x1_9).f3.f11.f1), .int .i64 ((rd_T36 y1_2 x1_9).f3.f11.f2), .int .i64 ((rd_T36 y1_2 x1_9).f3.f12), .int .u64 ((rd_T36 y1_2 x1_9).f3.f13), .int .i64 ((rd_T36 y1_2 x1_9).f3.f14), .int .i64 ((rd_T36 y1_2 x1_9).f3.f15), .int .i64 ((rd_T36 y1_2 x1_9).f3.f16), .int .i64 ((rd_T36 y1_2 x1_9).f3.f17), .int .i64 ((rd_T36 y1_2 x1_9).f3.f18), .bool ((rd_T36 y1_2 x1_9).f4)]) rfl (hp.V 2 rfl rfl) Try.underlying36 rfl (by kernel_rfl)) ?_
    refine .on rfl (fun a w hS hI hp => does_var (x_alloc rfl (by kernel_rfl)) (hI.2.2).size) ?_
    exact .nil
  clear hS
  intro at1007 w1008 hS hI hp
  have hBw1008_w := hI.1
  have hBw1008_wL1 := hI.2.1
  have hBw1008_w1004 := hI.2.2
  replace hS := (((((hS.nil).cons (hS.get 5 rfl)).cons (hS.get 4 rfl)).cons (hS.get 3 rfl)).cons (hS.get 2 rfl)).cons (hS.get 1 rfl)
  have hv42 : sl _ 42 = (carillonlaw17_DelayPlays.v3 ((rd_T36 y1_2 x1_9).f0) ((rd_T36 y1_2 x1_9).f1) ((rd_T36 y1_2 x1_9).f2) ((rd_T36 y1_2 x1_9).f3.f0) ((rd_T36 y1_2 x1_9).f3.f1) ((rd_T36 y1_2 x1_9).f3.f2) ((rd_T36 y1_2 x1_9).f3.f3) ((rd_T36 y1_2 x1_9).f3.f4.f0) ((rd_T36 y1_2 x1_9).f3.f4.f1) ((rd_T36 y1_2 x1_9).f3.f5) ((rd_T36 y1_2 x1_9).f3.f6) ((rd_T36 y1_2 x1_9).f3.f7) ((rd_T36 y1_2 x1_9).f3.f8.f0) ((rd_T36 y1_2 x1_9).f3.f8.f1) ((rd_T36 y1_2 x1_9).f3.f9) ((rd_T36 y1_2 x1_9).f3.f10) ((rd_T36 y1_2 x1_9).f3.f11.f0) ((rd_T36 y1_2 x1_9).f3.f11.f1) ((rd_T36 y1_2 x1_9).f3.f11.f2) ((rd_T36 y1_2 x1_9).f3.f12) ((rd_T36 y1_2 x1_9).f3.f13) ((rd_T36 y1_2 x1_9).f3.f14) ((rd_T36 y1_2 x1_9).f3.f15) ((rd_T36 y1_2 x1_9).f3.f16) ((rd_T36 y1_2 x1_9).f3.f17) ((rd_T36 y1_2 x1_9).f3.f18) ((rd_T36 y1_2 x1_9).f4)) := hp 3 (by decide)
  obtain ⟨g1009, hv10, hgeg1009, hbxg1009⟩ := (show IsB _ 36 _ (sl _ 10) _ from hp 4 (by decide))
  have hne1010 : g1009 ≠ gL1_3 := Nat.ne_of_gt (Nat.lt_of_lt_of_le (blk_lt ((hBw1004_wL1.block gL1_3 (blk_lt hbxLgL1_3)).trans hbxLgL1_3)) hgeg1009)
  have hne1011 : g1009 ≠ gL1_7 := Nat.ne_of_gt (Nat.lt_of_lt_of_le (blk_lt ((hBw1004_wL1.block gL1_7 (blk_lt hbxLgL1_7)).trans hbxLgL1_7)) hgeg1009)
  have hne1012 : g1009 ≠ gL1_8 := Nat.ne_of_gt (Nat.lt_of_lt_of_le (blk_lt ((hBw1004_wL1.block gL1_8 (blk_lt hbxLgL1_8)).trans hbxLgL1_8)) hgeg1009)
  have hBw1008_w1008 := Below.refl w1008.heap.size w1008
  have hS := hS.cons hv42
  have hS := hS.cons hv10
  clear hp hI hv42 hv10
  show wpList _ _ _ [_] _ _
  refine list_step rfl (does_storeAll (g := g1009) (cs := (carillonlaw17_DelayPlays.c4 ((rd_T36 y1_2 x1_9).f0) ((rd_T36 y1_2 x1_9).f1) ((rd_T36 y1_2 x1_9).f2) ((rd_T36 y1_2 x1_9).f3.f0) ((rd_T36 y1_2 x1_9).f3.f1) ((rd_T36 y1_2 x1_9).f3.f2) ((rd_T36 y1_2 x1_9).f3.f3) ((rd_T36 y1_2 x1_9).f3.f4.f0) ((rd_T36 y1_2 x1_9).f3.f4.f1) ((rd_T36 y1_2 x1_9).f3.f5) ((rd_T36 y1_2 x1_9).f3.f6) ((rd_T36 y1_2 x1_9).f3.f7) ((rd_T36 y1_2 x1_9).f3.f8.f0) ((rd_T36 y1_2 x1_9).f3.f8.f1) ((rd_T36 y1_2 x1_9).f3.f9) ((rd_T36 y1_2 x1_9).f3.f10) ((rd_T36 y1_2 x1_9).f3.f11.f0) ((rd_T36 y1_2 x1_9).f3.f11.f1) ((rd_T36 y1_2 x1_9).f3.f11.f2) ((rd_T36 y1_2 x1_9).f3.f12) ((rd_T36 y1_2 x1_9).f3.f13) ((rd_T36 y1_2 x1_9).f3.f14) ((rd_T36 y1_2 x1_9).f3.f15) ((rd_T36 y1_2 x1_9).f3.f16) ((rd_T36 y1_2 x1_9).f3.f17) ((rd_T36 y1_2 x1_9).f3.f18) ((rd_T36 y1_2 x1_9).f4))) rfl (hS.get 0 rfl) (hS.get 1 rfl) ((hBw1008_w1008.block g1009 (blk_lt hbxg1009)).trans hbxg1009) (by kernel_rfl) (by kernel_rfl) (by kernel_rfl)) ?_
  rintro vw1013 w1013 ⟨rfl, hbxw1013, hT⟩
  have hBw1013_w := hT.below hBw1008_w (Nat.le_trans (hBw1004_w).size hgeg1009) (hBw1008_w).size
  have hBw1013_wL1 := hT.below hBw1008_wL1 (Nat.le_trans (hBw1004_wL1).size hgeg1009) (hBw1008_wL1).size
  have hBw1013_w1004 := hT.below hBw1008_w1004 hgeg1009 (hBw1008_w1004).size
  have hBw1013_w1013 := Below.refl w1013.heap.size w1013
  clear hT
  refine wpList_nil ?_
  refine hK1006 _ _ ?_
  (try clear hK1006 K1006)
  refine wp_seq_k (fun K1014 hK1014 => ?_)
  refine reg_seq_tail 12 (N := 144) (bs := [(10, .pointer (some ⟨g1009, 0, none⟩)), (42, (carillonlaw17_DelayPlays.v3 ((rd_T36 y1_2 x1_9).f0) ((rd_T36 y1_2 x1_9).f1) ((rd_T36 y1_2 x1_9).f2) ((rd_T36 y1_2 x1_9).f3.f0) ((rd_T36 y1_2 x1_9).f3.f1) ((rd_T36 y1_2 x1_9).f3.f2) ((rd_T36 y1_2 x1_9).f3.f3) ((rd_T36 y1_2 x1_9).f3.f4.f0) ((rd_T36 y1_2 x1_9).f3.f4.f1) ((rd_T36 y1_2 x1_9).f3.f5) ((rd_T36 y1_2 x1_9).f3.f6) ((rd_T36 y1_2 x1_9).f3.f7) ((rd_T36 y1_2 x1_9).f3.f8.f0) ((rd_T36 y1_2 x1_9).f3.f8.f1) ((rd_T36 y1_2 x1_9).f3.f9) ((rd_T36 y1_2 x1_9).f3.f10) ((rd_T36 y1_2 x1_9).f3.f11.f0) ((rd_T36 y1_2 x1_9).f3.f11.f1) ((rd_T36 y1_2 x1_9).f3.f11.f2) ((rd_T36 y1_2 x1_9).f3.f12) ((rd_T36 y1_2 x1_9).f3.f13) ((rd_T36 y1_2 x1_9).f3.f14) ((rd_T36 y1_2 x1_9).f3.f15) ((rd_T36 y1_2 x1_9).f3.f16) ((rd_T36 y1_2 x1_9).f3.f17) ((rd_T36 y1_2 x1_9).f3.f18) ((rd_T36 y1_2 x1_9).f4))), (2, .slice AL1_2 y1_2.length CL1_2), (3, .pointer (some ⟨gL1_3, 0, none⟩)), (7, .pointer (some ⟨gL1_7, 0, none⟩)), (8, .pointer (some ⟨gL1_8, 0, none⟩)), (9, .int .i64 x1_9)]) (I := fun x => Below w.heap.size w x ∧ Below wL1.heap.size wL1 x ∧ Below w1004.heap.size w1004 x ∧ Below w1013.heap.size w1013 x) (ps := [VP g1009 3, IsV ((carillonlaw17_DelayPlays.v5 ((rd_T36 y1_2 x1_9).f3.f0) ((rd_T36 y1_2 x1_9).f3.f1) ((rd_T36 y1_2 x1_9).f3.f2) ((rd_T36 y1_2 x1_9).f3.f3) ((rd_T36 y1_2 x1_9).f3.f4.f0) ((rd_T36 y1_2 x1_9).f3.f4.f1) ((rd_T36 y1_2 x1_9).f3.f5) ((rd_T36 y1_2 x1_9).f3.f6) ((rd_T36 y1_2 x1_9).f3.f7) ((rd_T36 y1_2 x1_9).f3.f8.f0) ((rd_T36 y1_2 x1_9).f3.f8.f1) ((rd_T36 y1_2 x1_9).f3.f9) ((rd_T36 y1_2 x1_9).f3.f10) ((rd_T36 y1_2 x1_9).f3.f11.f0) ((rd_T36 y1_2 x1_9).f3.f11.f1) ((rd_T36 y1_2 x1_9).f3.f11.f2) ((rd_T36 y1_2 x1_9).f3.f12) ((rd_T36 y1_2 x1_9).f3.f13) ((rd_T36 y1_2 x1_9).f3.f14) ((rd_T36 y1_2 x1_9).f3.f15) ((rd_T36 y1_2 x1_9).f3.f16) ((rd_T36 y1_2 x1_9).f3.f17) ((rd_T36 y1_2 x1_9).f3.f18))), IsV (.agg #[.int .u64 x1_3_0, .int .i64 x1_3_1]), VP g1009 2, VI ((rd_T36 y1_2 x1_9).f2), VP g1009 1, VI ((rd_T36 y1_2 x1_9).f1), IsV (.tuple #[(carillonlaw17_DelayPlays.v5 t1015_1 t1015_2 t1015_3 t1015_4 t1015_5 t1015_6 t1015_7 t1015_8 t1015_9 t1015_10 t1015_11 t1015_12 t1015_13 t1015_14 t1015_15 t1015_16 t1015_17 t1015_18 t1015_19 t1015_20 t1015_21 t1015_22 t1015_23), .bool t1015_24]), IsV (.tuple #[(carillonlaw17_DelayPlays.v5 t1015_1 t1015_2 t1015_3 t1015_4 t1015_5 t1015_6 t1015_7 t1015_8 t1015_9 t1015_10 t1015_11 t1015_12 t1015_13 t1015_14 t1015_15 t1015_16 t1015_17 t1015_18 t1015_19 t1015_20 t1015_21 t1015_22 t1015_23), .bool t1015_24]), IsV ((carillonlaw17_DelayPlays.v5 t1015_1 t1015_2 t1015_3 t1015_4 t1015_5 t1015_6 t1015_7 t1015_8 t1015_9 t1015_10 t1015_11 t1015_12 t1015_13 t1015_14 t1015_15 t1015_16 t1015_17 t1015_18 t1015_19 t1015_20 t1015_21 t1015_22 t1015_23)), VB t1015_24, IsB (carillonlaw17_DelayPlays.c6 0 0 0 0 0 0 0 0 0 0 0 0 0 0 0 0 0 0 0 0 0 0 0) 34 w1013.heap.size]) (by kernel_rfl) ?_ ?_ rfl hS ⟨hBw1013_w, hBw1013_wL1, hBw1013_w1004, hBw1013_w1013⟩ ?_ ?_
  · exact fun x y hI hb => ⟨below_step hI.1 hb, below_step hI.2.1 hb, below_step hI.2.2.1 hb, below_step hI.2.2.2 hb⟩
  · exact .v (.v (.v (.v (.v (.v (.v (.v (.v (.v (.v (.cons (Stays.b _ _ _) (.nil))))))))))))
  · refine .on rfl (fun a w hS hI hp => does_val (x_fieldE (b := 0) rfl (hS.get 0 rfl) Try.underlying36 rfl rfl (by kernel_rfl)) rfl) ?_
    refine .on rfl (fun a w hS hI hp => does_loadmid (cs := [.int .i64 ((rd_T36 y1_2 x1_9).f3.f0), .int .i64 ((rd_T36 y1_2 x1_9).f3.f1), .int .i64 ((rd_T36 y1_2 x1_9).f3.f2), .int .i64 ((rd_T36 y1_2 x1_9).f3.f3), .int .u64 ((rd_T36 y1_2 x1_9).f3.f4.f0), .int .i64 ((rd_T36 y1_2 x1_9).f3.f4.f1), .int .i64 ((rd_T36 y1_2 x1_9).f3.f5), .int .i64 ((rd_T36 y1_2 x1_9).f3.f6), .int .i64 ((rd_T36 y1_2 x1_9).f3.f7), .int .u64 ((rd_T36 y1_2 x1_9).f3.f8.f0), .int .i64 ((rd_T36 y1_2 x1_9).f3.f8.f1), .int .i64 ((rd_T36 y1_2 x1_9).f3.f9), .int .i64 ((rd_T36 y1_2 x1_9).f3.f10), .int .i64 ((rd_T36 y1_2 x1_9).f3.f11.f0), .int .i64 ((rd_T36 y1_2 x1_9).f3.f11.f1), .int .i64 ((rd_T36 y1_2 x1_9).f3.f11.f2), .int .i64 ((rd_T36 y1_2 x1_9).f3.f12), .int .u64 ((rd_T36 y1_2 x1_9).f3.f13), .int .i64 ((rd_T36 y1_2 x1_9).f3.f14), .int .i64 ((rd_T36 y1_2 x1_9).f3.f15), .int .i64 ((rd_T36 y1_2 x1_9).f3.f16), .int .i64 ((rd_T36 y1_2 x1_9).f3.f17), .int .i64 ((rd_T36 y1_2 x1_9).f3.f18)]) rfl (hp.V 0 rfl rfl) (((hI.2.2.2).block g1009 (blk_lt hbxw1013)).trans hbxw1013) (by kernel_rfl) Try.underlying34 rfl (by kernel_rfl) rfl) ?_
    refine .on rfl (fun a w hS hI hp => does_loadrow rfl (hS.get 3 rfl) (((hI.2.1).block gL1_3 (blk_lt hbxLgL1_3)).trans hbxLgL1_3) Try.underlying24 rfl (by kernel_rfl) rfl) ?_
    refine .on rfl (fun a w hS hI hp => does_val (x_fieldE (b := 0) rfl (hS.get 0 rfl) Try.underlying36 rfl rfl (by kernel_rfl)) rfl) ?_
    refine .on rfl (fun a w hS hI hp => does_val (x_load1 (d := .int .i64) rfl (hp.V 3 rfl rfl) (by kernel_rfl) rfl ((blk_cell (((hI.2.2.2).block g1009 (blk_lt hbxw1013)).trans hbxw1013) 2).trans rfl)) rfl) ?_
    refine .on rfl (fun a w hS hI hp => does_val (x_fieldE (b := 0) rfl (hS.get 0 rfl) Try.underlying36 rfl rfl (by kernel_rfl)) rfl) ?_
    refine .on rfl (fun a w hS hI hp => does_val (x_load1 (d := .int .i64) rfl (hp.V 5 rfl rfl) (by kernel_rfl) rfl ((blk_cell (((hI.2.2.2).block g1009 (blk_lt hbxw1013)).trans hbxw1013) 1).trans rfl)) rfl) ?_
    refine .on rfl (fun a w hS hI hp => does_call (by kernel_rfl) (ar4 (hp.V 1 rfl rfl) (hp.V 2 rfl rfl) (hp.V 4 rfl rfl) (hp.V 6 rfl rfl)) ((delay_Answer.calls ((rd_T36 y1_2 x1_9).f3.f0) ((rd_T36 y1_2 x1_9).f3.f1) ((rd_T36 y1_2 x1_9).f3.f2) ((rd_T36 y1_2 x1_9).f3.f3) ((rd_T36 y1_2 x1_9).f3.f4.f0) ((rd_T36 y1_2 x1_9).f3.f4.f1) ((rd_T36 y1_2 x1_9).f3.f5) ((rd_T36 y1_2 x1_9).f3.f6) ((rd_T36 y1_2 x1_9).f3.f7) ((rd_T36 y1_2 x1_9).f3.f8.f0) ((rd_T36 y1_2 x1_9).f3.f8.f1) ((rd_T36 y1_2 x1_9).f3.f9) ((rd_T36 y1_2 x1_9).f3.f10) ((rd_T36 y1_2 x1_9).f3.f11.f0) ((rd_T36 y1_2 x1_9).f3.f11.f1) ((rd_T36 y1_2 x1_9).f3.f11.f2) ((rd_T36 y1_2 x1_9).f3.f12) ((rd_T36 y1_2 x1_9).f3.f13) ((rd_T36 y1_2 x1_9).f3.f14) ((rd_T36 y1_2 x1_9).f3.f15) ((rd_T36 y1_2 x1_9).f3.f16) ((rd_T36 y1_2 x1_9).f3.f17) ((rd_T36 y1_2 x1_9).f3.f18) x1_3_0 x1_3_1 ((rd_T36 y1_2 x1_9).f2) ((rd_T36 y1_2 x1_9).f1) t1015_1 t1015_2 t1015_3 t1015_4 t1015_5 t1015_6 t1015_7 t1015_8 t1015_9 t1015_10 t1015_11 t1015_12 t1015_13 t1015_14 t1015_15 t1015_16 t1015_17 t1015_18 t1015_19 t1015_20 t1015_21 t1015_22 t1015_23 t1015_24 _  At1015).mono fun _ _ h => ⟨_, h.1, h.2, rfl⟩)) ?_
    refine .mv 7 rfl rfl rfl rfl ?_
    iterate 2 refine .on rfl (fun a w hS hI hp => does_val (x_extract rfl (hp.V 8 rfl rfl) rfl) rfl) ?_
    refine .on rfl (fun a w hS hI hp => does_var (x_alloc rfl (by kernel_rfl)) (hI.2.2.2).size) ?_
    exact .nil
  clear hS
  intro at1016 w1017 hS hI hp
  have hBw1017_w := hI.1
  have hBw1017_wL1 := hI.2.1
  have hBw1017_w1004 := hI.2.2.1
  have hBw1017_w1013 := hI.2.2.2
  replace hS := ((((((hS.nil).cons (hS.get 6 rfl)).cons (hS.get 5 rfl)).cons (hS.get 4 rfl)).cons (hS.get 3 rfl)).cons (hS.get 2 rfl)).cons (hS.get 0 rfl)
  have hv52 : sl _ 52 = (carillonlaw17_DelayPlays.v5 t1015_1 t1015_2 t1015_3 t1015_4 t1015_5 t1015_6 t1015_7 t1015_8 t1015_9 t1015_10 t1015_11 t1015_12 t1015_13 t1015_14 t1015_15 t1015_16 t1015_17 t1015_18 t1015_19 t1015_20 t1015_21 t1015_22 t1015_23) := hp 9 (by decide)
  have hv53 : sl _ 53 = .bool t1015_24 := hp 10 (by decide)
  obtain ⟨g1018, hv11, hgeg1018, hbxg1018⟩ := (show IsB _ 34 _ (sl _ 11) _ from hp 11 (by decide))
  have hne1019 : g1018 ≠ gL1_3 := Nat.ne_of_gt (Nat.lt_of_lt_of_le (blk_lt ((hBw1013_wL1.block gL1_3 (blk_lt hbxLgL1_3)).trans hbxLgL1_3)) hgeg1018)
  have hne1020 : g1018 ≠ gL1_7 := Nat.ne_of_gt (Nat.lt_of_lt_of_le (blk_lt ((hBw1013_wL1.block gL1_7 (blk_lt hbxLgL1_7)).trans hbxLgL1_7)) hgeg1018)
  have hne1021 : g1018 ≠ gL1_8 := Nat.ne_of_gt (Nat.lt_of_lt_of_le (blk_lt ((hBw1013_wL1.block gL1_8 (blk_lt hbxLgL1_8)).trans hbxLgL1_8)) hgeg1018)
  have hne1022 : g1018 ≠ g1009 := Nat.ne_of_gt (Nat.lt_of_lt_of_le (blk_lt ((hBw1013_w1013.block g1009 (blk_lt hbxw1013)).trans hbxw1013)) hgeg1018)
  have hBw1017_w1017 := Below.refl w1017.heap.size w1017
  have hS := hS.cons hv52
  have hS := hS.cons hv53
  have hS := hS.cons hv11
  clear hp hI hv52 hv53 hv11
  show wpList _ _ _ [_, _] _ _
  refine list_step rfl (does_storeAll (g := g1018) (cs := (carillonlaw17_DelayPlays.c6 t1015_1 t1015_2 t1015_3 t1015_4 t1015_5 t1015_6 t1015_7 t1015_8 t1015_9 t1015_10 t1015_11 t1015_12 t1015_13 t1015_14 t1015_15 t1015_16 t1015_17 t1015_18 t1015_19 t1015_20 t1015_21 t1015_22 t1015_23)) rfl (hS.get 0 rfl) (hS.get 2 rfl) ((hBw1017_w1017.block g1018 (blk_lt hbxg1018)).trans hbxg1018) (by kernel_rfl) (by kernel_rfl) (by kernel_rfl)) ?_
  rintro vw1023 w1023 ⟨rfl, hbxw1023, hT⟩
  have hBw1023_w := hT.below hBw1017_w (Nat.le_trans (hBw1013_w).size hgeg1018) (hBw1017_w).size
  have hBw1023_wL1 := hT.below hBw1017_wL1 (Nat.le_trans (hBw1013_wL1).size hgeg1018) (hBw1017_wL1).size
  have hBw1023_w1004 := hT.below hBw1017_w1004 (Nat.le_trans (hBw1013_w1004).size hgeg1018) (hBw1017_w1004).size
  have hBw1023_w1013 := hT.below hBw1017_w1013 hgeg1018 (hBw1017_w1013).size
  have hBw1023_w1023 := Below.refl w1023.heap.size w1023
  clear hT
  refine list_step rfl (R := fun v w' => Below _ _ w' ∧ (VB t1015_24) v w') (does_val (x_assign rfl (hS.get 1 rfl)) rfl) ?_
  rintro vw1024 w1024 ⟨hb, he⟩
  have hBw1024_w := below_step hBw1023_w hb
  have hBw1024_wL1 := below_step hBw1023_wL1 hb
  have hBw1024_w1004 := below_step hBw1023_w1004 hb
  have hBw1024_w1013 := below_step hBw1023_w1013 hb
  have hBw1024_w1023 := below_step hBw1023_w1023 hb
  have hBw1024_w1024 := Below.refl w1024.heap.size w1024
  obtain rfl : vw1024 = .bool t1015_24 := he
  refine hS.next (v := .bool t1015_24) (d := 12) rfl (by decide) (by rfl) ?_
  clear hS
  intro at1025 hS
  refine wpList_nil ?_
  refine hK1014 _ _ ?_
  (try clear hK1014 K1014)
  refine wp_seq_k (fun K1026 hK1026 => ?_)
  refine reg_seq_tail 12 (N := 144) (bs := [(12, .bool t1015_24), (11, .pointer (some ⟨g1018, 0, none⟩)), (53, .bool t1015_24), (52, (carillonlaw17_DelayPlays.v5 t1015_1 t1015_2 t1015_3 t1015_4 t1015_5 t1015_6 t1015_7 t1015_8 t1015_9 t1015_10 t1015_11 t1015_12 t1015_13 t1015_14 t1015_15 t1015_16 t1015_17 t1015_18 t1015_19 t1015_20 t1015_21 t1015_22 t1015_23)), (10, .pointer (some ⟨g1009, 0, none⟩)), (2, .slice AL1_2 y1_2.length CL1_2), (3, .pointer (some ⟨gL1_3, 0, none⟩)), (7, .pointer (some ⟨gL1_7, 0, none⟩)), (8, .pointer (some ⟨gL1_8, 0, none⟩)), (9, .int .i64 x1_9)]) (I := fun x => Below w.heap.size w x ∧ Below wL1.heap.size wL1 x ∧ Below w1004.heap.size w1004 x ∧ Below w1013.heap.size w1013 x ∧ Below w1023.heap.size w1023 x ∧ Below w1024.heap.size w1024 x) (ps := [VP g1009 3, IsV ((carillonlaw17_DelayPlays.v5 ((rd_T36 y1_2 x1_9).f3.f0) ((rd_T36 y1_2 x1_9).f3.f1) ((rd_T36 y1_2 x1_9).f3.f2) ((rd_T36 y1_2 x1_9).f3.f3) ((rd_T36 y1_2 x1_9).f3.f4.f0) ((rd_T36 y1_2 x1_9).f3.f4.f1) ((rd_T36 y1_2 x1_9).f3.f5) ((rd_T36 y1_2 x1_9).f3.f6) ((rd_T36 y1_2 x1_9).f3.f7) ((rd_T36 y1_2 x1_9).f3.f8.f0) ((rd_T36 y1_2 x1_9).f3.f8.f1) ((rd_T36 y1_2 x1_9).f3.f9) ((rd_T36 y1_2 x1_9).f3.f10) ((rd_T36 y1_2 x1_9).f3.f11.f0) ((rd_T36 y1_2 x1_9).f3.f11.f1) ((rd_T36 y1_2 x1_9).f3.f11.f2) ((rd_T36 y1_2 x1_9).f3.f12) ((rd_T36 y1_2 x1_9).f3.f13) ((rd_T36 y1_2 x1_9).f3.f14) ((rd_T36 y1_2 x1_9).f3.f15) ((rd_T36 y1_2 x1_9).f3.f16) ((rd_T36 y1_2 x1_9).f3.f17) ((rd_T36 y1_2 x1_9).f3.f18))), IsV (.agg #[.int .u64 x1_3_0, .int .i64 x1_3_1]), VP g1009 2, VI ((rd_T36 y1_2 x1_9).f2), VP g1009 1, VI ((rd_T36 y1_2 x1_9).f1), IsV (.tuple #[(carillonlaw17_DelayPlays.v5 t1027_1 t1027_2 t1027_3 t1027_4 t1027_5 t1027_6 t1027_7 t1027_8 t1027_9 t1027_10 t1027_11 t1027_12 t1027_13 t1027_14 t1027_15 t1027_16 t1027_17 t1027_18 t1027_19 t1027_20 t1027_21 t1027_22 t1027_23), .bool t1027_24]), IsV (.tuple #[(carillonlaw17_DelayPlays.v5 t1027_1 t1027_2 t1027_3 t1027_4 t1027_5 t1027_6 t1027_7 t1027_8 t1027_9 t1027_10 t1027_11 t1027_12 t1027_13 t1027_14 t1027_15 t1027_16 t1027_17 t1027_18 t1027_19 t1027_20 t1027_21 t1027_22 t1027_23), .bool t1027_24]), IsV ((carillonlaw17_DelayPlays.v5 t1027_1 t1027_2 t1027_3 t1027_4 t1027_5 t1027_6 t1027_7 t1027_8 t1027_9 t1027_10 t1027_11 t1027_12 t1027_13 t1027_14 t1027_15 t1027_16 t1027_17 t1027_18 t1027_19 t1027_20 t1027_21 t1027_22 t1027_23)), VB t1027_24, IsB (carillonlaw17_DelayPlays.c6 0 0 0 0 0 0 0 0 0 0 0 0 0 0 0 0 0 0 0 0 0 0 0) 34 w1024.heap.size]) (by kernel_rfl) ?_ ?_ rfl hS ⟨hBw1024_w, hBw1024_wL1, hBw1024_w1004, hBw1024_w1013, hBw1024_w1023, hBw1024_w1024⟩ ?_ ?_
  · exact fun x y hI hb => ⟨below_step hI.1 hb, below_step hI.2.1 hb, below_step hI.2.2.1 hb, below_step hI.2.2.2.1 hb, below_step hI.2.2.2.2.1 hb, below_step hI.2.2.2.2.2 hb⟩
  · exact .v (.v (.v (.v (.v (.v (.v (.v (.v (.v (.v (.cons (Stays.b _ _ _) (.nil))))))))))))
  · refine .on rfl (fun a w hS hI hp => does_val (x_fieldE (b := 0) rfl (hS.get 4 rfl) Try.underlying36 rfl rfl (by kernel_rfl)) rfl) ?_
    refine .on rfl (fun a w hS hI hp => does_loadmid (cs := [.int .i64 ((rd_T36 y1_2 x1_9).f3.f0), .int .i64 ((rd_T36 y1_2 x1_9).f3.f1), .int .i64 ((rd_T36 y1_2 x1_9).f3.f2), .int .i64 ((rd_T36 y1_2 x1_9).f3.f3), .int .u64 ((rd_T36 y1_2 x1_9).f3.f4.f0), .int .i64 ((rd_T36 y1_2 x1_9).f3.f4.f1), .int .i64 ((rd_T36 y1_2 x1_9).f3.f5), .int .i64 ((rd_T36 y1_2 x1_9).f3.f6), .int .i64 ((rd_T36 y1_2 x1_9).f3.f7), .int .u64 ((rd_T36 y1_2 x1_9).f3.f8.f0), .int .i64 ((rd_T36 y1_2 x1_9).f3.f8.f1), .int .i64 ((rd_T36 y1_2 x1_9).f3.f9), .int .i64 ((rd_T36 y1_2 x1_9).f3.f10), .int .i64 ((rd_T36 y1_2 x1_9).f3.f11.f0), .int .i64 ((rd_T36 y1_2 x1_9).f3.f11.f1), .int .i64 ((rd_T36 y1_2 x1_9).f3.f11.f2), .int .i64 ((rd_T36 y1_2 x1_9).f3.f12), .int .u64 ((rd_T36 y1_2 x1_9).f3.f13), .int .i64 ((rd_T36 y1_2 x1_9).f3.f14), .int .i64 ((rd_T36 y1_2 x1_9).f3.f15), .int .i64 ((rd_T36 y1_2 x1_9).f3.f16), .int .i64 ((rd_T36 y1_2 x1_9).f3.f17), .int .i64 ((rd_T36 y1_2 x1_9).f3.f18)]) rfl (hp.V 0 rfl rfl) (((hI.2.2.2.1).block g1009 (blk_lt hbxw1013)).trans hbxw1013) (by kernel_rfl) Try.underlying34 rfl (by kernel_rfl) rfl) ?_
    refine .on rfl (fun a w hS hI hp => does_loadrow rfl (hS.get 6 rfl) (((hI.2.1).block gL1_3 (blk_lt hbxLgL1_3)).trans hbxLgL1_3) Try.underlying24 rfl (by kernel_rfl) rfl) ?_
    refine .on rfl (fun a w hS hI hp => does_val (x_fieldE (b := 0) rfl (hS.get 4 rfl) Try.underlying36 rfl rfl (by kernel_rfl)) rfl) ?_
    refine .on rfl (fun a w hS hI hp => does_val (x_load1 (d := .int .i64) rfl (hp.V 3 rfl rfl) (by kernel_rfl) rfl ((blk_cell (((hI.2.2.2.1).block g1009 (blk_lt hbxw1013)).trans hbxw1013) 2).trans rfl)) rfl) ?_
    refine .on rfl (fun a w hS hI hp => does_val (x_fieldE (b := 0) rfl (hS.get 4 rfl) Try.underlying36 rfl rfl (by kernel_rfl)) rfl) ?_
    refine .on rfl (fun a w hS hI hp => does_val (x_load1 (d := .int .i64) rfl (hp.V 5 rfl rfl) (by kernel_rfl) rfl ((blk_cell (((hI.2.2.2.1).block g1009 (blk_lt hbxw1013)).trans hbxw1013) 1).trans rfl)) rfl) ?_
    refine .on rfl (fun a w hS hI hp => does_call (by kernel_rfl) (ar4 (hp.V 1 rfl rfl) (hp.V 2 rfl rfl) (hp.V 4 rfl rfl) (hp.V 6 rfl rfl)) ((carillonref17_Answer.calls ((rd_T36 y1_2 x1_9).f3.f0) ((rd_T36 y1_2 x1_9).f3.f1) ((rd_T36 y1_2 x1_9).f3.f2) ((rd_T36 y1_2 x1_9).f3.f3) ((rd_T36 y1_2 x1_9).f3.f4.f0) ((rd_T36 y1_2 x1_9).f3.f4.f1) ((rd_T36 y1_2 x1_9).f3.f5) ((rd_T36 y1_2 x1_9).f3.f6) ((rd_T36 y1_2 x1_9).f3.f7) ((rd_T36 y1_2 x1_9).f3.f8.f0) ((rd_T36 y1_2 x1_9).f3.f8.f1) ((rd_T36 y1_2 x1_9).f3.f9) ((rd_T36 y1_2 x1_9).f3.f10) ((rd_T36 y1_2 x1_9).f3.f11.f0) ((rd_T36 y1_2 x1_9).f3.f11.f1) ((rd_T36 y1_2 x1_9).f3.f11.f2) ((rd_T36 y1_2 x1_9).f3.f12) ((rd_T36 y1_2 x1_9).f3.f13) ((rd_T36 y1_2 x1_9).f3.f14) ((rd_T36 y1_2 x1_9).f3.f15) ((rd_T36 y1_2 x1_9).f3.f16) ((rd_T36 y1_2 x1_9).f3.f17) ((rd_T36 y1_2 x1_9).f3.f18) x1_3_0 x1_3_1 ((rd_T36 y1_2 x1_9).f2) ((rd_T36 y1_2 x1_9).f1) t1027_1 t1027_2 t1027_3 t1027_4 t1027_5 t1027_6 t1027_7 t1027_8 t1027_9 t1027_10 t1027_11 t1027_12 t1027_13 t1027_14 t1027_15 t1027_16 t1027_17 t1027_18 t1027_19 t1027_20 t1027_21 t1027_22 t1027_23 t1027_24 _  At1027).mono fun _ _ h => ⟨_, h.1, h.2, rfl⟩)) ?_
    refine .mv 7 rfl rfl rfl rfl ?_
    iterate 2 refine .on rfl (fun a w hS hI hp => does_val (x_extract rfl (hp.V 8 rfl rfl) rfl) rfl) ?_
    refine .on rfl (fun a w hS hI hp => does_var (x_alloc rfl (by kernel_rfl)) (hI.2.2.2.2.2).size) ?_
    exact .nil
  clear hS
  intro at1028 w1029 hS hI hp
  have hBw1029_w := hI.1
  have hBw1029_wL1 := hI.2.1
  have hBw1029_w1004 := hI.2.2.1
  have hBw1029_w1013 := hI.2.2.2.1
  have hBw1029_w1023 := hI.2.2.2.2.1
  have hBw1029_w1024 := hI.2.2.2.2.2
  replace hS := ((((((((hS.nil).cons (hS.get 9 rfl)).cons (hS.get 8 rfl)).cons (hS.get 7 rfl)).cons (hS.get 6 rfl)).cons (hS.get 5 rfl)).cons (hS.get 4 rfl)).cons (hS.get 1 rfl)).cons (hS.get 0 rfl)
  have hv63 : sl _ 63 = (carillonlaw17_DelayPlays.v5 t1027_1 t1027_2 t1027_3 t1027_4 t1027_5 t1027_6 t1027_7 t1027_8 t1027_9 t1027_10 t1027_11 t1027_12 t1027_13 t1027_14 t1027_15 t1027_16 t1027_17 t1027_18 t1027_19 t1027_20 t1027_21 t1027_22 t1027_23) := hp 9 (by decide)
  have hv64 : sl _ 64 = .bool t1027_24 := hp 10 (by decide)
  obtain ⟨g1030, hv13, hgeg1030, hbxg1030⟩ := (show IsB _ 34 _ (sl _ 13) _ from hp 11 (by decide))
  have hne1031 : g1030 ≠ gL1_3 := Nat.ne_of_gt (Nat.lt_of_lt_of_le (blk_lt ((hBw1024_wL1.block gL1_3 (blk_lt hbxLgL1_3)).trans hbxLgL1_3)) hgeg1030)
  have hne1032 : g1030 ≠ gL1_7 := Nat.ne_of_gt (Nat.lt_of_lt_of_le (blk_lt ((hBw1024_wL1.block gL1_7 (blk_lt hbxLgL1_7)).trans hbxLgL1_7)) hgeg1030)
  have hne1033 : g1030 ≠ gL1_8 := Nat.ne_of_gt (Nat.lt_of_lt_of_le (blk_lt ((hBw1024_wL1.block gL1_8 (blk_lt hbxLgL1_8)).trans hbxLgL1_8)) hgeg1030)
  have hne1034 : g1030 ≠ g1009 := Nat.ne_of_gt (Nat.lt_of_lt_of_le (blk_lt ((hBw1024_w1013.block g1009 (blk_lt hbxw1013)).trans hbxw1013)) hgeg1030)
  have hne1035 : g1030 ≠ g1018 := Nat.ne_of_gt (Nat.lt_of_lt_of_le (blk_lt ((hBw1024_w1023.block g1018 (blk_lt hbxw1023)).trans hbxw1023)) hgeg1030)
  have hBw1029_w1029 := Below.refl w1029.heap.size w1029
  have hS := hS.cons hv63
  have hS := hS.cons hv64
  have hS := hS.cons hv13
  clear hp hI hv63 hv64 hv13
  show wpList _ _ _ [_, _] _ _
  refine list_step rfl (does_storeAll (g := g1030) (cs := (carillonlaw17_DelayPlays.c6 t1027_1 t1027_2 t1027_3 t1027_4 t1027_5 t1027_6 t1027_7 t1027_8 t1027_9 t1027_10 t1027_11 t1027_12 t1027_13 t1027_14 t1027_15 t1027_16 t1027_17 t1027_18 t1027_19 t1027_20 t1027_21 t1027_22 t1027_23)) rfl (hS.get 0 rfl) (hS.get 2 rfl) ((hBw1029_w1029.block g1030 (blk_lt hbxg1030)).trans hbxg1030) (by kernel_rfl) (by kernel_rfl) (by kernel_rfl)) ?_
  rintro vw1036 w1036 ⟨rfl, hbxw1036, hT⟩
  have hBw1036_w := hT.below hBw1029_w (Nat.le_trans (hBw1024_w).size hgeg1030) (hBw1029_w).size
  have hBw1036_wL1 := hT.below hBw1029_wL1 (Nat.le_trans (hBw1024_wL1).size hgeg1030) (hBw1029_wL1).size
  have hBw1036_w1004 := hT.below hBw1029_w1004 (Nat.le_trans (hBw1024_w1004).size hgeg1030) (hBw1029_w1004).size
  have hBw1036_w1013 := hT.below hBw1029_w1013 (Nat.le_trans (hBw1024_w1013).size hgeg1030) (hBw1029_w1013).size
  have hBw1036_w1023 := hT.below hBw1029_w1023 (Nat.le_trans (hBw1024_w1023).size hgeg1030) (hBw1029_w1023).size
  have hBw1036_w1024 := hT.below hBw1029_w1024 hgeg1030 (hBw1029_w1024).size
  have hBw1036_w1036 := Below.refl w1036.heap.size w1036
  clear hT
  refine list_step rfl (R := fun v w' => Below _ _ w' ∧ (VB t1027_24) v w') (does_val (x_assign rfl (hS.get 1 rfl)) rfl) ?_
  rintro vw1037 w1037 ⟨hb, he⟩
  have hBw1037_w := below_step hBw1036_w hb
  have hBw1037_wL1 := below_step hBw1036_wL1 hb
  have hBw1037_w1004 := below_step hBw1036_w1004 hb
  have hBw1037_w1013 := below_step hBw1036_w1013 hb
  have hBw1037_w1023 := below_step hBw1036_w1023 hb
  have hBw1037_w1024 := below_step hBw1036_w1024 hb
  have hBw1037_w1036 := below_step hBw1036_w1036 hb
  have hBw1037_w1037 := Below.refl w1037.heap.size w1037
  obtain rfl : vw1037 = .bool t1027_24 := he
  refine hS.next (v := .bool t1027_24) (d := 14) rfl (by decide) (by rfl) ?_
  clear hS
  intro at1038 hS
  refine wpList_nil ?_
  refine hK1026 _ _ ?_
  (try clear hK1026 K1026)
  refine wp_seq_k (fun K1039 hK1039 => ?_)
  have J3 : ∀ (aL3 : Act) (wL3 : World) (y3_2 : List (S36)) (AL3_2 : Option Addr) (CL3_2 : Nat) (x3_3_0 x3_3_1 : Int) (gL3_3 : Nat) (x3_7_0 x3_7_1 x3_7_2 x3_7_3 x3_7_4 : Int) (x3_7_5 x3_7_6 : Bool) (gL3_7 : Nat) (x3_8_0 x3_8_1 x3_8_2 : Int) (x3_8_3 x3_8_4 : Bool) (x3_8_5 x3_8_6 : Int) (gL3_8 : Nat) (x3_9 x3_10_0 x3_10_1 x3_10_2 x3_10_3 x3_10_4 x3_10_5 x3_10_6 x3_10_7 x3_10_8 x3_10_9 x3_10_10 x3_10_11 x3_10_12 x3_10_13 x3_10_14 x3_10_15 x3_10_16 x3_10_17 x3_10_18 x3_10_19 x3_10_20 x3_10_21 x3_10_22 x3_10_23 x3_10_24 x3_10_25 : Int) (x3_10_26 : Bool) (gL3_10 : Nat), carillonlaw17_DelayPlays.j3 k (carillonlaw17_DelayPlays.l1 k n1) y3_2 x3_3_0 x3_3_1 x3_7_0 x3_7_1 x3_7_2 x3_7_3 x3_7_4 x3_7_5 x3_7_6 x3_8_0 x3_8_1 x3_8_2 x3_8_3 x3_8_4 x3_8_5 x3_8_6 x3_9 x3_10_0 x3_10_1 x3_10_2 x3_10_3 x3_10_4 x3_10_5 x3_10_6 x3_10_7 x3_10_8 x3_10_9 x3_10_10 x3_10_11 x3_10_12 x3_10_13 x3_10_14 x3_10_15 x3_10_16 x3_10_17 x3_10_18 x3_10_19 x3_10_20 x3_10_21 x3_10_22 x3_10_23 x3_10_24 x3_10_25 x3_10_26 = some true → St 144 [(2, .slice AL3_2 y3_2.length CL3_2), (3, .pointer (some ⟨gL3_3, 0, none⟩)), (7, .pointer (some ⟨gL3_7, 0, none⟩)), (8, .pointer (some ⟨gL3_8, 0, none⟩)), (9, .int .i64 x3_9), (10, .pointer (some ⟨gL3_10, 0, none⟩))] aL3 → Below w.heap.size w wL3 → y3_2.length ≤ CL3_2 → Kd.C k36 w AL3_2 y3_2.length y3_2 → w.heap.size ≤ gL3_3 → wL3.heap[gL3_3]? = some (.cells #[.int .u64 x3_3_0, .int .i64 x3_3_1] 24 (0, 0)) → w.heap.size ≤ gL3_7 → wL3.heap[gL3_7]? = some (.cells (carillonlaw17_DelayPlays.c0 x3_7_0 x3_7_1 x3_7_2 x3_7_3 x3_7_4 x3_7_5 x3_7_6) 54 (0, 0)) → w.heap.size ≤ gL3_8 → wL3.heap[gL3_8]? = some (.cells (carillonlaw17_DelayPlays.c2 x3_8_0 x3_8_1 x3_8_2 x3_8_3 x3_8_4 x3_8_5 x3_8_6) 30 (0, 0)) → w.heap.size ≤ gL3_10 → wL3.heap[gL3_10]? = some (.cells (carillonlaw17_DelayPlays.c4 x3_10_0 x3_10_1 x3_10_2 x3_10_3 x3_10_4 x3_10_5 x3_10_6 x3_10_7 x3_10_8 x3_10_9 x3_10_10 x3_10_11 x3_10_12 x3_10_13 x3_10_14 x3_10_15 x3_10_16 x3_10_17 x3_10_18 x3_10_19 x3_10_20 x3_10_21 x3_10_22 x3_10_23 x3_10_24 x3_10_25 x3_10_26) 36 (0, 0)) → gL3_7 ≠ gL3_3 → gL3_8 ≠ gL3_3 → gL3_8 ≠ gL3_7 → gL3_10 ≠ gL3_3 → gL3_10 ≠ gL3_7 → gL3_10 ≠ gL3_8 → K1039 aL3 wL3 := by
    intro aL3 wL3 y3_2 AL3_2 CL3_2 x3_3_0 x3_3_1 gL3_3 x3_7_0 x3_7_1 x3_7_2 x3_7_3 x3_7_4 x3_7_5 x3_7_6 gL3_7 x3_8_0 x3_8_1 x3_8_2 x3_8_3 x3_8_4 x3_8_5 x3_8_6 gL3_8 x3_9 x3_10_0 x3_10_1 x3_10_2 x3_10_3 x3_10_4 x3_10_5 x3_10_6 x3_10_7 x3_10_8 x3_10_9 x3_10_10 x3_10_11 x3_10_12 x3_10_13 x3_10_14 x3_10_15 x3_10_16 x3_10_17 x3_10_18 x3_10_19 x3_10_20 x3_10_21 x3_10_22 x3_10_23 x3_10_24 x3_10_25 x3_10_26 gL3_10 H hS hBwL3_w hr3_2 hcL3_2 hgeLgL3_3 hbxLgL3_3 hgeLgL3_7 hbxLgL3_7 hgeLgL3_8 hbxLgL3_8 hgeLgL3_10 hbxLgL3_10 hneL3_7_3 hneL3_8_3 hneL3_8_7 hneL3_10_3 hneL3_10_7 hneL3_10_8
    unfold carillonlaw17_DelayPlays.j3 at H
    (try dsimp only at H)
    obtain ⟨t3002, At3002, H⟩ := Option.bind_eq_some_iff.mp H
    by_cases c4 : (if t3002 = 0 then decide (t3002 = 0) else decide (t3002 = 1)) = true
    · rw [if_pos c4] at H
      obtain ⟨t3024, At3024, H⟩ := Option.bind_eq_some_iff.mp H
      obtain ⟨t3024_1, t3024_2, t3024_3, t3024_4, t3024_5, t3024_6, t3024_7, t3024_8, t3024_9, t3024_10, t3024_11, t3024_12, t3024_13, t3024_14, t3024_15, t3024_16, t3024_17, t3024_18, t3024_19, t3024_20, t3024_21, t3024_22, t3024_23, t3024_24, t3024_25, t3024_26, t3024_27, t3024_28, t3024_29, t3024_30⟩ := t3024
      (try dsimp only at H)
      obtain ⟨t3030, At3030, H⟩ := Option.bind_eq_some_iff.mp H
      obtain ⟨t3030_1, t3030_2, t3030_3, t3030_4, t3030_5, t3030_6, t3030_7, t3030_8, t3030_9, t3030_10, t3030_11, t3030_12, t3030_13, t3030_14, t3030_15, t3030_16, t3030_17, t3030_18, t3030_19, t3030_20, t3030_21, t3030_22, t3030_23, t3030_24, t3030_25, t3030_26, t3030_27, t3030_28, t3030_29, t3030_30⟩ := t3030
      (try dsimp only at H)
      by_cases c5 : ((t3024_1 == t3030_1) && ((t3024_2 == t3030_2) && ((t3024_3 == t3030_3) && ((t3024_4 == t3030_4) && ((t3024_5 == t3030_5) && ((t3024_6 == t3030_6) && ((t3024_7 == t3030_7) && ((t3024_8 == t3030_8) && ((t3024_9 == t3030_9) && ((t3024_10 == t3030_10) && ((t3024_11 == t3030_11) && ((t3024_12 == t3030_12) && ((t3024_13 == t3030_13) && ((t3024_14 == t3030_14) && ((t3024_15 == t3030_15) && ((t3024_16 == t3030_16) && ((t3024_17 == t3030_17) && ((t3024_18 == t3030_18) && ((t3024_19 == t3030_19) && ((t3024_20 == t3030_20) && ((t3024_21 == t3030_21) && ((t3024_22 == t3030_22) && (t3024_23 == t3030_23))))))))))))))))))))))) = true
      rotate_left
      · rw [if_neg c5] at H
        exact absurd H (by simp)
      rw [if_pos c5] at H
      have hBwL3_wL3 := Below.refl wL3.heap.size wL3
      refine hK1039 _ _ ?_
      (try clear hK1039 K1039)
      refine wp_seq_k (fun K3001 hK3001 => ?_)
      refine reg_seq (N := 144) (bs := [(2, .slice AL3_2 y3_2.length CL3_2), (3, .pointer (some ⟨gL3_3, 0, none⟩)), (7, .pointer (some ⟨gL3_7, 0, none⟩)), (8, .pointer (some ⟨gL3_8, 0, none⟩)), (9, .int .i64 x3_9), (10, .pointer (some ⟨gL3_10, 0, none⟩))]) (I := fun x => Below w.heap.size w x ∧ Below wL3.heap.size wL3 x) (ps := [VP gL3_10 0, VI x3_10_0, VI t3002]) (by kernel_rfl) ?_ ?_ rfl hS ⟨hBwL3_w, hBwL3_wL3⟩ ?_ ?_
      · exact fun x y hI hb => ⟨below_step hI.1 hb, below_step hI.2 hb⟩
      · exact .v (.v (.v (.nil)))
      · refine .on rfl (fun a w hS hI hp => does_val (x_fieldE (b := 0) rfl (hS.get 5 rfl) Try.underlying36 rfl rfl (by kernel_rfl)) rfl) ?_
        refine .on rfl (fun a w hS hI hp => does_val (x_load1 (d := .int .i64) rfl (hp.V 0 rfl rfl) (by kernel_rfl) rfl ((blk_cell (((hI.2).block gL3_10 (blk_lt hbxLgL3_10)).trans hbxLgL3_10) 0).trans rfl)) rfl) ?_
        refine .on rfl (fun a w hS hI hp => does_call (by kernel_rfl) (ar2 (hp.V 1 rfl rfl) (rfl)) ((carillonlaw00_Place.calls x3_10_0 6 t3002 _  At3002).mono fun _ _ h => ⟨_, h.1, h.2.below, rfl⟩)) ?_
        exact .nil
      clear hS
      intro at3003 w3004 hS hI hp
      have hBw3004_w := hI.1
      have hBw3004_wL3 := hI.2
      have hv75 : sl _ 75 = .int .i64 t3002 := hp 2 (by decide)
      have hBw3004_w3004 := Below.refl w3004.heap.size w3004
      have hS := hS.cons hv75
      clear hp hI hv75
      refine hK3001 _ _ ?_
      (try clear hK3001 K3001)
      refine wp_block ?_
      refine wp_seq_k (fun K3005 hK3005 => ?_)
      refine wp_mono (Q := fun e a' w' => e = Exit.normal ∧ St 144 [(2, .slice AL3_2 y3_2.length CL3_2), (3, .pointer (some ⟨gL3_3, 0, none⟩)), (7, .pointer (some ⟨gL3_7, 0, none⟩)), (8, .pointer (some ⟨gL3_8, 0, none⟩)), (9, .int .i64 x3_9), (10, .pointer (some ⟨gL3_10, 0, none⟩)), (75, .int .i64 t3002), (108, .bool (if t3002 = 0 then decide (t3002 = 0) else decide (t3002 = 1)))] a' ∧ Below w.heap.size w w' ∧ Below wL3.heap.size wL3 w' ∧ Below w3004.heap.size w3004 w') ?_ ?_
      · by_cases d3006_0 : t3002 = 0
        · refine wp_seq_k (fun K3010 hK3010 => ?_)
          refine reg_seq (N := 144) (bs := [(75, .int .i64 t3002), (2, .slice AL3_2 y3_2.length CL3_2), (3, .pointer (some ⟨gL3_3, 0, none⟩)), (7, .pointer (some ⟨gL3_7, 0, none⟩)), (8, .pointer (some ⟨gL3_8, 0, none⟩)), (9, .int .i64 x3_9), (10, .pointer (some ⟨gL3_10, 0, none⟩))]) (I := fun x => Below w.heap.size w x ∧ Below wL3.heap.size wL3 x ∧ Below w3004.heap.size w3004 x) (ps := [VB (decide (t3002 = 0)), VB (decide (t3002 = 0))]) (by kernel_rfl) ?_ ?_ rfl hS ⟨hBw3004_w, hBw3004_wL3, hBw3004_w3004⟩ ?_ ?_
          · exact fun x y hI hb => ⟨below_step hI.1 hb, below_step hI.2.1 hb, below_step hI.2.2 hb⟩
          · exact .v (.v (.nil))
          · refine .on rfl (fun a w hS hI hp => does_val (x_bin rfl (hS.get 0 rfl) (rfl) (b_eql _ _ _ _ _ _)) rfl) ?_
            refine .asg 0 rfl rfl rfl rfl ?_
            exact .nil
          clear hS
          intro at3011 w3012 hS hI hp
          have hBw3012_w := hI.1
          have hBw3012_wL3 := hI.2.1
          have hBw3012_w3004 := hI.2.2
          have hv108 : sl _ 108 = .bool (decide (t3002 = 0)) := hp 1 (by decide)
          have hBw3012_w3012 := Below.refl w3012.heap.size w3012
          have hS := hS.cons hv108
          clear hp hI hv108
          refine hK3010 _ _ ?_
          (try clear hK3010 K3010)
          refine wp_cond_true ((hS.get 0 rfl).trans (bT (decide_eq_true d3006_0))) ?_
          refine wp_skip ?_
          (try simp only [Exit.then, Exit.inBlock, reduceIte])
          exact ⟨by trivial, ((((((((hS.nil).cons ((hS.get 0 rfl).trans (congrArg (Value.bool) (by simp only [if_pos d3006_0])))).cons (hS.get 1 rfl)).cons (hS.get 7 rfl)).cons (hS.get 6 rfl)).cons (hS.get 5 rfl)).cons (hS.get 4 rfl)).cons (hS.get 3 rfl)).cons (hS.get 2 rfl), hBw3012_w, hBw3012_wL3, hBw3012_w3004⟩
        · refine wp_seq_k (fun K3013 hK3013 => ?_)
          refine reg_seq (N := 144) (bs := [(75, .int .i64 t3002), (2, .slice AL3_2 y3_2.length CL3_2), (3, .pointer (some ⟨gL3_3, 0, none⟩)), (7, .pointer (some ⟨gL3_7, 0, none⟩)), (8, .pointer (some ⟨gL3_8, 0, none⟩)), (9, .int .i64 x3_9), (10, .pointer (some ⟨gL3_10, 0, none⟩))]) (I := fun x => Below w.heap.size w x ∧ Below wL3.heap.size wL3 x ∧ Below w3004.heap.size w3004 x) (ps := [VB (decide (t3002 = 0)), VB (decide (t3002 = 0))]) (by kernel_rfl) ?_ ?_ rfl hS ⟨hBw3004_w, hBw3004_wL3, hBw3004_w3004⟩ ?_ ?_
          · exact fun x y hI hb => ⟨below_step hI.1 hb, below_step hI.2.1 hb, below_step hI.2.2 hb⟩
          · exact .v (.v (.nil))
          · refine .on rfl (fun a w hS hI hp => does_val (x_bin rfl (hS.get 0 rfl) (rfl) (b_eql _ _ _ _ _ _)) rfl) ?_
            refine .asg 0 rfl rfl rfl rfl ?_
            exact .nil
          clear hS
          intro at3014 w3015 hS hI hp
          have hBw3015_w := hI.1
          have hBw3015_wL3 := hI.2.1
          have hBw3015_w3004 := hI.2.2
          have hv108 : sl _ 108 = .bool (decide (t3002 = 0)) := hp 1 (by decide)
          have hBw3015_w3015 := Below.refl w3015.heap.size w3015
          have hS := hS.cons hv108
          clear hp hI hv108
          refine hK3013 _ _ ?_
          (try clear hK3013 K3013)
          refine wp_cond_false ((hS.get 0 rfl).trans (bF (decide_eq_false d3006_0))) ?_
          replace hS := (((((((hS.nil).cons (hS.get 7 rfl)).cons (hS.get 6 rfl)).cons (hS.get 5 rfl)).cons (hS.get 4 rfl)).cons (hS.get 3 rfl)).cons (hS.get 2 rfl)).cons (hS.get 1 rfl)
          refine reg_seq (N := 144) (bs := [(75, .int .i64 t3002), (2, .slice AL3_2 y3_2.length CL3_2), (3, .pointer (some ⟨gL3_3, 0, none⟩)), (7, .pointer (some ⟨gL3_7, 0, none⟩)), (8, .pointer (some ⟨gL3_8, 0, none⟩)), (9, .int .i64 x3_9), (10, .pointer (some ⟨gL3_10, 0, none⟩))]) (I := fun x => Below w.heap.size w x ∧ Below wL3.heap.size wL3 x ∧ Below w3004.heap.size w3004 x ∧ Below w3015.heap.size w3015 x) (ps := [VB (decide (t3002 = 1)), VB (decide (t3002 = 1))]) (by kernel_rfl) ?_ ?_ rfl hS ⟨hBw3015_w, hBw3015_wL3, hBw3015_w3004, hBw3015_w3015⟩ ?_ ?_
          · exact fun x y hI hb => ⟨below_step hI.1 hb, below_step hI.2.1 hb, below_step hI.2.2.1 hb, below_step hI.2.2.2 hb⟩
          · exact .v (.v (.nil))
          · refine .on rfl (fun a w hS hI hp => does_val (x_bin rfl (hS.get 0 rfl) (rfl) (b_eql _ _ _ _ _ _)) rfl) ?_
            refine .asg 0 rfl rfl rfl rfl ?_
            exact .nil
          clear hS
          intro at3016 w3017 hS hI hp
          have hBw3017_w := hI.1
          have hBw3017_wL3 := hI.2.1
          have hBw3017_w3004 := hI.2.2.1
          have hBw3017_w3015 := hI.2.2.2
          have hv108 : sl _ 108 = .bool (decide (t3002 = 1)) := hp 1 (by decide)
          have hBw3017_w3017 := Below.refl w3017.heap.size w3017
          have hS := hS.cons hv108
          clear hp hI hv108
          (try simp only [Exit.then, Exit.inBlock, reduceIte])
          exact ⟨by trivial, ((((((((hS.nil).cons ((hS.get 0 rfl).trans (congrArg (Value.bool) (by simp only [if_neg d3006_0])))).cons (hS.get 1 rfl)).cons (hS.get 7 rfl)).cons (hS.get 6 rfl)).cons (hS.get 5 rfl)).cons (hS.get 4 rfl)).cons (hS.get 3 rfl)).cons (hS.get 2 rfl), hBw3017_w, hBw3017_wL3, hBw3017_w3004⟩
      rintro e3019 at3019 w3018 ⟨rfl, hS, hBw3018_w, hBw3018_wL3, hBw3018_w3004⟩
      have hBw3018_w3018 := Below.refl w3018.heap.size w3018
      (try simp only [Exit.then, Exit.inBlock, reduceIte])
      refine hK3005 _ _ ?_
      (try clear hK3005 K3005)
      refine wp_cond_true ((hS.get 7 rfl).trans (bT c4)) ?_
      refine wp_seq_k (fun K3020 hK3020 => ?_)
      refine reg_float (N := 144) (bs := [(2, .slice AL3_2 y3_2.length CL3_2), (3, .pointer (some ⟨gL3_3, 0, none⟩)), (7, .pointer (some ⟨gL3_7, 0, none⟩)), (8, .pointer (some ⟨gL3_8, 0, none⟩)), (9, .int .i64 x3_9), (10, .pointer (some ⟨gL3_10, 0, none⟩)), (75, .int .i64 t3002), (108, .bool (if t3002 = 0 then decide (t3002 = 0) else decide (t3002 = 1)))]) (I := fun x => Below w.heap.size w x ∧ Below wL3.heap.size wL3 x ∧ Below w3018.heap.size w3018 x) (C := fun x => x.heap[gL3_10]? = some (.cells (carillonlaw17_DelayPlays.c4 x3_10_0 x3_10_1 x3_10_2 x3_10_3 x3_10_4 x3_10_5 x3_10_6 x3_10_7 x3_10_8 x3_10_9 x3_10_10 x3_10_11 x3_10_12 x3_10_13 x3_10_14 x3_10_15 x3_10_16 x3_10_17 x3_10_18 x3_10_19 x3_10_20 x3_10_21 x3_10_22 x3_10_23 x3_10_24 x3_10_25 x3_10_26) 36 (0, 0))) [true, true, true, true, true, false, true, true, true, false, false] [.pointer (some ⟨gL3_7, 0, none⟩), .pointer (some ⟨gL3_10, 1, none⟩), .int .i64 x3_10_1, .pointer (some ⟨gL3_10, 2, none⟩), .int .i64 x3_10_2, undef, .pointer (some ⟨gL3_8, 0, none⟩), .pointer (some ⟨gL3_10, 1, none⟩), .int .i64 x3_10_1, undef, undef] [0, 0, 2, 0, 8, 31, 0, 0, 128, 511, 1023] (by kernel_rfl) (by kernel_rfl) rfl ?_ ?_ hS ⟨hBw3018_w, hBw3018_wL3, hBw3018_w3018⟩ ?_ ?_
      · exact fun x y hI hb => ⟨below_step hI.1 hb, below_step hI.2.1 hb, below_step hI.2.2 hb⟩
      · exact fun x hI => ((hI.2.1.block gL3_10 (blk_lt hbxLgL3_10)).trans hbxLgL3_10)
      · intro a hS hp
        refine .g (fun w hC => GRun.on rfl (x_move rfl (hS.get 2 rfl))) ?_
        refine .g (fun w hC => GRun.on rfl (x_fieldE (b := 0) rfl (hS.get 5 rfl) Try.underlying36 rfl rfl (by kernel_rfl))) ?_
        refine .g (fun w hC => GRun.on rfl (x_load1 (d := .int .i64) rfl ((hp.get 1 rfl rfl rfl)) (by kernel_rfl) rfl ((blk_cell ((((Below.refl _ _)).block gL3_10 (blk_lt hC)).trans hC) 1).trans rfl))) ?_
        refine .g (fun w hC => GRun.on rfl (x_fieldE (b := 0) rfl (hS.get 5 rfl) Try.underlying36 rfl rfl (by kernel_rfl))) ?_
        refine .g (fun w hC => GRun.on rfl (x_load1 (d := .int .i64) rfl ((hp.get 3 rfl rfl rfl)) (by kernel_rfl) rfl ((blk_cell ((((Below.refl _ _)).block gL3_10 (blk_lt hC)).trans hC) 2).trans rfl))) ?_
        refine .t ?_
        refine .g (fun w hC => GRun.on rfl (x_move rfl (hS.get 3 rfl))) ?_
        refine .g (fun w hC => GRun.on rfl (x_fieldE (b := 0) rfl (hS.get 5 rfl) Try.underlying36 rfl rfl (by kernel_rfl))) ?_
        refine .g (fun w hC => GRun.on rfl (x_load1 (d := .int .i64) rfl ((hp.get 7 rfl rfl rfl)) (by kernel_rfl) rfl ((blk_cell ((((Below.refl _ _)).block gL3_10 (blk_lt hC)).trans hC) 1).trans rfl))) ?_
        iterate 2 refine .t ?_
        exact .nil
      clear hS
      intro at3021 w3022 hS hp hI
      have hBw3022_w := hI.1
      have hBw3022_wL3 := hI.2.1
      have hBw3022_w3018 := hI.2.2
      have hBw3022_w3022 := Below.refl w3022.heap.size w3022
      have hS := hS.cons (show sl _ 111 = .pointer (some ⟨gL3_7, 0, none⟩) from hp.get 0 rfl rfl rfl)
      have hS := hS.cons (show sl _ 113 = .int .i64 x3_10_1 from hp.get 2 rfl rfl rfl)
      have hS := hS.cons (show sl _ 115 = .int .i64 x3_10_2 from hp.get 4 rfl rfl rfl)
      have hS := hS.cons (show sl _ 117 = .pointer (some ⟨gL3_8, 0, none⟩) from hp.get 6 rfl rfl rfl)
      have hS := hS.cons (show sl _ 119 = .int .i64 x3_10_1 from hp.get 8 rfl rfl rfl)
      clear hp hI
      show ListC _ _ _ _ [_, _, _] _ _
      refine lc_step rfl (R := fun v w' => v = (carillonlaw17_DelayPlays.v5 t3024_1 t3024_2 t3024_3 t3024_4 t3024_5 t3024_6 t3024_7 t3024_8 t3024_9 t3024_10 t3024_11 t3024_12 t3024_13 t3024_14 t3024_15 t3024_16 t3024_17 t3024_18 t3024_19 t3024_20 t3024_21 t3024_22 t3024_23) ∧ w'.heap[gL3_7]? = some (.cells (carillonlaw17_DelayPlays.c0 t3024_24 t3024_25 t3024_26 t3024_27 t3024_28 t3024_29 t3024_30) 54 (0, 0)) ∧ Tch gL3_7 _ w') (does_call (by kernel_rfl) (ar3 (hS.get 4 rfl) (hS.get 3 rfl) (hS.get 2 rfl)) ((delay_Exchange_Request.calls gL3_7 x3_7_0 x3_7_1 x3_7_2 x3_7_3 x3_7_4 x3_7_5 x3_7_6 x3_10_1 x3_10_2 t3024_1 t3024_2 t3024_3 t3024_4 t3024_5 t3024_6 t3024_7 t3024_8 t3024_9 t3024_10 t3024_11 t3024_12 t3024_13 t3024_14 t3024_15 t3024_16 t3024_17 t3024_18 t3024_19 t3024_20 t3024_21 t3024_22 t3024_23 t3024_24 t3024_25 t3024_26 t3024_27 t3024_28 t3024_29 t3024_30 _ ((hBw3022_wL3.block gL3_7 (blk_lt hbxLgL3_7)).trans hbxLgL3_7) At3024).mono fun _ _ h => ⟨_, h.1, rfl, h.2⟩)) ?_
      rintro vw3023 w3023 ⟨rfl, hbxw3023, hT⟩
      have hn3025 := hT.blk ((hBw3022_wL3.block gL3_3 (blk_lt hbxLgL3_3)).trans hbxLgL3_3) (Ne.symm hneL3_7_3)
      have hn3026 := hT.blk ((hBw3022_wL3.block gL3_8 (blk_lt hbxLgL3_8)).trans hbxLgL3_8) hneL3_8_7
      have hn3027 := hT.blk ((hBw3022_wL3.block gL3_10 (blk_lt hbxLgL3_10)).trans hbxLgL3_10) hneL3_10_7
      have hBw3023_w := hT.below hBw3022_w hgeLgL3_7 (hBw3022_w).size
      have hBw3023_w3023 := Below.refl w3023.heap.size w3023
      clear hT
      refine ⟨((hBw3023_w3023.block gL3_10 (blk_lt hn3027)).trans hn3027), ?_⟩
      refine hS.nextC (v := (carillonlaw17_DelayPlays.v5 t3024_1 t3024_2 t3024_3 t3024_4 t3024_5 t3024_6 t3024_7 t3024_8 t3024_9 t3024_10 t3024_11 t3024_12 t3024_13 t3024_14 t3024_15 t3024_16 t3024_17 t3024_18 t3024_19 t3024_20 t3024_21 t3024_22 t3024_23)) (d := 116) rfl (by decide) (by rfl) ?_
      clear hS
      intro at3028 hS
      refine lc_step rfl (R := fun v w' => v = (carillonlaw17_DelayPlays.v5 t3030_1 t3030_2 t3030_3 t3030_4 t3030_5 t3030_6 t3030_7 t3030_8 t3030_9 t3030_10 t3030_11 t3030_12 t3030_13 t3030_14 t3030_15 t3030_16 t3030_17 t3030_18 t3030_19 t3030_20 t3030_21 t3030_22 t3030_23) ∧ w'.heap[gL3_8]? = some (.cells (carillonlaw17_DelayPlays.c2 t3030_24 t3030_25 t3030_26 t3030_27 t3030_28 t3030_29 t3030_30) 30 (0, 0)) ∧ Tch gL3_8 _ w') (does_call (by kernel_rfl) (ar2 (hS.get 2 rfl) (hS.get 1 rfl)) ((carillonref17_X_Request.calls gL3_8 x3_8_0 x3_8_1 x3_8_2 x3_8_3 x3_8_4 x3_8_5 x3_8_6 x3_10_1 t3030_1 t3030_2 t3030_3 t3030_4 t3030_5 t3030_6 t3030_7 t3030_8 t3030_9 t3030_10 t3030_11 t3030_12 t3030_13 t3030_14 t3030_15 t3030_16 t3030_17 t3030_18 t3030_19 t3030_20 t3030_21 t3030_22 t3030_23 t3030_24 t3030_25 t3030_26 t3030_27 t3030_28 t3030_29 t3030_30 _ ((hBw3023_w3023.block gL3_8 (blk_lt hn3026)).trans hn3026) At3030).mono fun _ _ h => ⟨_, h.1, rfl, h.2⟩)) ?_
      rintro vw3029 w3029 ⟨rfl, hbxw3029, hT⟩
      have hn3031 := hT.blk ((hBw3023_w3023.block gL3_3 (blk_lt hn3025)).trans hn3025) (Ne.symm hneL3_8_3)
      have hn3032 := hT.blk ((hBw3023_w3023.block gL3_7 (blk_lt hbxw3023)).trans hbxw3023) (Ne.symm hneL3_8_7)
      have hn3033 := hT.blk ((hBw3023_w3023.block gL3_10 (blk_lt hn3027)).trans hn3027) hneL3_10_8
      have hBw3029_w := hT.below hBw3023_w hgeLgL3_8 (hBw3023_w).size
      have hBw3029_w3029 := Below.refl w3029.heap.size w3029
      clear hT
      refine ⟨((hBw3029_w3029.block gL3_10 (blk_lt hn3033)).trans hn3033), ?_⟩
      refine hS.nextC (v := (carillonlaw17_DelayPlays.v5 t3030_1 t3030_2 t3030_3 t3030_4 t3030_5 t3030_6 t3030_7 t3030_8 t3030_9 t3030_10 t3030_11 t3030_12 t3030_13 t3030_14 t3030_15 t3030_16 t3030_17 t3030_18 t3030_19 t3030_20 t3030_21 t3030_22 t3030_23)) (d := 120) rfl (by decide) (by rfl) ?_
      clear hS
      intro at3034 hS
      refine lc_step rfl (R := fun v w' => Below _ _ w' ∧ (VB (!((t3024_1 == t3030_1) && ((t3024_2 == t3030_2) && ((t3024_3 == t3030_3) && ((t3024_4 == t3030_4) && ((t3024_5 == t3030_5) && ((t3024_6 == t3030_6) && ((t3024_7 == t3030_7) && ((t3024_8 == t3030_8) && ((t3024_9 == t3030_9) && ((t3024_10 == t3030_10) && ((t3024_11 == t3030_11) && ((t3024_12 == t3030_12) && ((t3024_13 == t3030_13) && ((t3024_14 == t3030_14) && ((t3024_15 == t3030_15) && ((t3024_16 == t3030_16) && ((t3024_17 == t3030_17) && ((t3024_18 == t3030_18) && ((t3024_19 == t3030_19) && ((t3024_20 == t3030_20) && ((t3024_21 == t3030_21) && ((t3024_22 == t3030_22) && (t3024_23 == t3030_23))))))))))))))))))))))))) v w') (does_val (x_bin rfl (hS.get 1 rfl) (hS.get 0 rfl) (carillonlaw17_DelayPlays.neq34 _ _ _ t3024_1 t3024_2 t3024_3 t3024_4 t3024_5 t3024_6 t3024_7 t3024_8 t3024_9 t3024_10 t3024_11 t3024_12 t3024_13 t3024_14 t3024_15 t3024_16 t3024_17 t3024_18 t3024_19 t3024_20 t3024_21 t3024_22 t3024_23 t3030_1 t3030_2 t3030_3 t3030_4 t3030_5 t3030_6 t3030_7 t3030_8 t3030_9 t3030_10 t3030_11 t3030_12 t3030_13 t3030_14 t3030_15 t3030_16 t3030_17 t3030_18 t3030_19 t3030_20 t3030_21 t3030_22 t3030_23)) rfl) ?_
      rintro vw3035 w3035 ⟨hb, he⟩
      have hBw3035_w := below_step hBw3029_w hb
      have hBw3035_w3029 := below_step hBw3029_w3029 hb
      have hBw3035_w3035 := Below.refl w3035.heap.size w3035
      obtain rfl : vw3035 = .bool (!((t3024_1 == t3030_1) && ((t3024_2 == t3030_2) && ((t3024_3 == t3030_3) && ((t3024_4 == t3030_4) && ((t3024_5 == t3030_5) && ((t3024_6 == t3030_6) && ((t3024_7 == t3030_7) && ((t3024_8 == t3030_8) && ((t3024_9 == t3030_9) && ((t3024_10 == t3030_10) && ((t3024_11 == t3030_11) && ((t3024_12 == t3030_12) && ((t3024_13 == t3030_13) && ((t3024_14 == t3030_14) && ((t3024_15 == t3030_15) && ((t3024_16 == t3030_16) && ((t3024_17 == t3030_17) && ((t3024_18 == t3030_18) && ((t3024_19 == t3030_19) && ((t3024_20 == t3030_20) && ((t3024_21 == t3030_21) && ((t3024_22 == t3030_22) && (t3024_23 == t3030_23)))))))))))))))))))))))) := he
      refine ⟨((hBw3035_w3029.block gL3_10 (blk_lt hn3033)).trans hn3033), ?_⟩
      refine hS.nextC (v := .bool (!((t3024_1 == t3030_1) && ((t3024_2 == t3030_2) && ((t3024_3 == t3030_3) && ((t3024_4 == t3030_4) && ((t3024_5 == t3030_5) && ((t3024_6 == t3030_6) && ((t3024_7 == t3030_7) && ((t3024_8 == t3030_8) && ((t3024_9 == t3030_9) && ((t3024_10 == t3030_10) && ((t3024_11 == t3030_11) && ((t3024_12 == t3030_12) && ((t3024_13 == t3030_13) && ((t3024_14 == t3030_14) && ((t3024_15 == t3030_15) && ((t3024_16 == t3030_16) && ((t3024_17 == t3030_17) && ((t3024_18 == t3030_18) && ((t3024_19 == t3030_19) && ((t3024_20 == t3030_20) && ((t3024_21 == t3030_21) && ((t3024_22 == t3030_22) && (t3024_23 == t3030_23))))))))))))))))))))))))) (d := 121) rfl (by decide) (by rfl) ?_
      clear hS
      intro at3036 hS
      refine lc_nil ?_
      refine hK3020 _ _ ?_
      (try clear hK3020 K3020)
      refine wp_cond_false ((hS.get 0 rfl).trans (bF (congrArg (!·) c5))) ?_
      refine wp_skip ?_
      replace hS := (((((hS.nil).cons (hS.get 12 rfl)).cons (hS.get 11 rfl)).cons (hS.get 10 rfl)).cons (hS.get 9 rfl)).cons (hS.get 8 rfl)
      (try simp only [Exit.then, Exit.inBlock])
      exact J2 _ _ y3_2 AL3_2 CL3_2 x3_3_0 x3_3_1 gL3_3 t3024_24 t3024_25 t3024_26 t3024_27 t3024_28 t3024_29 t3024_30 gL3_7 t3030_24 t3030_25 t3030_26 t3030_27 t3030_28 t3030_29 t3030_30 gL3_8 x3_9 H hS hBw3035_w hr3_2 (hcL3_2) hgeLgL3_3 ((hBw3035_w3029.block gL3_3 (blk_lt hn3031)).trans hn3031) hgeLgL3_7 ((hBw3035_w3029.block gL3_7 (blk_lt hn3032)).trans hn3032) hgeLgL3_8 ((hBw3035_w3029.block gL3_8 (blk_lt hbxw3029)).trans hbxw3029) hneL3_7_3 hneL3_8_3 hneL3_8_7
    rw [if_neg c4] at H
    by_cases c5 : t3002 = 2
    · rw [if_pos c5] at H
      obtain ⟨t3027, At3027, H⟩ := Option.bind_eq_some_iff.mp H
      obtain ⟨t3027_1, t3027_2, t3027_3, t3027_4, t3027_5, t3027_6, t3027_7, t3027_8⟩ := t3027
      (try dsimp only at H)
      obtain ⟨t3033, At3033, H⟩ := Option.bind_eq_some_iff.mp H
      obtain ⟨t3033_1, t3033_2, t3033_3, t3033_4, t3033_5, t3033_6, t3033_7, t3033_8⟩ := t3033
      (try dsimp only at H)
      by_cases c6 : (t3027_1 == t3033_1) = true
      rotate_left
      · rw [if_neg c6] at H
        exact absurd H (by simp)
      rw [if_pos c6] at H
      have hBwL3_wL3 := Below.refl wL3.heap.size wL3
      refine hK1039 _ _ ?_
      (try clear hK1039 K1039)
      refine wp_seq_k (fun K3001 hK3001 => ?_)
      refine reg_seq (N := 144) (bs := [(2, .slice AL3_2 y3_2.length CL3_2), (3, .pointer (some ⟨gL3_3, 0, none⟩)), (7, .pointer (some ⟨gL3_7, 0, none⟩)), (8, .pointer (some ⟨gL3_8, 0, none⟩)), (9, .int .i64 x3_9), (10, .pointer (some ⟨gL3_10, 0, none⟩))]) (I := fun x => Below w.heap.size w x ∧ Below wL3.heap.size wL3 x) (ps := [VP gL3_10 0, VI x3_10_0, VI t3002]) (by kernel_rfl) ?_ ?_ rfl hS ⟨hBwL3_w, hBwL3_wL3⟩ ?_ ?_
      · exact fun x y hI hb => ⟨below_step hI.1 hb, below_step hI.2 hb⟩
      · exact .v (.v (.v (.nil)))
      · refine .on rfl (fun a w hS hI hp => does_val (x_fieldE (b := 0) rfl (hS.get 5 rfl) Try.underlying36 rfl rfl (by kernel_rfl)) rfl) ?_
        refine .on rfl (fun a w hS hI hp => does_val (x_load1 (d := .int .i64) rfl (hp.V 0 rfl rfl) (by kernel_rfl) rfl ((blk_cell (((hI.2).block gL3_10 (blk_lt hbxLgL3_10)).trans hbxLgL3_10) 0).trans rfl)) rfl) ?_
        refine .on rfl (fun a w hS hI hp => does_call (by kernel_rfl) (ar2 (hp.V 1 rfl rfl) (rfl)) ((carillonlaw00_Place.calls x3_10_0 6 t3002 _  At3002).mono fun _ _ h => ⟨_, h.1, h.2.below, rfl⟩)) ?_
        exact .nil
      clear hS
      intro at3003 w3004 hS hI hp
      have hBw3004_w := hI.1
      have hBw3004_wL3 := hI.2
      have hv75 : sl _ 75 = .int .i64 t3002 := hp 2 (by decide)
      have hBw3004_w3004 := Below.refl w3004.heap.size w3004
      have hS := hS.cons hv75
      clear hp hI hv75
      refine hK3001 _ _ ?_
      (try clear hK3001 K3001)
      refine wp_block ?_
      refine wp_seq_k (fun K3005 hK3005 => ?_)
      refine wp_mono (Q := fun e a' w' => e = Exit.normal ∧ St 144 [(2, .slice AL3_2 y3_2.length CL3_2), (3, .pointer (some ⟨gL3_3, 0, none⟩)), (7, .pointer (some ⟨gL3_7, 0, none⟩)), (8, .pointer (some ⟨gL3_8, 0, none⟩)), (9, .int .i64 x3_9), (10, .pointer (some ⟨gL3_10, 0, none⟩)), (75, .int .i64 t3002), (108, .bool (if t3002 = 0 then decide (t3002 = 0) else decide (t3002 = 1)))] a' ∧ Below w.heap.size w w' ∧ Below wL3.heap.size wL3 w' ∧ Below w3004.heap.size w3004 w') ?_ ?_
      · by_cases d3006_0 : t3002 = 0
        · refine wp_seq_k (fun K3010 hK3010 => ?_)
          refine reg_seq (N := 144) (bs := [(75, .int .i64 t3002), (2, .slice AL3_2 y3_2.length CL3_2), (3, .pointer (some ⟨gL3_3, 0, none⟩)), (7, .pointer (some ⟨gL3_7, 0, none⟩)), (8, .pointer (some ⟨gL3_8, 0, none⟩)), (9, .int .i64 x3_9), (10, .pointer (some ⟨gL3_10, 0, none⟩))]) (I := fun x => Below w.heap.size w x ∧ Below wL3.heap.size wL3 x ∧ Below w3004.heap.size w3004 x) (ps := [VB (decide (t3002 = 0)), VB (decide (t3002 = 0))]) (by kernel_rfl) ?_ ?_ rfl hS ⟨hBw3004_w, hBw3004_wL3, hBw3004_w3004⟩ ?_ ?_
          · exact fun x y hI hb => ⟨below_step hI.1 hb, below_step hI.2.1 hb, below_step hI.2.2 hb⟩
          · exact .v (.v (.nil))
          · refine .on rfl (fun a w hS hI hp => does_val (x_bin rfl (hS.get 0 rfl) (rfl) (b_eql _ _ _ _ _ _)) rfl) ?_
            refine .asg 0 rfl rfl rfl rfl ?_
            exact .nil
          clear hS
          intro at3011 w3012 hS hI hp
          have hBw3012_w := hI.1
          have hBw3012_wL3 := hI.2.1
          have hBw3012_w3004 := hI.2.2
          have hv108 : sl _ 108 = .bool (decide (t3002 = 0)) := hp 1 (by decide)
          have hBw3012_w3012 := Below.refl w3012.heap.size w3012
          have hS := hS.cons hv108
          clear hp hI hv108
          refine hK3010 _ _ ?_
          (try clear hK3010 K3010)
          refine wp_cond_true ((hS.get 0 rfl).trans (bT (decide_eq_true d3006_0))) ?_
          refine wp_skip ?_
          (try simp only [Exit.then, Exit.inBlock, reduceIte])
          exact ⟨by trivial, ((((((((hS.nil).cons ((hS.get 0 rfl).trans (congrArg (Value.bool) (by simp only [if_pos d3006_0])))).cons (hS.get 1 rfl)).cons (hS.get 7 rfl)).cons (hS.get 6 rfl)).cons (hS.get 5 rfl)).cons (hS.get 4 rfl)).cons (hS.get 3 rfl)).cons (hS.get 2 rfl), hBw3012_w, hBw3012_wL3, hBw3012_w3004⟩
        · refine wp_seq_k (fun K3013 hK3013 => ?_)
          refine reg_seq (N := 144) (bs := [(75, .int .i64 t3002), (2, .slice AL3_2 y3_2.length CL3_2), (3, .pointer (some ⟨gL3_3, 0, none⟩)), (7, .pointer (some ⟨gL3_7, 0, none⟩)), (8, .pointer (some ⟨gL3_8, 0, none⟩)), (9, .int .i64 x3_9), (10, .pointer (some ⟨gL3_10, 0, none⟩))]) (I := fun x => Below w.heap.size w x ∧ Below wL3.heap.size wL3 x ∧ Below w3004.heap.size w3004 x) (ps := [VB (decide (t3002 = 0)), VB (decide (t3002 = 0))]) (by kernel_rfl) ?_ ?_ rfl hS ⟨hBw3004_w, hBw3004_wL3, hBw3004_w3004⟩ ?_ ?_
          · exact fun x y hI hb => ⟨below_step hI.1 hb, below_step hI.2.1 hb, below_step hI.2.2 hb⟩
          · exact .v (.v (.nil))
          · refine .on rfl (fun a w hS hI hp => does_val (x_bin rfl (hS.get 0 rfl) (rfl) (b_eql _ _ _ _ _ _)) rfl) ?_
            refine .asg 0 rfl rfl rfl rfl ?_
            exact .nil
          clear hS
          intro at3014 w3015 hS hI hp
          have hBw3015_w := hI.1
          have hBw3015_wL3 := hI.2.1
          have hBw3015_w3004 := hI.2.2
          have hv108 : sl _ 108 = .bool (decide (t3002 = 0)) := hp 1 (by decide)
          have hBw3015_w3015 := Below.refl w3015.heap.size w3015
          have hS := hS.cons hv108
          clear hp hI hv108
          refine hK3013 _ _ ?_
          (try clear hK3013 K3013)
          refine wp_cond_false ((hS.get 0 rfl).trans (bF (decide_eq_false d3006_0))) ?_
          replace hS := (((((((hS.nil).cons (hS.get 7 rfl)).cons (hS.get 6 rfl)).cons (hS.get 5 rfl)).cons (hS.get 4 rfl)).cons (hS.get 3 rfl)).cons (hS.get 2 rfl)).cons (hS.get 1 rfl)
          refine reg_seq (N := 144) (bs := [(75, .int .i64 t3002), (2, .slice AL3_2 y3_2.length CL3_2), (3, .pointer (some ⟨gL3_3, 0, none⟩)), (7, .pointer (some ⟨gL3_7, 0, none⟩)), (8, .pointer (some ⟨gL3_8, 0, none⟩)), (9, .int .i64 x3_9), (10, .pointer (some ⟨gL3_10, 0, none⟩))]) (I := fun x => Below w.heap.size w x ∧ Below wL3.heap.size wL3 x ∧ Below w3004.heap.size w3004 x ∧ Below w3015.heap.size w3015 x) (ps := [VB (decide (t3002 = 1)), VB (decide (t3002 = 1))]) (by kernel_rfl) ?_ ?_ rfl hS ⟨hBw3015_w, hBw3015_wL3, hBw3015_w3004, hBw3015_w3015⟩ ?_ ?_
          · exact fun x y hI hb => ⟨below_step hI.1 hb, below_step hI.2.1 hb, below_step hI.2.2.1 hb, below_step hI.2.2.2 hb⟩
          · exact .v (.v (.nil))
          · refine .on rfl (fun a w hS hI hp => does_val (x_bin rfl (hS.get 0 rfl) (rfl) (b_eql _ _ _ _ _ _)) rfl) ?_
            refine .asg 0 rfl rfl rfl rfl ?_
            exact .nil
          clear hS
          intro at3016 w3017 hS hI hp
          have hBw3017_w := hI.1
          have hBw3017_wL3 := hI.2.1
          have hBw3017_w3004 := hI.2.2.1
          have hBw3017_w3015 := hI.2.2.2
          have hv108 : sl _ 108 = .bool (decide (t3002 = 1)) := hp 1 (by decide)
          have hBw3017_w3017 := Below.refl w3017.heap.size w3017
          have hS := hS.cons hv108
          clear hp hI hv108
          (try simp only [Exit.then, Exit.inBlock, reduceIte])
          exact ⟨by trivial, ((((((((hS.nil).cons ((hS.get 0 rfl).trans (congrArg (Value.bool) (by simp only [if_neg d3006_0])))).cons (hS.get 1 rfl)).cons (hS.get 7 rfl)).cons (hS.get 6 rfl)).cons (hS.get 5 rfl)).cons (hS.get 4 rfl)).cons (hS.get 3 rfl)).cons (hS.get 2 rfl), hBw3017_w, hBw3017_wL3, hBw3017_w3004⟩
      rintro e3019 at3019 w3018 ⟨rfl, hS, hBw3018_w, hBw3018_wL3, hBw3018_w3004⟩
      have hBw3018_w3018 := Below.refl w3018.heap.size w3018
      (try simp only [Exit.then, Exit.inBlock, reduceIte])
      refine hK3005 _ _ ?_
      (try clear hK3005 K3005)
      refine wp_cond_false ((hS.get 7 rfl).trans (bF (Bool.eq_false_iff.2 c4))) ?_
      refine wp_seq_k (fun K3020 hK3020 => ?_)
      refine reg_seq (N := 144) (bs := [(2, .slice AL3_2 y3_2.length CL3_2), (3, .pointer (some ⟨gL3_3, 0, none⟩)), (7, .pointer (some ⟨gL3_7, 0, none⟩)), (8, .pointer (some ⟨gL3_8, 0, none⟩)), (9, .int .i64 x3_9), (10, .pointer (some ⟨gL3_10, 0, none⟩)), (75, .int .i64 t3002), (108, .bool (if t3002 = 0 then decide (t3002 = 0) else decide (t3002 = 1)))]) (I := fun x => Below w.heap.size w x ∧ Below wL3.heap.size wL3 x ∧ Below w3018.heap.size w3018 x) (ps := [VB (decide (t3002 = 2)), VB (decide (t3002 = 2))]) (by kernel_rfl) ?_ ?_ rfl hS ⟨hBw3018_w, hBw3018_wL3, hBw3018_w3018⟩ ?_ ?_
      · exact fun x y hI hb => ⟨below_step hI.1 hb, below_step hI.2.1 hb, below_step hI.2.2 hb⟩
      · exact .v (.v (.nil))
      · refine .on rfl (fun a w hS hI hp => does_val (x_bin rfl (hS.get 6 rfl) (rfl) (b_eql _ _ _ _ _ _)) rfl) ?_
        refine .asg 0 rfl rfl rfl rfl ?_
        exact .nil
      clear hS
      intro at3021 w3022 hS hI hp
      have hBw3022_w := hI.1
      have hBw3022_wL3 := hI.2.1
      have hBw3022_w3018 := hI.2.2
      replace hS := (((((((hS.nil).cons (hS.get 6 rfl)).cons (hS.get 5 rfl)).cons (hS.get 4 rfl)).cons (hS.get 3 rfl)).cons (hS.get 2 rfl)).cons (hS.get 1 rfl)).cons (hS.get 0 rfl)
      have hv122 : sl _ 122 = .bool (decide (t3002 = 2)) := hp 1 (by decide)
      have hBw3022_w3022 := Below.refl w3022.heap.size w3022
      have hS := hS.cons hv122
      clear hp hI hv122
      refine hK3020 _ _ ?_
      (try clear hK3020 K3020)
      refine wp_cond_true ((hS.get 0 rfl).trans (bT (decide_eq_true c5))) ?_
      refine wp_seq_k (fun K3023 hK3023 => ?_)
      refine reg_float (N := 144) (bs := [(122, .bool (decide (t3002 = 2))), (2, .slice AL3_2 y3_2.length CL3_2), (3, .pointer (some ⟨gL3_3, 0, none⟩)), (7, .pointer (some ⟨gL3_7, 0, none⟩)), (8, .pointer (some ⟨gL3_8, 0, none⟩)), (9, .int .i64 x3_9), (10, .pointer (some ⟨gL3_10, 0, none⟩)), (75, .int .i64 t3002)]) (I := fun x => Below w.heap.size w x ∧ Below wL3.heap.size wL3 x ∧ Below w3022.heap.size w3022 x) (C := fun x => x.heap[gL3_10]? = some (.cells (carillonlaw17_DelayPlays.c4 x3_10_0 x3_10_1 x3_10_2 x3_10_3 x3_10_4 x3_10_5 x3_10_6 x3_10_7 x3_10_8 x3_10_9 x3_10_10 x3_10_11 x3_10_12 x3_10_13 x3_10_14 x3_10_15 x3_10_16 x3_10_17 x3_10_18 x3_10_19 x3_10_20 x3_10_21 x3_10_22 x3_10_23 x3_10_24 x3_10_25 x3_10_26) 36 (0, 0))) [true, true, true, true, true, false, true, true, true, true, true, false, false] [.pointer (some ⟨gL3_7, 0, none⟩), .pointer (some ⟨gL3_10, 1, none⟩), .int .i64 x3_10_1, .pointer (some ⟨gL3_10, 2, none⟩), .int .i64 x3_10_2, undef, .pointer (some ⟨gL3_8, 0, none⟩), .pointer (some ⟨gL3_10, 1, none⟩), .int .i64 x3_10_1, .pointer (some ⟨gL3_10, 2, none⟩), .int .i64 x3_10_2, undef, undef] [0, 0, 2, 0, 8, 31, 0, 0, 128, 0, 512, 2047, 4095] (by kernel_rfl) (by kernel_rfl) rfl ?_ ?_ hS ⟨hBw3022_w, hBw3022_wL3, hBw3022_w3022⟩ ?_ ?_
      · exact fun x y hI hb => ⟨below_step hI.1 hb, below_step hI.2.1 hb, below_step hI.2.2 hb⟩
      · exact fun x hI => ((hI.2.1.block gL3_10 (blk_lt hbxLgL3_10)).trans hbxLgL3_10)
      · intro a hS hp
        refine .g (fun w hC => GRun.on rfl (x_move rfl (hS.get 3 rfl))) ?_
        refine .g (fun w hC => GRun.on rfl (x_fieldE (b := 0) rfl (hS.get 6 rfl) Try.underlying36 rfl rfl (by kernel_rfl))) ?_
        refine .g (fun w hC => GRun.on rfl (x_load1 (d := .int .i64) rfl ((hp.get 1 rfl rfl rfl)) (by kernel_rfl) rfl ((blk_cell ((((Below.refl _ _)).block gL3_10 (blk_lt hC)).trans hC) 1).trans rfl))) ?_
        refine .g (fun w hC => GRun.on rfl (x_fieldE (b := 0) rfl (hS.get 6 rfl) Try.underlying36 rfl rfl (by kernel_rfl))) ?_
        refine .g (fun w hC => GRun.on rfl (x_load1 (d := .int .i64) rfl ((hp.get 3 rfl rfl rfl)) (by kernel_rfl) rfl ((blk_cell ((((Below.refl _ _)).block gL3_10 (blk_lt hC)).trans hC) 2).trans rfl))) ?_
        refine .t ?_
        refine .g (fun w hC => GRun.on rfl (x_move rfl (hS.get 4 rfl))) ?_
        refine .g (fun w hC => GRun.on rfl (x_fieldE (b := 0) rfl (hS.get 6 rfl) Try.underlying36 rfl rfl (by kernel_rfl))) ?_
        refine .g (fun w hC => GRun.on rfl (x_load1 (d := .int .i64) rfl ((hp.get 7 rfl rfl rfl)) (by kernel_rfl) rfl ((blk_cell ((((Below.refl _ _)).block gL3_10 (blk_lt hC)).trans hC) 1).trans rfl))) ?_
        refine .g (fun w hC => GRun.on rfl (x_fieldE (b := 0) rfl (hS.get 6 rfl) Try.underlying36 rfl rfl (by kernel_rfl))) ?_
        refine .g (fun w hC => GRun.on rfl (x_load1 (d := .int .i64) rfl ((hp.get 9 rfl rfl rfl)) (by kernel_rfl) rfl ((blk_cell ((((Below.refl _ _)).block gL3_10 (blk_lt hC)).trans hC) 2).trans rfl))) ?_
        iterate 2 refine .t ?_
        exact .nil
      clear hS
      intro at3024 w3025 hS hp hI
      have hBw3025_w := hI.1
      have hBw3025_wL3 := hI.2.1
      have hBw3025_w3022 := hI.2.2
      have hBw3025_w3025 := Below.refl w3025.heap.size w3025
      have hS := hS.cons (show sl _ 124 = .pointer (some ⟨gL3_7, 0, none⟩) from hp.get 0 rfl rfl rfl)
      have hS := hS.cons (show sl _ 126 = .int .i64 x3_10_1 from hp.get 2 rfl rfl rfl)
      have hS := hS.cons (show sl _ 128 = .int .i64 x3_10_2 from hp.get 4 rfl rfl rfl)
      have hS := hS.cons (show sl _ 130 = .pointer (some ⟨gL3_8, 0, none⟩) from hp.get 6 rfl rfl rfl)
      have hS := hS.cons (show sl _ 132 = .int .i64 x3_10_1 from hp.get 8 rfl rfl rfl)
      have hS := hS.cons (show sl _ 134 = .int .i64 x3_10_2 from hp.get 10 rfl rfl rfl)
      clear hp hI
      show ListC _ _ _ _ [_, _, _] _ _
      refine lc_step rfl (R := fun v w' => v = .bool t3027_1 ∧ w'.heap[gL3_7]? = some (.cells (carillonlaw17_DelayPlays.c0 t3027_2 t3027_3 t3027_4 t3027_5 t3027_6 t3027_7 t3027_8) 54 (0, 0)) ∧ Tch gL3_7 _ w') (does_call (by kernel_rfl) (ar3 (hS.get 5 rfl) (hS.get 4 rfl) (hS.get 3 rfl)) ((delay_Exchange_Sent.calls gL3_7 x3_7_0 x3_7_1 x3_7_2 x3_7_3 x3_7_4 x3_7_5 x3_7_6 x3_10_1 x3_10_2 t3027_1 t3027_2 t3027_3 t3027_4 t3027_5 t3027_6 t3027_7 t3027_8 _ ((hBw3025_wL3.block gL3_7 (blk_lt hbxLgL3_7)).trans hbxLgL3_7) At3027).mono fun _ _ h => ⟨_, h.1, rfl, h.2⟩)) ?_
      rintro vw3026 w3026 ⟨rfl, hbxw3026, hT⟩
      have hn3028 := hT.blk ((hBw3025_wL3.block gL3_3 (blk_lt hbxLgL3_3)).trans hbxLgL3_3) (Ne.symm hneL3_7_3)
      have hn3029 := hT.blk ((hBw3025_wL3.block gL3_8 (blk_lt hbxLgL3_8)).trans hbxLgL3_8) hneL3_8_7
      have hn3030 := hT.blk ((hBw3025_wL3.block gL3_10 (blk_lt hbxLgL3_10)).trans hbxLgL3_10) hneL3_10_7
      have hBw3026_w := hT.below hBw3025_w hgeLgL3_7 (hBw3025_w).size
      have hBw3026_w3026 := Below.refl w3026.heap.size w3026
      clear hT
      refine ⟨((hBw3026_w3026.block gL3_10 (blk_lt hn3030)).trans hn3030), ?_⟩
      refine hS.nextC (v := .bool t3027_1) (d := 129) rfl (by decide) (by rfl) ?_
      clear hS
      intro at3031 hS
      refine lc_step rfl (R := fun v w' => v = .bool t3033_1 ∧ w'.heap[gL3_8]? = some (.cells (carillonlaw17_DelayPlays.c2 t3033_2 t3033_3 t3033_4 t3033_5 t3033_6 t3033_7 t3033_8) 30 (0, 0)) ∧ Tch gL3_8 _ w') (does_call (by kernel_rfl) (ar3 (hS.get 3 rfl) (hS.get 2 rfl) (hS.get 1 rfl)) ((carillonref17_X_Sent.calls gL3_8 x3_8_0 x3_8_1 x3_8_2 x3_8_3 x3_8_4 x3_8_5 x3_8_6 x3_10_1 x3_10_2 t3033_1 t3033_2 t3033_3 t3033_4 t3033_5 t3033_6 t3033_7 t3033_8 _ ((hBw3026_w3026.block gL3_8 (blk_lt hn3029)).trans hn3029) At3033).mono fun _ _ h => ⟨_, h.1, rfl, h.2⟩)) ?_
      rintro vw3032 w3032 ⟨rfl, hbxw3032, hT⟩
      have hn3034 := hT.blk ((hBw3026_w3026.block gL3_3 (blk_lt hn3028)).trans hn3028) (Ne.symm hneL3_8_3)
      have hn3035 := hT.blk ((hBw3026_w3026.block gL3_7 (blk_lt hbxw3026)).trans hbxw3026) (Ne.symm hneL3_8_7)
      have hn3036 := hT.blk ((hBw3026_w3026.block gL3_10 (blk_lt hn3030)).trans hn3030) hneL3_10_8
      have hBw3032_w := hT.below hBw3026_w hgeLgL3_8 (hBw3026_w).size
      have hBw3032_w3032 := Below.refl w3032.heap.size w3032
      clear hT
      refine ⟨((hBw3032_w3032.block gL3_10 (blk_lt hn3036)).trans hn3036), ?_⟩
      refine hS.nextC (v := .bool t3033_1) (d := 135) rfl (by decide) (by rfl) ?_
      clear hS
      intro at3037 hS
      refine lc_step rfl (R := fun v w' => Below _ _ w' ∧ (VB (!(t3027_1 == t3033_1))) v w') (does_val (x_bin rfl (hS.get 1 rfl) (hS.get 0 rfl) (b_neb _ _ _ _ _ (by kernel_rfl))) rfl) ?_
      rintro vw3038 w3038 ⟨hb, he⟩
      have hBw3038_w := below_step hBw3032_w hb
      have hBw3038_w3032 := below_step hBw3032_w3032 hb
      have hBw3038_w3038 := Below.refl w3038.heap.size w3038
      obtain rfl : vw3038 = .bool (!(t3027_1 == t3033_1)) := he
      refine ⟨((hBw3038_w3032.block gL3_10 (blk_lt hn3036)).trans hn3036), ?_⟩
      refine hS.nextC (v := .bool (!(t3027_1 == t3033_1))) (d := 136) rfl (by decide) (by rfl) ?_
      clear hS
      intro at3039 hS
      refine lc_nil ?_
      refine hK3023 _ _ ?_
      (try clear hK3023 K3023)
      refine wp_cond_false ((hS.get 0 rfl).trans (bF (congrArg (!·) c6))) ?_
      refine wp_skip ?_
      replace hS := (((((hS.nil).cons (hS.get 14 rfl)).cons (hS.get 13 rfl)).cons (hS.get 12 rfl)).cons (hS.get 11 rfl)).cons (hS.get 10 rfl)
      (try simp only [Exit.then, Exit.inBlock])
      exact J2 _ _ y3_2 AL3_2 CL3_2 x3_3_0 x3_3_1 gL3_3 t3027_2 t3027_3 t3027_4 t3027_5 t3027_6 t3027_7 t3027_8 gL3_7 t3033_2 t3033_3 t3033_4 t3033_5 t3033_6 t3033_7 t3033_8 gL3_8 x3_9 H hS hBw3038_w hr3_2 (hcL3_2) hgeLgL3_3 ((hBw3038_w3032.block gL3_3 (blk_lt hn3034)).trans hn3034) hgeLgL3_7 ((hBw3038_w3032.block gL3_7 (blk_lt hn3035)).trans hn3035) hgeLgL3_8 ((hBw3038_w3032.block gL3_8 (blk_lt hbxw3032)).trans hbxw3032) hneL3_7_3 hneL3_8_3 hneL3_8_7
    rw [if_neg c5] at H
    by_cases c6 : t3002 = 5
    · rw [if_pos c6] at H
      obtain ⟨t3030, At3030, H⟩ := Option.bind_eq_some_iff.mp H
      obtain ⟨t3030_1, t3030_2, t3030_3, t3030_4, t3030_5, t3030_6, t3030_7⟩ := t3030
      (try dsimp only at H)
      obtain ⟨t3038, At3038, H⟩ := Option.bind_eq_some_iff.mp H
      obtain ⟨t3038_1, t3038_2, t3038_3, t3038_4, t3038_5, t3038_6, t3038_7⟩ := t3038
      (try dsimp only at H)
      have hBwL3_wL3 := Below.refl wL3.heap.size wL3
      refine hK1039 _ _ ?_
      (try clear hK1039 K1039)
      refine wp_seq_k (fun K3001 hK3001 => ?_)
      refine reg_seq (N := 144) (bs := [(2, .slice AL3_2 y3_2.length CL3_2), (3, .pointer (some ⟨gL3_3, 0, none⟩)), (7, .pointer (some ⟨gL3_7, 0, none⟩)), (8, .pointer (some ⟨gL3_8, 0, none⟩)), (9, .int .i64 x3_9), (10, .pointer (some ⟨gL3_10, 0, none⟩))]) (I := fun x => Below w.heap.size w x ∧ Below wL3.heap.size wL3 x) (ps := [VP gL3_10 0, VI x3_10_0, VI t3002]) (by kernel_rfl) ?_ ?_ rfl hS ⟨hBwL3_w, hBwL3_wL3⟩ ?_ ?_
      · exact fun x y hI hb => ⟨below_step hI.1 hb, below_step hI.2 hb⟩
      · exact .v (.v (.v (.nil)))
      · refine .on rfl (fun a w hS hI hp => does_val (x_fieldE (b := 0) rfl (hS.get 5 rfl) Try.underlying36 rfl rfl (by kernel_rfl)) rfl) ?_
        refine .on rfl (fun a w hS hI hp => does_val (x_load1 (d := .int .i64) rfl (hp.V 0 rfl rfl) (by kernel_rfl) rfl ((blk_cell (((hI.2).block gL3_10 (blk_lt hbxLgL3_10)).trans hbxLgL3_10) 0).trans rfl)) rfl) ?_
        refine .on rfl (fun a w hS hI hp => does_call (by kernel_rfl) (ar2 (hp.V 1 rfl rfl) (rfl)) ((carillonlaw00_Place.calls x3_10_0 6 t3002 _  At3002).mono fun _ _ h => ⟨_, h.1, h.2.below, rfl⟩)) ?_
        exact .nil
      clear hS
      intro at3003 w3004 hS hI hp
      have hBw3004_w := hI.1
      have hBw3004_wL3 := hI.2
      have hv75 : sl _ 75 = .int .i64 t3002 := hp 2 (by decide)
      have hBw3004_w3004 := Below.refl w3004.heap.size w3004
      have hS := hS.cons hv75
      clear hp hI hv75
      refine hK3001 _ _ ?_
      (try clear hK3001 K3001)
      refine wp_block ?_
      refine wp_seq_k (fun K3005 hK3005 => ?_)
      refine wp_mono (Q := fun e a' w' => e = Exit.normal ∧ St 144 [(2, .slice AL3_2 y3_2.length CL3_2), (3, .pointer (some ⟨gL3_3, 0, none⟩)), (7, .pointer (some ⟨gL3_7, 0, none⟩)), (8, .pointer (some ⟨gL3_8, 0, none⟩)), (9, .int .i64 x3_9), (10, .pointer (some ⟨gL3_10, 0, none⟩)), (75, .int .i64 t3002), (108, .bool (if t3002 = 0 then decide (t3002 = 0) else decide (t3002 = 1)))] a' ∧ Below w.heap.size w w' ∧ Below wL3.heap.size wL3 w' ∧ Below w3004.heap.size w3004 w') ?_ ?_
      · by_cases d3006_0 : t3002 = 0
        · refine wp_seq_k (fun K3010 hK3010 => ?_)
          refine reg_seq (N := 144) (bs := [(75, .int .i64 t3002), (2, .slice AL3_2 y3_2.length CL3_2), (3, .pointer (some ⟨gL3_3, 0, none⟩)), (7, .pointer (some ⟨gL3_7, 0, none⟩)), (8, .pointer (some ⟨gL3_8, 0, none⟩)), (9, .int .i64 x3_9), (10, .pointer (some ⟨gL3_10, 0, none⟩))]) (I := fun x => Below w.heap.size w x ∧ Below wL3.heap.size wL3 x ∧ Below w3004.heap.size w3004 x) (ps := [VB (decide (t3002 = 0)), VB (decide (t3002 = 0))]) (by kernel_rfl) ?_ ?_ rfl hS ⟨hBw3004_w, hBw3004_wL3, hBw3004_w3004⟩ ?_ ?_
          · exact fun x y hI hb => ⟨below_step hI.1 hb, below_step hI.2.1 hb, below_step hI.2.2 hb⟩
          · exact .v (.v (.nil))
          · refine .on rfl (fun a w hS hI hp => does_val (x_bin rfl (hS.get 0 rfl) (rfl) (b_eql _ _ _ _ _ _)) rfl) ?_
            refine .asg 0 rfl rfl rfl rfl ?_
            exact .nil
          clear hS
          intro at3011 w3012 hS hI hp
          have hBw3012_w := hI.1
          have hBw3012_wL3 := hI.2.1
          have hBw3012_w3004 := hI.2.2
          have hv108 : sl _ 108 = .bool (decide (t3002 = 0)) := hp 1 (by decide)
          have hBw3012_w3012 := Below.refl w3012.heap.size w3012
          have hS := hS.cons hv108
          clear hp hI hv108
          refine hK3010 _ _ ?_
          (try clear hK3010 K3010)
          refine wp_cond_true ((hS.get 0 rfl).trans (bT (decide_eq_true d3006_0))) ?_
          refine wp_skip ?_
          (try simp only [Exit.then, Exit.inBlock, reduceIte])
          exact ⟨by trivial, ((((((((hS.nil).cons ((hS.get 0 rfl).trans (congrArg (Value.bool) (by simp only [if_pos d3006_0])))).cons (hS.get 1 rfl)).cons (hS.get 7 rfl)).cons (hS.get 6 rfl)).cons (hS.get 5 rfl)).cons (hS.get 4 rfl)).cons (hS.get 3 rfl)).cons (hS.get 2 rfl), hBw3012_w, hBw3012_wL3, hBw3012_w3004⟩
        · refine wp_seq_k (fun K3013 hK3013 => ?_)
          refine reg_seq (N := 144) (bs := [(75, .int .i64 t3002), (2, .slice AL3_2 y3_2.length CL3_2), (3, .pointer (some ⟨gL3_3, 0, none⟩)), (7, .pointer (some ⟨gL3_7, 0, none⟩)), (8, .pointer (some ⟨gL3_8, 0, none⟩)), (9, .int .i64 x3_9), (10, .pointer (some ⟨gL3_10, 0, none⟩))]) (I := fun x => Below w.heap.size w x ∧ Below wL3.heap.size wL3 x ∧ Below w3004.heap.size w3004 x) (ps := [VB (decide (t3002 = 0)), VB (decide (t3002 = 0))]) (by kernel_rfl) ?_ ?_ rfl hS ⟨hBw3004_w, hBw3004_wL3, hBw3004_w3004⟩ ?_ ?_
          · exact fun x y hI hb => ⟨below_step hI.1 hb, below_step hI.2.1 hb, below_step hI.2.2 hb⟩
          · exact .v (.v (.nil))
          · refine .on rfl (fun a w hS hI hp => does_val (x_bin rfl (hS.get 0 rfl) (rfl) (b_eql _ _ _ _ _ _)) rfl) ?_
            refine .asg 0 rfl rfl rfl rfl ?_
            exact .nil
          clear hS
          intro at3014 w3015 hS hI hp
          have hBw3015_w := hI.1
          have hBw3015_wL3 := hI.2.1
          have hBw3015_w3004 := hI.2.2
          have hv108 : sl _ 108 = .bool (decide (t3002 = 0)) := hp 1 (by decide)
          have hBw3015_w3015 := Below.refl w3015.heap.size w3015
          have hS := hS.cons hv108
          clear hp hI hv108
          refine hK3013 _ _ ?_
          (try clear hK3013 K3013)
          refine wp_cond_false ((hS.get 0 rfl).trans (bF (decide_eq_false d3006_0))) ?_
          replace hS := (((((((hS.nil).cons (hS.get 7 rfl)).cons (hS.get 6 rfl)).cons (hS.get 5 rfl)).cons (hS.get 4 rfl)).cons (hS.get 3 rfl)).cons (hS.get 2 rfl)).cons (hS.get 1 rfl)
          refine reg_seq (N := 144) (bs := [(75, .int .i64 t3002), (2, .slice AL3_2 y3_2.length CL3_2), (3, .pointer (some ⟨gL3_3, 0, none⟩)), (7, .pointer (some ⟨gL3_7, 0, none⟩)), (8, .pointer (some ⟨gL3_8, 0, none⟩)), (9, .int .i64 x3_9), (10, .pointer (some ⟨gL3_10, 0, none⟩))]) (I := fun x => Below w.heap.size w x ∧ Below wL3.heap.size wL3 x ∧ Below w3004.heap.size w3004 x ∧ Below w3015.heap.size w3015 x) (ps := [VB (decide (t3002 = 1)), VB (decide (t3002 = 1))]) (by kernel_rfl) ?_ ?_ rfl hS ⟨hBw3015_w, hBw3015_wL3, hBw3015_w3004, hBw3015_w3015⟩ ?_ ?_
          · exact fun x y hI hb => ⟨below_step hI.1 hb, below_step hI.2.1 hb, below_step hI.2.2.1 hb, below_step hI.2.2.2 hb⟩
          · exact .v (.v (.nil))
          · refine .on rfl (fun a w hS hI hp => does_val (x_bin rfl (hS.get 0 rfl) (rfl) (b_eql _ _ _ _ _ _)) rfl) ?_
            refine .asg 0 rfl rfl rfl rfl ?_
            exact .nil
          clear hS
          intro at3016 w3017 hS hI hp
          have hBw3017_w := hI.1
          have hBw3017_wL3 := hI.2.1
          have hBw3017_w3004 := hI.2.2.1
          have hBw3017_w3015 := hI.2.2.2
          have hv108 : sl _ 108 = .bool (decide (t3002 = 1)) := hp 1 (by decide)
          have hBw3017_w3017 := Below.refl w3017.heap.size w3017
          have hS := hS.cons hv108
          clear hp hI hv108
          (try simp only [Exit.then, Exit.inBlock, reduceIte])
          exact ⟨by trivial, ((((((((hS.nil).cons ((hS.get 0 rfl).trans (congrArg (Value.bool) (by simp only [if_neg d3006_0])))).cons (hS.get 1 rfl)).cons (hS.get 7 rfl)).cons (hS.get 6 rfl)).cons (hS.get 5 rfl)).cons (hS.get 4 rfl)).cons (hS.get 3 rfl)).cons (hS.get 2 rfl), hBw3017_w, hBw3017_wL3, hBw3017_w3004⟩
      rintro e3019 at3019 w3018 ⟨rfl, hS, hBw3018_w, hBw3018_wL3, hBw3018_w3004⟩
      have hBw3018_w3018 := Below.refl w3018.heap.size w3018
      (try simp only [Exit.then, Exit.inBlock, reduceIte])
      refine hK3005 _ _ ?_
      (try clear hK3005 K3005)
      refine wp_cond_false ((hS.get 7 rfl).trans (bF (Bool.eq_false_iff.2 c4))) ?_
      refine wp_seq_k (fun K3020 hK3020 => ?_)
      refine reg_seq (N := 144) (bs := [(2, .slice AL3_2 y3_2.length CL3_2), (3, .pointer (some ⟨gL3_3, 0, none⟩)), (7, .pointer (some ⟨gL3_7, 0, none⟩)), (8, .pointer (some ⟨gL3_8, 0, none⟩)), (9, .int .i64 x3_9), (10, .pointer (some ⟨gL3_10, 0, none⟩)), (75, .int .i64 t3002), (108, .bool (if t3002 = 0 then decide (t3002 = 0) else decide (t3002 = 1)))]) (I := fun x => Below w.heap.size w x ∧ Below wL3.heap.size wL3 x ∧ Below w3018.heap.size w3018 x) (ps := [VB (decide (t3002 = 2)), VB (decide (t3002 = 2))]) (by kernel_rfl) ?_ ?_ rfl hS ⟨hBw3018_w, hBw3018_wL3, hBw3018_w3018⟩ ?_ ?_
      · exact fun x y hI hb => ⟨below_step hI.1 hb, below_step hI.2.1 hb, below_step hI.2.2 hb⟩
      · exact .v (.v (.nil))
      · refine .on rfl (fun a w hS hI hp => does_val (x_bin rfl (hS.get 6 rfl) (rfl) (b_eql _ _ _ _ _ _)) rfl) ?_
        refine .asg 0 rfl rfl rfl rfl ?_
        exact .nil
      clear hS
      intro at3021 w3022 hS hI hp
      have hBw3022_w := hI.1
      have hBw3022_wL3 := hI.2.1
      have hBw3022_w3018 := hI.2.2
      replace hS := (((((((hS.nil).cons (hS.get 6 rfl)).cons (hS.get 5 rfl)).cons (hS.get 4 rfl)).cons (hS.get 3 rfl)).cons (hS.get 2 rfl)).cons (hS.get 1 rfl)).cons (hS.get 0 rfl)
      have hv122 : sl _ 122 = .bool (decide (t3002 = 2)) := hp 1 (by decide)
      have hBw3022_w3022 := Below.refl w3022.heap.size w3022
      have hS := hS.cons hv122
      clear hp hI hv122
      refine hK3020 _ _ ?_
      (try clear hK3020 K3020)
      refine wp_cond_false ((hS.get 0 rfl).trans (bF (decide_eq_false c5))) ?_
      refine wp_seq_k (fun K3023 hK3023 => ?_)
      refine reg_seq (N := 144) (bs := [(122, .bool (decide (t3002 = 2))), (2, .slice AL3_2 y3_2.length CL3_2), (3, .pointer (some ⟨gL3_3, 0, none⟩)), (7, .pointer (some ⟨gL3_7, 0, none⟩)), (8, .pointer (some ⟨gL3_8, 0, none⟩)), (9, .int .i64 x3_9), (10, .pointer (some ⟨gL3_10, 0, none⟩)), (75, .int .i64 t3002)]) (I := fun x => Below w.heap.size w x ∧ Below wL3.heap.size wL3 x ∧ Below w3022.heap.size w3022 x) (ps := [VB (decide (t3002 = 5)), VB (decide (t3002 = 5))]) (by kernel_rfl) ?_ ?_ rfl hS ⟨hBw3022_w, hBw3022_wL3, hBw3022_w3022⟩ ?_ ?_
      · exact fun x y hI hb => ⟨below_step hI.1 hb, below_step hI.2.1 hb, below_step hI.2.2 hb⟩
      · exact .v (.v (.nil))
      · refine .on rfl (fun a w hS hI hp => does_val (x_bin rfl (hS.get 7 rfl) (rfl) (b_eql _ _ _ _ _ _)) rfl) ?_
        refine .asg 0 rfl rfl rfl rfl ?_
        exact .nil
      clear hS
      intro at3024 w3025 hS hI hp
      have hBw3025_w := hI.1
      have hBw3025_wL3 := hI.2.1
      have hBw3025_w3022 := hI.2.2
      replace hS := ((((((hS.nil).cons (hS.get 6 rfl)).cons (hS.get 5 rfl)).cons (hS.get 4 rfl)).cons (hS.get 3 rfl)).cons (hS.get 2 rfl)).cons (hS.get 1 rfl)
      have hv137 : sl _ 137 = .bool (decide (t3002 = 5)) := hp 1 (by decide)
      have hBw3025_w3025 := Below.refl w3025.heap.size w3025
      have hS := hS.cons hv137
      clear hp hI hv137
      refine hK3023 _ _ ?_
      (try clear hK3023 K3023)
      refine wp_cond_true ((hS.get 0 rfl).trans (bT (decide_eq_true c6))) ?_
      refine wp_seq_k (fun K3026 hK3026 => ?_)
      refine reg_seq_tail 1 (N := 144) (bs := [(137, .bool (decide (t3002 = 5))), (2, .slice AL3_2 y3_2.length CL3_2), (3, .pointer (some ⟨gL3_3, 0, none⟩)), (7, .pointer (some ⟨gL3_7, 0, none⟩)), (8, .pointer (some ⟨gL3_8, 0, none⟩)), (9, .int .i64 x3_9), (10, .pointer (some ⟨gL3_10, 0, none⟩))]) (I := fun x => Below w.heap.size w x ∧ Below wL3.heap.size wL3 x ∧ Below w3025.heap.size w3025 x) (ps := [VP gL3_7 0]) (by kernel_rfl) ?_ ?_ rfl hS ⟨hBw3025_w, hBw3025_wL3, hBw3025_w3025⟩ ?_ ?_
      · exact fun x y hI hb => ⟨below_step hI.1 hb, below_step hI.2.1 hb, below_step hI.2.2 hb⟩
      · exact .v (.nil)
      · refine .ms 3 rfl rfl rfl ?_
        exact .nil
      clear hS
      intro at3027 w3028 hS hI hp
      have hBw3028_w := hI.1
      have hBw3028_wL3 := hI.2.1
      have hBw3028_w3025 := hI.2.2
      replace hS := (((((hS.nil).cons (hS.get 5 rfl)).cons (hS.get 4 rfl)).cons (hS.get 3 rfl)).cons (hS.get 2 rfl)).cons (hS.get 1 rfl)
      have hv139 : sl _ 139 = .pointer (some ⟨gL3_7, 0, none⟩) := hp 0 (by decide)
      have hBw3028_w3028 := Below.refl w3028.heap.size w3028
      have hS := hS.cons hv139
      clear hp hI hv139
      show wpList _ _ _ [_] _ _
      refine list_step rfl (R := fun v w' => v = .tuple #[] ∧ w'.heap[gL3_7]? = some (.cells (carillonlaw17_DelayPlays.c0 t3030_1 t3030_2 t3030_3 t3030_4 t3030_5 t3030_6 t3030_7) 54 (0, 0)) ∧ Tch gL3_7 _ w') (does_call (by kernel_rfl) (ar1 (hS.get 0 rfl)) ((delay_Exchange_Clear.calls gL3_7 x3_7_0 x3_7_1 x3_7_2 x3_7_3 x3_7_4 x3_7_5 x3_7_6 t3030_1 t3030_2 t3030_3 t3030_4 t3030_5 t3030_6 t3030_7 _ ((hBw3028_wL3.block gL3_7 (blk_lt hbxLgL3_7)).trans hbxLgL3_7) At3030).mono fun _ _ h => ⟨_, h.1, rfl, h.2⟩)) ?_
      rintro vw3029 w3029 ⟨rfl, hbxw3029, hT⟩
      have hn3031 := hT.blk ((hBw3028_wL3.block gL3_3 (blk_lt hbxLgL3_3)).trans hbxLgL3_3) (Ne.symm hneL3_7_3)
      have hn3032 := hT.blk ((hBw3028_wL3.block gL3_8 (blk_lt hbxLgL3_8)).trans hbxLgL3_8) hneL3_8_7
      have hn3033 := hT.blk ((hBw3028_wL3.block gL3_10 (blk_lt hbxLgL3_10)).trans hbxLgL3_10) hneL3_10_7
      have hBw3029_w := hT.below hBw3028_w hgeLgL3_7 (hBw3028_w).size
      have hBw3029_w3029 := Below.refl w3029.heap.size w3029
      clear hT
      refine hS.next (v := .tuple #[]) (d := 140) rfl (by decide) (by rfl) ?_
      clear hS
      intro at3034 hS
      refine wpList_nil ?_
      refine hK3026 _ _ ?_
      (try clear hK3026 K3026)
      refine reg_seq_tail 1 (N := 144) (bs := [(140, .tuple #[]), (139, .pointer (some ⟨gL3_7, 0, none⟩)), (2, .slice AL3_2 y3_2.length CL3_2), (3, .pointer (some ⟨gL3_3, 0, none⟩)), (7, .pointer (some ⟨gL3_7, 0, none⟩)), (8, .pointer (some ⟨gL3_8, 0, none⟩)), (9, .int .i64 x3_9)]) (I := fun x => Below w.heap.size w x ∧ Below w3029.heap.size w3029 x) (ps := [VP gL3_8 0]) (by kernel_rfl) ?_ ?_ rfl hS ⟨hBw3029_w, hBw3029_w3029⟩ ?_ ?_
      · exact fun x y hI hb => ⟨below_step hI.1 hb, below_step hI.2 hb⟩
      · exact .v (.nil)
      · refine .ms 5 rfl rfl rfl ?_
        exact .nil
      clear hS
      intro at3035 w3036 hS hI hp
      have hBw3036_w := hI.1
      have hBw3036_w3029 := hI.2
      replace hS := (((((hS.nil).cons (hS.get 6 rfl)).cons (hS.get 5 rfl)).cons (hS.get 4 rfl)).cons (hS.get 3 rfl)).cons (hS.get 2 rfl)
      have hv141 : sl _ 141 = .pointer (some ⟨gL3_8, 0, none⟩) := hp 0 (by decide)
      have hBw3036_w3036 := Below.refl w3036.heap.size w3036
      have hS := hS.cons hv141
      clear hp hI hv141
      show wpList _ _ _ [_] _ _
      refine list_step rfl (R := fun v w' => v = .tuple #[] ∧ w'.heap[gL3_8]? = some (.cells (carillonlaw17_DelayPlays.c2 t3038_1 t3038_2 t3038_3 t3038_4 t3038_5 t3038_6 t3038_7) 30 (0, 0)) ∧ Tch gL3_8 _ w') (does_call (by kernel_rfl) (ar1 (hS.get 0 rfl)) ((carillonref17_X_Clear.calls gL3_8 x3_8_0 x3_8_1 x3_8_2 x3_8_3 x3_8_4 x3_8_5 x3_8_6 t3038_1 t3038_2 t3038_3 t3038_4 t3038_5 t3038_6 t3038_7 _ ((hBw3036_w3029.block gL3_8 (blk_lt hn3032)).trans hn3032) At3038).mono fun _ _ h => ⟨_, h.1, rfl, h.2⟩)) ?_
      rintro vw3037 w3037 ⟨rfl, hbxw3037, hT⟩
      have hn3039 := hT.blk ((hBw3036_w3029.block gL3_3 (blk_lt hn3031)).trans hn3031) (Ne.symm hneL3_8_3)
      have hn3040 := hT.blk ((hBw3036_w3029.block gL3_7 (blk_lt hbxw3029)).trans hbxw3029) (Ne.symm hneL3_8_7)
      have hn3041 := hT.blk ((hBw3036_w3029.block gL3_10 (blk_lt hn3033)).trans hn3033) hneL3_10_8
      have hBw3037_w := hT.below hBw3036_w hgeLgL3_8 (hBw3036_w).size
      have hBw3037_w3037 := Below.refl w3037.heap.size w3037
      clear hT
      refine hS.next (v := .tuple #[]) (d := 142) rfl (by decide) (by rfl) ?_
      clear hS
      intro at3042 hS
      refine wpList_nil ?_
      replace hS := (((((hS.nil).cons (hS.get 6 rfl)).cons (hS.get 5 rfl)).cons (hS.get 4 rfl)).cons (hS.get 3 rfl)).cons (hS.get 2 rfl)
      (try simp only [Exit.then, Exit.inBlock])
      exact J2 _ _ y3_2 AL3_2 CL3_2 x3_3_0 x3_3_1 gL3_3 t3030_1 t3030_2 t3030_3 t3030_4 t3030_5 t3030_6 t3030_7 gL3_7 t3038_1 t3038_2 t3038_3 t3038_4 t3038_5 t3038_6 t3038_7 gL3_8 x3_9 H hS hBw3037_w hr3_2 (hcL3_2) hgeLgL3_3 ((hBw3037_w3037.block gL3_3 (blk_lt hn3039)).trans hn3039) hgeLgL3_7 ((hBw3037_w3037.block gL3_7 (blk_lt hn3040)).trans hn3040) hgeLgL3_8 ((hBw3037_w3037.block gL3_8 (blk_lt hbxw3037)).trans hbxw3037) hneL3_7_3 hneL3_8_3 hneL3_8_7
    rw [if_neg c6] at H
    have hBwL3_wL3 := Below.refl wL3.heap.size wL3
    refine hK1039 _ _ ?_
    (try clear hK1039 K1039)
    refine wp_seq_k (fun K3001 hK3001 => ?_)
    refine reg_seq (N := 144) (bs := [(2, .slice AL3_2 y3_2.length CL3_2), (3, .pointer (some ⟨gL3_3, 0, none⟩)), (7, .pointer (some ⟨gL3_7, 0, none⟩)), (8, .pointer (some ⟨gL3_8, 0, none⟩)), (9, .int .i64 x3_9), (10, .pointer (some ⟨gL3_10, 0, none⟩))]) (I := fun x => Below w.heap.size w x ∧ Below wL3.heap.size wL3 x) (ps := [VP gL3_10 0, VI x3_10_0, VI t3002]) (by kernel_rfl) ?_ ?_ rfl hS ⟨hBwL3_w, hBwL3_wL3⟩ ?_ ?_
    · exact fun x y hI hb => ⟨below_step hI.1 hb, below_step hI.2 hb⟩
    · exact .v (.v (.v (.nil)))
    · refine .on rfl (fun a w hS hI hp => does_val (x_fieldE (b := 0) rfl (hS.get 5 rfl) Try.underlying36 rfl rfl (by kernel_rfl)) rfl) ?_
      refine .on rfl (fun a w hS hI hp => does_val (x_load1 (d := .int .i64) rfl (hp.V 0 rfl rfl) (by kernel_rfl) rfl ((blk_cell (((hI.2).block gL3_10 (blk_lt hbxLgL3_10)).trans hbxLgL3_10) 0).trans rfl)) rfl) ?_
      refine .on rfl (fun a w hS hI hp => does_call (by kernel_rfl) (ar2 (hp.V 1 rfl rfl) (rfl)) ((carillonlaw00_Place.calls x3_10_0 6 t3002 _  At3002).mono fun _ _ h => ⟨_, h.1, h.2.below, rfl⟩)) ?_
      exact .nil
    clear hS
    intro at3003 w3004 hS hI hp
    have hBw3004_w := hI.1
    have hBw3004_wL3 := hI.2
    have hv75 : sl _ 75 = .int .i64 t3002 := hp 2 (by decide)
    have hBw3004_w3004 := Below.refl w3004.heap.size w3004
    have hS := hS.cons hv75
    clear hp hI hv75
    refine hK3001 _ _ ?_
    (try clear hK3001 K3001)
    refine wp_block ?_
    refine wp_seq_k (fun K3005 hK3005 => ?_)
    refine wp_mono (Q := fun e a' w' => e = Exit.normal ∧ St 144 [(2, .slice AL3_2 y3_2.length CL3_2), (3, .pointer (some ⟨gL3_3, 0, none⟩)), (7, .pointer (some ⟨gL3_7, 0, none⟩)), (8, .pointer (some ⟨gL3_8, 0, none⟩)), (9, .int .i64 x3_9), (10, .pointer (some ⟨gL3_10, 0, none⟩)), (75, .int .i64 t3002), (108, .bool (if t3002 = 0 then decide (t3002 = 0) else decide (t3002 = 1)))] a' ∧ Below w.heap.size w w' ∧ Below wL3.heap.size wL3 w' ∧ Below w3004.heap.size w3004 w') ?_ ?_
    · by_cases d3006_0 : t3002 = 0
      · refine wp_seq_k (fun K3010 hK3010 => ?_)
        refine reg_seq (N := 144) (bs := [(75, .int .i64 t3002), (2, .slice AL3_2 y3_2.length CL3_2), (3, .pointer (some ⟨gL3_3, 0, none⟩)), (7, .pointer (some ⟨gL3_7, 0, none⟩)), (8, .pointer (some ⟨gL3_8, 0, none⟩)), (9, .int .i64 x3_9), (10, .pointer (some ⟨gL3_10, 0, none⟩))]) (I := fun x => Below w.heap.size w x ∧ Below wL3.heap.size wL3 x ∧ Below w3004.heap.size w3004 x) (ps := [VB (decide (t3002 = 0)), VB (decide (t3002 = 0))]) (by kernel_rfl) ?_ ?_ rfl hS ⟨hBw3004_w, hBw3004_wL3, hBw3004_w3004⟩ ?_ ?_
        · exact fun x y hI hb => ⟨below_step hI.1 hb, below_step hI.2.1 hb, below_step hI.2.2 hb⟩
        · exact .v (.v (.nil))
        · refine .on rfl (fun a w hS hI hp => does_val (x_bin rfl (hS.get 0 rfl) (rfl) (b_eql _ _ _ _ _ _)) rfl) ?_
          refine .asg 0 rfl rfl rfl rfl ?_
          exact .nil
        clear hS
        intro at3011 w3012 hS hI hp
        have hBw3012_w := hI.1
        have hBw3012_wL3 := hI.2.1
        have hBw3012_w3004 := hI.2.2
        have hv108 : sl _ 108 = .bool (decide (t3002 = 0)) := hp 1 (by decide)
        have hBw3012_w3012 := Below.refl w3012.heap.size w3012
        have hS := hS.cons hv108
        clear hp hI hv108
        refine hK3010 _ _ ?_
        (try clear hK3010 K3010)
        refine wp_cond_true ((hS.get 0 rfl).trans (bT (decide_eq_true d3006_0))) ?_
        refine wp_skip ?_
        (try simp only [Exit.then, Exit.inBlock, reduceIte])
        exact ⟨by trivial, ((((((((hS.nil).cons ((hS.get 0 rfl).trans (congrArg (Value.bool) (by simp only [if_pos d3006_0])))).cons (hS.get 1 rfl)).cons (hS.get 7 rfl)).cons (hS.get 6 rfl)).cons (hS.get 5 rfl)).cons (hS.get 4 rfl)).cons (hS.get 3 rfl)).cons (hS.get 2 rfl), hBw3012_w, hBw3012_wL3, hBw3012_w3004⟩
      · refine wp_seq_k (fun K3013 hK3013 => ?_)
        refine reg_seq (N := 144) (bs := [(75, .int .i64 t3002), (2, .slice AL3_2 y3_2.length CL3_2), (3, .pointer (some ⟨gL3_3, 0, none⟩)), (7, .pointer (some ⟨gL3_7, 0, none⟩)), (8, .pointer (some ⟨gL3_8, 0, none⟩)), (9, .int .i64 x3_9), (10, .pointer (some ⟨gL3_10, 0, none⟩))]) (I := fun x => Below w.heap.size w x ∧ Below wL3.heap.size wL3 x ∧ Below w3004.heap.size w3004 x) (ps := [VB (decide (t3002 = 0)), VB (decide (t3002 = 0))]) (by kernel_rfl) ?_ ?_ rfl hS ⟨hBw3004_w, hBw3004_wL3, hBw3004_w3004⟩ ?_ ?_
        · exact fun x y hI hb => ⟨below_step hI.1 hb, below_step hI.2.1 hb, below_step hI.2.2 hb⟩
        · exact .v (.v (.nil))
        · refine .on rfl (fun a w hS hI hp => does_val (x_bin rfl (hS.get 0 rfl) (rfl) (b_eql _ _ _ _ _ _)) rfl) ?_
          refine .asg 0 rfl rfl rfl rfl ?_
          exact .nil
        clear hS
        intro at3014 w3015 hS hI hp
        have hBw3015_w := hI.1
        have hBw3015_wL3 := hI.2.1
        have hBw3015_w3004 := hI.2.2
        have hv108 : sl _ 108 = .bool (decide (t3002 = 0)) := hp 1 (by decide)
        have hBw3015_w3015 := Below.refl w3015.heap.size w3015
        have hS := hS.cons hv108
        clear hp hI hv108
        refine hK3013 _ _ ?_
        (try clear hK3013 K3013)
        refine wp_cond_false ((hS.get 0 rfl).trans (bF (decide_eq_false d3006_0))) ?_
        replace hS := (((((((hS.nil).cons (hS.get 7 rfl)).cons (hS.get 6 rfl)).cons (hS.get 5 rfl)).cons (hS.get 4 rfl)).cons (hS.get 3 rfl)).cons (hS.get 2 rfl)).cons (hS.get 1 rfl)
        refine reg_seq (N := 144) (bs := [(75, .int .i64 t3002), (2, .slice AL3_2 y3_2.length CL3_2), (3, .pointer (some ⟨gL3_3, 0, none⟩)), (7, .pointer (some ⟨gL3_7, 0, none⟩)), (8, .pointer (some ⟨gL3_8, 0, none⟩)), (9, .int .i64 x3_9), (10, .pointer (some ⟨gL3_10, 0, none⟩))]) (I := fun x => Below w.heap.size w x ∧ Below wL3.heap.size wL3 x ∧ Below w3004.heap.size w3004 x ∧ Below w3015.heap.size w3015 x) (ps := [VB (decide (t3002 = 1)), VB (decide (t3002 = 1))]) (by kernel_rfl) ?_ ?_ rfl hS ⟨hBw3015_w, hBw3015_wL3, hBw3015_w3004, hBw3015_w3015⟩ ?_ ?_
        · exact fun x y hI hb => ⟨below_step hI.1 hb, below_step hI.2.1 hb, below_step hI.2.2.1 hb, below_step hI.2.2.2 hb⟩
        · exact .v (.v (.nil))
        · refine .on rfl (fun a w hS hI hp => does_val (x_bin rfl (hS.get 0 rfl) (rfl) (b_eql _ _ _ _ _ _)) rfl) ?_
          refine .asg 0 rfl rfl rfl rfl ?_
          exact .nil
        clear hS
        intro at3016 w3017 hS hI hp
        have hBw3017_w := hI.1
        have hBw3017_wL3 := hI.2.1
        have hBw3017_w3004 := hI.2.2.1
        have hBw3017_w3015 := hI.2.2.2
        have hv108 : sl _ 108 = .bool (decide (t3002 = 1)) := hp 1 (by decide)
        have hBw3017_w3017 := Below.refl w3017.heap.size w3017
        have hS := hS.cons hv108
        clear hp hI hv108
        (try simp only [Exit.then, Exit.inBlock, reduceIte])
        exact ⟨by trivial, ((((((((hS.nil).cons ((hS.get 0 rfl).trans (congrArg (Value.bool) (by simp only [if_neg d3006_0])))).cons (hS.get 1 rfl)).cons (hS.get 7 rfl)).cons (hS.get 6 rfl)).cons (hS.get 5 rfl)).cons (hS.get 4 rfl)).cons (hS.get 3 rfl)).cons (hS.get 2 rfl), hBw3017_w, hBw3017_wL3, hBw3017_w3004⟩
    rintro e3019 at3019 w3018 ⟨rfl, hS, hBw3018_w, hBw3018_wL3, hBw3018_w3004⟩
    have hBw3018_w3018 := Below.refl w3018.heap.size w3018
    (try simp only [Exit.then, Exit.inBlock, reduceIte])
    refine hK3005 _ _ ?_
    (try clear hK3005 K3005)
    refine wp_cond_false ((hS.get 7 rfl).trans (bF (Bool.eq_false_iff.2 c4))) ?_
    refine wp_seq_k (fun K3020 hK3020 => ?_)
    refine reg_seq (N := 144) (bs := [(2, .slice AL3_2 y3_2.length CL3_2), (3, .pointer (some ⟨gL3_3, 0, none⟩)), (7, .pointer (some ⟨gL3_7, 0, none⟩)), (8, .pointer (some ⟨gL3_8, 0, none⟩)), (9, .int .i64 x3_9), (10, .pointer (some ⟨gL3_10, 0, none⟩)), (75, .int .i64 t3002), (108, .bool (if t3002 = 0 then decide (t3002 = 0) else decide (t3002 = 1)))]) (I := fun x => Below w.heap.size w x ∧ Below wL3.heap.size wL3 x ∧ Below w3018.heap.size w3018 x) (ps := [VB (decide (t3002 = 2)), VB (decide (t3002 = 2))]) (by kernel_rfl) ?_ ?_ rfl hS ⟨hBw3018_w, hBw3018_wL3, hBw3018_w3018⟩ ?_ ?_
    · exact fun x y hI hb => ⟨below_step hI.1 hb, below_step hI.2.1 hb, below_step hI.2.2 hb⟩
    · exact .v (.v (.nil))
    · refine .on rfl (fun a w hS hI hp => does_val (x_bin rfl (hS.get 6 rfl) (rfl) (b_eql _ _ _ _ _ _)) rfl) ?_
      refine .asg 0 rfl rfl rfl rfl ?_
      exact .nil
    clear hS
    intro at3021 w3022 hS hI hp
    have hBw3022_w := hI.1
    have hBw3022_wL3 := hI.2.1
    have hBw3022_w3018 := hI.2.2
    replace hS := (((((((hS.nil).cons (hS.get 6 rfl)).cons (hS.get 5 rfl)).cons (hS.get 4 rfl)).cons (hS.get 3 rfl)).cons (hS.get 2 rfl)).cons (hS.get 1 rfl)).cons (hS.get 0 rfl)
    have hv122 : sl _ 122 = .bool (decide (t3002 = 2)) := hp 1 (by decide)
    have hBw3022_w3022 := Below.refl w3022.heap.size w3022
    have hS := hS.cons hv122
    clear hp hI hv122
    refine hK3020 _ _ ?_
    (try clear hK3020 K3020)
    refine wp_cond_false ((hS.get 0 rfl).trans (bF (decide_eq_false c5))) ?_
    refine wp_seq_k (fun K3023 hK3023 => ?_)
    refine reg_seq (N := 144) (bs := [(122, .bool (decide (t3002 = 2))), (2, .slice AL3_2 y3_2.length CL3_2), (3, .pointer (some ⟨gL3_3, 0, none⟩)), (7, .pointer (some ⟨gL3_7, 0, none⟩)), (8, .pointer (some ⟨gL3_8, 0, none⟩)), (9, .int .i64 x3_9), (10, .pointer (some ⟨gL3_10, 0, none⟩)), (75, .int .i64 t3002)]) (I := fun x => Below w.heap.size w x ∧ Below wL3.heap.size wL3 x ∧ Below w3022.heap.size w3022 x) (ps := [VB (decide (t3002 = 5)), VB (decide (t3002 = 5))]) (by kernel_rfl) ?_ ?_ rfl hS ⟨hBw3022_w, hBw3022_wL3, hBw3022_w3022⟩ ?_ ?_
    · exact fun x y hI hb => ⟨below_step hI.1 hb, below_step hI.2.1 hb, below_step hI.2.2 hb⟩
    · exact .v (.v (.nil))
    · refine .on rfl (fun a w hS hI hp => does_val (x_bin rfl (hS.get 7 rfl) (rfl) (b_eql _ _ _ _ _ _)) rfl) ?_
      refine .asg 0 rfl rfl rfl rfl ?_
      exact .nil
    clear hS
    intro at3024 w3025 hS hI hp
    have hBw3025_w := hI.1
    have hBw3025_wL3 := hI.2.1
    have hBw3025_w3022 := hI.2.2
    replace hS := ((((((hS.nil).cons (hS.get 6 rfl)).cons (hS.get 5 rfl)).cons (hS.get 4 rfl)).cons (hS.get 3 rfl)).cons (hS.get 2 rfl)).cons (hS.get 1 rfl)
    have hv137 : sl _ 137 = .bool (decide (t3002 = 5)) := hp 1 (by decide)
    have hBw3025_w3025 := Below.refl w3025.heap.size w3025
    have hS := hS.cons hv137
    clear hp hI hv137
    refine hK3023 _ _ ?_
    (try clear hK3023 K3023)
    refine wp_cond_false ((hS.get 0 rfl).trans (bF (decide_eq_false c6))) ?_
    refine wp_seq_k (fun K3026 hK3026 => ?_)
    refine reg_seq_tail 3 (N := 144) (bs := [(137, .bool (decide (t3002 = 5))), (2, .slice AL3_2 y3_2.length CL3_2), (3, .pointer (some ⟨gL3_3, 0, none⟩)), (7, .pointer (some ⟨gL3_7, 0, none⟩)), (8, .pointer (some ⟨gL3_8, 0, none⟩)), (9, .int .i64 x3_9), (10, .pointer (some ⟨gL3_10, 0, none⟩))]) (I := fun x => Below w.heap.size w x ∧ Below wL3.heap.size wL3 x ∧ Below w3025.heap.size w3025 x) (ps := [VP gL3_10 3, IsV ((carillonlaw17_DelayPlays.v5 x3_10_3 x3_10_4 x3_10_5 x3_10_6 x3_10_7 x3_10_8 x3_10_9 x3_10_10 x3_10_11 x3_10_12 x3_10_13 x3_10_14 x3_10_15 x3_10_16 x3_10_17 x3_10_18 x3_10_19 x3_10_20 x3_10_21 x3_10_22 x3_10_23 x3_10_24 x3_10_25)), IsB (carillonlaw17_DelayPlays.c6 0 0 0 0 0 0 0 0 0 0 0 0 0 0 0 0 0 0 0 0 0 0 0) 34 w3025.heap.size]) (by kernel_rfl) ?_ ?_ rfl hS ⟨hBw3025_w, hBw3025_wL3, hBw3025_w3025⟩ ?_ ?_
    · exact fun x y hI hb => ⟨below_step hI.1 hb, below_step hI.2.1 hb, below_step hI.2.2 hb⟩
    · exact .v (.v (.cons (Stays.b _ _ _) (.nil)))
    · refine .on rfl (fun a w hS hI hp => does_val (x_fieldE (b := 0) rfl (hS.get 6 rfl) Try.underlying36 rfl rfl (by kernel_rfl)) rfl) ?_
      refine .on rfl (fun a w hS hI hp => does_loadmid (cs := [.int .i64 x3_10_3, .int .i64 x3_10_4, .int .i64 x3_10_5, .int .i64 x3_10_6, .int .u64 x3_10_7, .int .i64 x3_10_8, .int .i64 x3_10_9, .int .i64 x3_10_10, .int .i64 x3_10_11, .int .u64 x3_10_12, .int .i64 x3_10_13, .int .i64 x3_10_14, .int .i64 x3_10_15, .int .i64 x3_10_16, .int .i64 x3_10_17, .int .i64 x3_10_18, .int .i64 x3_10_19, .int .u64 x3_10_20, .int .i64 x3_10_21, .int .i64 x3_10_22, .int .i64 x3_10_23, .int .i64 x3_10_24, .int .i64 x3_10_25]) rfl (hp.V 0 rfl rfl) (((hI.2.1).block gL3_10 (blk_lt hbxLgL3_10)).trans hbxLgL3_10) (by kernel_rfl) Try.underlying34 rfl (by kernel_rfl) rfl) ?_
      refine .on rfl (fun a w hS hI hp => does_var (x_alloc rfl (by kernel_rfl)) (hI.2.2).size) ?_
      exact .nil
    clear hS
    intro at3027 w3028 hS hI hp
    have hBw3028_w := hI.1
    have hBw3028_wL3 := hI.2.1
    have hBw3028_w3025 := hI.2.2
    replace hS := ((((((hS.nil).cons (hS.get 6 rfl)).cons (hS.get 5 rfl)).cons (hS.get 4 rfl)).cons (hS.get 3 rfl)).cons (hS.get 2 rfl)).cons (hS.get 1 rfl)
    have hv77 : sl _ 77 = (carillonlaw17_DelayPlays.v5 x3_10_3 x3_10_4 x3_10_5 x3_10_6 x3_10_7 x3_10_8 x3_10_9 x3_10_10 x3_10_11 x3_10_12 x3_10_13 x3_10_14 x3_10_15 x3_10_16 x3_10_17 x3_10_18 x3_10_19 x3_10_20 x3_10_21 x3_10_22 x3_10_23 x3_10_24 x3_10_25) := hp 1 (by decide)
    obtain ⟨g3029, hv15, hgeg3029, hbxg3029⟩ := (show IsB _ 34 _ (sl _ 15) _ from hp 2 (by decide))
    have hne3030 : g3029 ≠ gL3_3 := Nat.ne_of_gt (Nat.lt_of_lt_of_le (blk_lt ((hBw3025_wL3.block gL3_3 (blk_lt hbxLgL3_3)).trans hbxLgL3_3)) hgeg3029)
    have hne3031 : g3029 ≠ gL3_7 := Nat.ne_of_gt (Nat.lt_of_lt_of_le (blk_lt ((hBw3025_wL3.block gL3_7 (blk_lt hbxLgL3_7)).trans hbxLgL3_7)) hgeg3029)
    have hne3032 : g3029 ≠ gL3_8 := Nat.ne_of_gt (Nat.lt_of_lt_of_le (blk_lt ((hBw3025_wL3.block gL3_8 (blk_lt hbxLgL3_8)).trans hbxLgL3_8)) hgeg3029)
    have hne3033 : g3029 ≠ gL3_10 := Nat.ne_of_gt (Nat.lt_of_lt_of_le (blk_lt ((hBw3025_wL3.block gL3_10 (blk_lt hbxLgL3_10)).trans hbxLgL3_10)) hgeg3029)
    have hBw3028_w3028 := Below.refl w3028.heap.size w3028
    have hS := hS.cons hv77
    have hS := hS.cons hv15
    clear hp hI hv77 hv15
    show wpList _ _ _ [_] _ _
    refine list_step rfl (does_storeAll (g := g3029) (cs := (carillonlaw17_DelayPlays.c6 x3_10_3 x3_10_4 x3_10_5 x3_10_6 x3_10_7 x3_10_8 x3_10_9 x3_10_10 x3_10_11 x3_10_12 x3_10_13 x3_10_14 x3_10_15 x3_10_16 x3_10_17 x3_10_18 x3_10_19 x3_10_20 x3_10_21 x3_10_22 x3_10_23 x3_10_24 x3_10_25)) rfl (hS.get 0 rfl) (hS.get 1 rfl) ((hBw3028_w3028.block g3029 (blk_lt hbxg3029)).trans hbxg3029) (by kernel_rfl) (by kernel_rfl) (by kernel_rfl)) ?_
    rintro vw3034 w3034 ⟨rfl, hbxw3034, hT⟩
    have hBw3034_w := hT.below hBw3028_w (Nat.le_trans (hBw3025_w).size hgeg3029) (hBw3028_w).size
    have hBw3034_wL3 := hT.below hBw3028_wL3 (Nat.le_trans (hBw3025_wL3).size hgeg3029) (hBw3028_wL3).size
    have hBw3034_w3025 := hT.below hBw3028_w3025 hgeg3029 (hBw3028_w3025).size
    have hBw3034_w3034 := Below.refl w3034.heap.size w3034
    clear hT
    refine wpList_nil ?_
    refine hK3026 _ _ ?_
    (try clear hK3026 K3026)
    refine wp_seq_k (fun K3035 hK3035 => ?_)
    have J4 : ∀ (aL4 : Act) (wL4 : World) (y4_2 : List (S36)) (AL4_2 : Option Addr) (CL4_2 : Nat) (x4_3_0 x4_3_1 : Int) (gL4_3 : Nat) (x4_7_0 x4_7_1 x4_7_2 x4_7_3 x4_7_4 : Int) (x4_7_5 x4_7_6 : Bool) (gL4_7 : Nat) (x4_8_0 x4_8_1 x4_8_2 : Int) (x4_8_3 x4_8_4 : Bool) (x4_8_5 x4_8_6 : Int) (gL4_8 : Nat) (x4_9 x4_15_0 x4_15_1 x4_15_2 x4_15_3 x4_15_4 x4_15_5 x4_15_6 x4_15_7 x4_15_8 x4_15_9 x4_15_10 x4_15_11 x4_15_12 x4_15_13 x4_15_14 x4_15_15 x4_15_16 x4_15_17 x4_15_18 x4_15_19 x4_15_20 x4_15_21 x4_15_22 : Int) (gL4_15 : Nat), carillonlaw17_DelayPlays.j4 k (carillonlaw17_DelayPlays.l1 k n1) y4_2 x4_3_0 x4_3_1 x4_7_0 x4_7_1 x4_7_2 x4_7_3 x4_7_4 x4_7_5 x4_7_6 x4_8_0 x4_8_1 x4_8_2 x4_8_3 x4_8_4 x4_8_5 x4_8_6 x4_9 x4_15_0 x4_15_1 x4_15_2 x4_15_3 x4_15_4 x4_15_5 x4_15_6 x4_15_7 x4_15_8 x4_15_9 x4_15_10 x4_15_11 x4_15_12 x4_15_13 x4_15_14 x4_15_15 x4_15_16 x4_15_17 x4_15_18 x4_15_19 x4_15_20 x4_15_21 x4_15_22 = some true → St 144 [(2, .slice AL4_2 y4_2.length CL4_2), (3, .pointer (some ⟨gL4_3, 0, none⟩)), (7, .pointer (some ⟨gL4_7, 0, none⟩)), (8, .pointer (some ⟨gL4_8, 0, none⟩)), (9, .int .i64 x4_9), (15, .pointer (some ⟨gL4_15, 0, none⟩))] aL4 → Below w.heap.size w wL4 → y4_2.length ≤ CL4_2 → Kd.C k36 w AL4_2 y4_2.length y4_2 → w.heap.size ≤ gL4_3 → wL4.heap[gL4_3]? = some (.cells #[.int .u64 x4_3_0, .int .i64 x4_3_1] 24 (0, 0)) → w.heap.size ≤ gL4_7 → wL4.heap[gL4_7]? = some (.cells (carillonlaw17_DelayPlays.c0 x4_7_0 x4_7_1 x4_7_2 x4_7_3 x4_7_4 x4_7_5 x4_7_6) 54 (0, 0)) → w.heap.size ≤ gL4_8 → wL4.heap[gL4_8]? = some (.cells (carillonlaw17_DelayPlays.c2 x4_8_0 x4_8_1 x4_8_2 x4_8_3 x4_8_4 x4_8_5 x4_8_6) 30 (0, 0)) → w.heap.size ≤ gL4_15 → wL4.heap[gL4_15]? = some (.cells (carillonlaw17_DelayPlays.c6 x4_15_0 x4_15_1 x4_15_2 x4_15_3 x4_15_4 x4_15_5 x4_15_6 x4_15_7 x4_15_8 x4_15_9 x4_15_10 x4_15_11 x4_15_12 x4_15_13 x4_15_14 x4_15_15 x4_15_16 x4_15_17 x4_15_18 x4_15_19 x4_15_20 x4_15_21 x4_15_22) 34 (0, 0)) → gL4_7 ≠ gL4_3 → gL4_8 ≠ gL4_3 → gL4_8 ≠ gL4_7 → gL4_15 ≠ gL4_3 → gL4_15 ≠ gL4_7 → gL4_15 ≠ gL4_8 → K3035 aL4 wL4 := by
      intro aL4 wL4 y4_2 AL4_2 CL4_2 x4_3_0 x4_3_1 gL4_3 x4_7_0 x4_7_1 x4_7_2 x4_7_3 x4_7_4 x4_7_5 x4_7_6 gL4_7 x4_8_0 x4_8_1 x4_8_2 x4_8_3 x4_8_4 x4_8_5 x4_8_6 gL4_8 x4_9 x4_15_0 x4_15_1 x4_15_2 x4_15_3 x4_15_4 x4_15_5 x4_15_6 x4_15_7 x4_15_8 x4_15_9 x4_15_10 x4_15_11 x4_15_12 x4_15_13 x4_15_14 x4_15_15 x4_15_16 x4_15_17 x4_15_18 x4_15_19 x4_15_20 x4_15_21 x4_15_22 gL4_15 H hS hBwL4_w hr4_2 hcL4_2 hgeLgL4_3 hbxLgL4_3 hgeLgL4_7 hbxLgL4_7 hgeLgL4_8 hbxLgL4_8 hgeLgL4_15 hbxLgL4_15 hneL4_7_3 hneL4_8_3 hneL4_8_7 hneL4_15_3 hneL4_15_7 hneL4_15_8
      unfold carillonlaw17_DelayPlays.j4 at H
      (try dsimp only at H)
      obtain ⟨t4005, At4005, H⟩ := Option.bind_eq_some_iff.mp H
      obtain ⟨t4005_1, t4005_2, t4005_3, t4005_4, t4005_5, t4005_6, t4005_7, t4005_8, t4005_9⟩ := t4005
      (try dsimp only at H)
      obtain ⟨t4024, At4024, H⟩ := Option.bind_eq_some_iff.mp H
      obtain ⟨t4024_1, t4024_2, t4024_3, t4024_4, t4024_5, t4024_6, t4024_7, t4024_8, t4024_9⟩ := t4024
      (try dsimp only at H)
      by_cases c7 : t4005_1 = t4024_1
      rotate_left
      · rw [if_neg c7] at H
        exact absurd H (by simp)
      rw [if_pos c7] at H
      by_cases c8 : (t4005_2 == t4024_2) = true
      rotate_left
      · rw [if_neg c8] at H
        exact absurd H (by simp)
      rw [if_pos c8] at H
      have hBwL4_wL4 := Below.refl wL4.heap.size wL4
      refine hK3035 _ _ ?_
      (try clear hK3035 K3035)
      refine wp_seq_k (fun K4001 hK4001 => ?_)
      refine reg_seq_tail 2 (N := 144) (bs := [(2, .slice AL4_2 y4_2.length CL4_2), (3, .pointer (some ⟨gL4_3, 0, none⟩)), (7, .pointer (some ⟨gL4_7, 0, none⟩)), (8, .pointer (some ⟨gL4_8, 0, none⟩)), (9, .int .i64 x4_9), (15, .pointer (some ⟨gL4_15, 0, none⟩))]) (I := fun x => Below w.heap.size w x ∧ Below wL4.heap.size wL4 x) (ps := [VP gL4_7 0, IsV ((carillonlaw17_DelayPlays.v5 x4_15_0 x4_15_1 x4_15_2 x4_15_3 x4_15_4 x4_15_5 x4_15_6 x4_15_7 x4_15_8 x4_15_9 x4_15_10 x4_15_11 x4_15_12 x4_15_13 x4_15_14 x4_15_15 x4_15_16 x4_15_17 x4_15_18 x4_15_19 x4_15_20 x4_15_21 x4_15_22))]) (by kernel_rfl) ?_ ?_ rfl hS ⟨hBwL4_w, hBwL4_wL4⟩ ?_ ?_
      · exact fun x y hI hb => ⟨below_step hI.1 hb, below_step hI.2 hb⟩
      · exact .v (.v (.nil))
      · refine .ms 2 rfl rfl rfl ?_
        refine .on rfl (fun a w hS hI hp => does_loadrow rfl (hS.get 5 rfl) (((hI.2).block gL4_15 (blk_lt hbxLgL4_15)).trans hbxLgL4_15) Try.underlying34 rfl (by kernel_rfl) rfl) ?_
        exact .nil
      clear hS
      intro at4002 w4003 hS hI hp
      have hBw4003_w := hI.1
      have hBw4003_wL4 := hI.2
      have hv89 : sl _ 89 = .pointer (some ⟨gL4_7, 0, none⟩) := hp 0 (by decide)
      have hv90 : sl _ 90 = (carillonlaw17_DelayPlays.v5 x4_15_0 x4_15_1 x4_15_2 x4_15_3 x4_15_4 x4_15_5 x4_15_6 x4_15_7 x4_15_8 x4_15_9 x4_15_10 x4_15_11 x4_15_12 x4_15_13 x4_15_14 x4_15_15 x4_15_16 x4_15_17 x4_15_18 x4_15_19 x4_15_20 x4_15_21 x4_15_22) := hp 1 (by decide)
      have hBw4003_w4003 := Below.refl w4003.heap.size w4003
      have hS := hS.cons hv89
      have hS := hS.cons hv90
      clear hp hI hv89 hv90
      show wpList _ _ _ [_, _, _, _, _, _] _ _
      refine list_step rfl (R := fun v w' => v = .tuple #[.int .i64 t4005_1, .bool t4005_2] ∧ w'.heap[gL4_7]? = some (.cells (carillonlaw17_DelayPlays.c0 t4005_3 t4005_4 t4005_5 t4005_6 t4005_7 t4005_8 t4005_9) 54 (0, 0)) ∧ Tch gL4_7 _ w') (does_call (by kernel_rfl) (ar2 (hS.get 1 rfl) (hS.get 0 rfl)) ((delay_Exchange_Response.calls gL4_7 x4_7_0 x4_7_1 x4_7_2 x4_7_3 x4_7_4 x4_7_5 x4_7_6 x4_15_0 x4_15_1 x4_15_2 x4_15_3 x4_15_4 x4_15_5 x4_15_6 x4_15_7 x4_15_8 x4_15_9 x4_15_10 x4_15_11 x4_15_12 x4_15_13 x4_15_14 x4_15_15 x4_15_16 x4_15_17 x4_15_18 x4_15_19 x4_15_20 x4_15_21 x4_15_22 t4005_1 t4005_2 t4005_3 t4005_4 t4005_5 t4005_6 t4005_7 t4005_8 t4005_9 _ ((hBw4003_wL4.block gL4_7 (blk_lt hbxLgL4_7)).trans hbxLgL4_7) At4005).mono fun _ _ h => ⟨_, h.1, rfl, h.2⟩)) ?_
      rintro vw4004 w4004 ⟨rfl, hbxw4004, hT⟩
      have hn4006 := hT.blk ((hBw4003_wL4.block gL4_3 (blk_lt hbxLgL4_3)).trans hbxLgL4_3) (Ne.symm hneL4_7_3)
      have hn4007 := hT.blk ((hBw4003_wL4.block gL4_8 (blk_lt hbxLgL4_8)).trans hbxLgL4_8) hneL4_8_7
      have hn4008 := hT.blk ((hBw4003_wL4.block gL4_15 (blk_lt hbxLgL4_15)).trans hbxLgL4_15) hneL4_15_7
      have hBw4004_w := hT.below hBw4003_w hgeLgL4_7 (hBw4003_w).size
      have hBw4004_w4004 := Below.refl w4004.heap.size w4004
      clear hT
      refine hS.next (v := .tuple #[.int .i64 t4005_1, .bool t4005_2]) (d := 91) rfl (by decide) (by rfl) ?_
      clear hS
      intro at4009 hS
      refine list_step rfl (R := fun v w' => Below _ _ w' ∧ (IsV (.tuple #[.int .i64 t4005_1, .bool t4005_2])) v w') (does_val (x_move rfl (hS.get 0 rfl)) rfl) ?_
      rintro vw4010 w4010 ⟨hb, he⟩
      have hBw4010_w := below_step hBw4004_w hb
      have hBw4010_w4004 := below_step hBw4004_w4004 hb
      have hBw4010_w4010 := Below.refl w4010.heap.size w4010
      obtain rfl : vw4010 = .tuple #[.int .i64 t4005_1, .bool t4005_2] := he
      refine hS.next (v := .tuple #[.int .i64 t4005_1, .bool t4005_2]) (d := 88) rfl (by decide) (by rfl) ?_
      clear hS
      intro at4011 hS
      refine list_step rfl (R := fun v w' => Below _ _ w' ∧ (VI t4005_1) v w') (does_val (x_extract rfl (hS.get 0 rfl) rfl) rfl) ?_
      rintro vw4012 w4012 ⟨hb, he⟩
      have hBw4012_w := below_step hBw4010_w hb
      have hBw4012_w4004 := below_step hBw4010_w4004 hb
      have hBw4012_w4010 := below_step hBw4010_w4010 hb
      have hBw4012_w4012 := Below.refl w4012.heap.size w4012
      obtain rfl : vw4012 = .int .i64 t4005_1 := he
      refine hS.next (v := .int .i64 t4005_1) (d := 92) rfl (by decide) (by rfl) ?_
      clear hS
      intro at4013 hS
      refine list_step rfl (R := fun v w' => Below _ _ w' ∧ (VB t4005_2) v w') (does_val (x_extract rfl (hS.get 1 rfl) rfl) rfl) ?_
      rintro vw4014 w4014 ⟨hb, he⟩
      have hBw4014_w := below_step hBw4012_w hb
      have hBw4014_w4004 := below_step hBw4012_w4004 hb
      have hBw4014_w4012 := below_step hBw4012_w4012 hb
      have hBw4014_w4014 := Below.refl w4014.heap.size w4014
      obtain rfl : vw4014 = .bool t4005_2 := he
      refine hS.next (v := .bool t4005_2) (d := 93) rfl (by decide) (by rfl) ?_
      clear hS
      intro at4015 hS
      refine list_step rfl (R := fun v w' => Below _ _ w' ∧ (VI t4005_1) v w') (does_val (x_assign rfl (hS.get 1 rfl)) rfl) ?_
      rintro vw4016 w4016 ⟨hb, he⟩
      have hBw4016_w := below_step hBw4014_w hb
      have hBw4016_w4004 := below_step hBw4014_w4004 hb
      have hBw4016_w4014 := below_step hBw4014_w4014 hb
      have hBw4016_w4016 := Below.refl w4016.heap.size w4016
      obtain rfl : vw4016 = .int .i64 t4005_1 := he
      refine hS.next (v := .int .i64 t4005_1) (d := 16) rfl (by decide) (by rfl) ?_
      clear hS
      intro at4017 hS
      refine list_step rfl (R := fun v w' => Below _ _ w' ∧ (VB t4005_2) v w') (does_val (x_assign rfl (hS.get 1 rfl)) rfl) ?_
      rintro vw4018 w4018 ⟨hb, he⟩
      have hBw4018_w := below_step hBw4016_w hb
      have hBw4018_w4004 := below_step hBw4016_w4004 hb
      have hBw4018_w4016 := below_step hBw4016_w4016 hb
      have hBw4018_w4018 := Below.refl w4018.heap.size w4018
      obtain rfl : vw4018 = .bool t4005_2 := he
      refine hS.next (v := .bool t4005_2) (d := 17) rfl (by decide) (by rfl) ?_
      clear hS
      intro at4019 hS
      refine wpList_nil ?_
      refine hK4001 _ _ ?_
      (try clear hK4001 K4001)
      refine wp_seq_k (fun K4020 hK4020 => ?_)
      refine reg_seq_tail 2 (N := 144) (bs := [(17, .bool t4005_2), (16, .int .i64 t4005_1), (93, .bool t4005_2), (92, .int .i64 t4005_1), (88, .tuple #[.int .i64 t4005_1, .bool t4005_2]), (91, .tuple #[.int .i64 t4005_1, .bool t4005_2]), (90, (carillonlaw17_DelayPlays.v5 x4_15_0 x4_15_1 x4_15_2 x4_15_3 x4_15_4 x4_15_5 x4_15_6 x4_15_7 x4_15_8 x4_15_9 x4_15_10 x4_15_11 x4_15_12 x4_15_13 x4_15_14 x4_15_15 x4_15_16 x4_15_17 x4_15_18 x4_15_19 x4_15_20 x4_15_21 x4_15_22)), (89, .pointer (some ⟨gL4_7, 0, none⟩)), (2, .slice AL4_2 y4_2.length CL4_2), (3, .pointer (some ⟨gL4_3, 0, none⟩)), (7, .pointer (some ⟨gL4_7, 0, none⟩)), (8, .pointer (some ⟨gL4_8, 0, none⟩)), (9, .int .i64 x4_9), (15, .pointer (some ⟨gL4_15, 0, none⟩))]) (I := fun x => Below w.heap.size w x ∧ Below w4004.heap.size w4004 x ∧ Below w4018.heap.size w4018 x) (ps := [VP gL4_8 0, IsV ((carillonlaw17_DelayPlays.v5 x4_15_0 x4_15_1 x4_15_2 x4_15_3 x4_15_4 x4_15_5 x4_15_6 x4_15_7 x4_15_8 x4_15_9 x4_15_10 x4_15_11 x4_15_12 x4_15_13 x4_15_14 x4_15_15 x4_15_16 x4_15_17 x4_15_18 x4_15_19 x4_15_20 x4_15_21 x4_15_22))]) (by kernel_rfl) ?_ ?_ rfl hS ⟨hBw4018_w, hBw4018_w4004, hBw4018_w4018⟩ ?_ ?_
      · exact fun x y hI hb => ⟨below_step hI.1 hb, below_step hI.2.1 hb, below_step hI.2.2 hb⟩
      · exact .v (.v (.nil))
      · refine .ms 11 rfl rfl rfl ?_
        refine .on rfl (fun a w hS hI hp => does_loadrow rfl (hS.get 13 rfl) (((hI.2.1).block gL4_15 (blk_lt hn4008)).trans hn4008) Try.underlying34 rfl (by kernel_rfl) rfl) ?_
        exact .nil
      clear hS
      intro at4021 w4022 hS hI hp
      have hBw4022_w := hI.1
      have hBw4022_w4004 := hI.2.1
      have hBw4022_w4018 := hI.2.2
      replace hS := (((((((hS.nil).cons (hS.get 12 rfl)).cons (hS.get 11 rfl)).cons (hS.get 10 rfl)).cons (hS.get 9 rfl)).cons (hS.get 8 rfl)).cons (hS.get 1 rfl)).cons (hS.get 0 rfl)
      have hv95 : sl _ 95 = .pointer (some ⟨gL4_8, 0, none⟩) := hp 0 (by decide)
      have hv96 : sl _ 96 = (carillonlaw17_DelayPlays.v5 x4_15_0 x4_15_1 x4_15_2 x4_15_3 x4_15_4 x4_15_5 x4_15_6 x4_15_7 x4_15_8 x4_15_9 x4_15_10 x4_15_11 x4_15_12 x4_15_13 x4_15_14 x4_15_15 x4_15_16 x4_15_17 x4_15_18 x4_15_19 x4_15_20 x4_15_21 x4_15_22) := hp 1 (by decide)
      have hBw4022_w4022 := Below.refl w4022.heap.size w4022
      have hS := hS.cons hv95
      have hS := hS.cons hv96
      clear hp hI hv95 hv96
      show wpList _ _ _ [_, _, _, _, _, _] _ _
      refine list_step rfl (R := fun v w' => v = .tuple #[.int .i64 t4024_1, .bool t4024_2] ∧ w'.heap[gL4_8]? = some (.cells (carillonlaw17_DelayPlays.c2 t4024_3 t4024_4 t4024_5 t4024_6 t4024_7 t4024_8 t4024_9) 30 (0, 0)) ∧ Tch gL4_8 _ w') (does_call (by kernel_rfl) (ar2 (hS.get 1 rfl) (hS.get 0 rfl)) ((carillonref17_X_Response.calls gL4_8 x4_8_0 x4_8_1 x4_8_2 x4_8_3 x4_8_4 x4_8_5 x4_8_6 x4_15_0 x4_15_1 x4_15_2 x4_15_3 x4_15_4 x4_15_5 x4_15_6 x4_15_7 x4_15_8 x4_15_9 x4_15_10 x4_15_11 x4_15_12 x4_15_13 x4_15_14 x4_15_15 x4_15_16 x4_15_17 x4_15_18 x4_15_19 x4_15_20 x4_15_21 x4_15_22 t4024_1 t4024_2 t4024_3 t4024_4 t4024_5 t4024_6 t4024_7 t4024_8 t4024_9 _ ((hBw4022_w4004.block gL4_8 (blk_lt hn4007)).trans hn4007) At4024).mono fun _ _ h => ⟨_, h.1, rfl, h.2⟩)) ?_
      rintro vw4023 w4023 ⟨rfl, hbxw4023, hT⟩
      have hn4025 := hT.blk ((hBw4022_w4004.block gL4_3 (blk_lt hn4006)).trans hn4006) (Ne.symm hneL4_8_3)
      have hn4026 := hT.blk ((hBw4022_w4004.block gL4_7 (blk_lt hbxw4004)).trans hbxw4004) (Ne.symm hneL4_8_7)
      have hn4027 := hT.blk ((hBw4022_w4004.block gL4_15 (blk_lt hn4008)).trans hn4008) hneL4_15_8
      have hBw4023_w := hT.below hBw4022_w hgeLgL4_8 (hBw4022_w).size
      have hBw4023_w4023 := Below.refl w4023.heap.size w4023
      clear hT
      refine hS.next (v := .tuple #[.int .i64 t4024_1, .bool t4024_2]) (d := 97) rfl (by decide) (by rfl) ?_
      clear hS
      intro at4028 hS
      refine list_step rfl (R := fun v w' => Below _ _ w' ∧ (IsV (.tuple #[.int .i64 t4024_1, .bool t4024_2])) v w') (does_val (x_move rfl (hS.get 0 rfl)) rfl) ?_
      rintro vw4029 w4029 ⟨hb, he⟩
      have hBw4029_w := below_step hBw4023_w hb
      have hBw4029_w4023 := below_step hBw4023_w4023 hb
      have hBw4029_w4029 := Below.refl w4029.heap.size w4029
      obtain rfl : vw4029 = .tuple #[.int .i64 t4024_1, .bool t4024_2] := he
      refine hS.next (v := .tuple #[.int .i64 t4024_1, .bool t4024_2]) (d := 94) rfl (by decide) (by rfl) ?_
      clear hS
      intro at4030 hS
      refine list_step rfl (R := fun v w' => Below _ _ w' ∧ (VI t4024_1) v w') (does_val (x_extract rfl (hS.get 0 rfl) rfl) rfl) ?_
      rintro vw4031 w4031 ⟨hb, he⟩
      have hBw4031_w := below_step hBw4029_w hb
      have hBw4031_w4023 := below_step hBw4029_w4023 hb
      have hBw4031_w4029 := below_step hBw4029_w4029 hb
      have hBw4031_w4031 := Below.refl w4031.heap.size w4031
      obtain rfl : vw4031 = .int .i64 t4024_1 := he
      refine hS.next (v := .int .i64 t4024_1) (d := 98) rfl (by decide) (by rfl) ?_
      clear hS
      intro at4032 hS
      refine list_step rfl (R := fun v w' => Below _ _ w' ∧ (VB t4024_2) v w') (does_val (x_extract rfl (hS.get 1 rfl) rfl) rfl) ?_
      rintro vw4033 w4033 ⟨hb, he⟩
      have hBw4033_w := below_step hBw4031_w hb
      have hBw4033_w4023 := below_step hBw4031_w4023 hb
      have hBw4033_w4031 := below_step hBw4031_w4031 hb
      have hBw4033_w4033 := Below.refl w4033.heap.size w4033
      obtain rfl : vw4033 = .bool t4024_2 := he
      refine hS.next (v := .bool t4024_2) (d := 99) rfl (by decide) (by rfl) ?_
      clear hS
      intro at4034 hS
      refine list_step rfl (R := fun v w' => Below _ _ w' ∧ (VI t4024_1) v w') (does_val (x_assign rfl (hS.get 1 rfl)) rfl) ?_
      rintro vw4035 w4035 ⟨hb, he⟩
      have hBw4035_w := below_step hBw4033_w hb
      have hBw4035_w4023 := below_step hBw4033_w4023 hb
      have hBw4035_w4033 := below_step hBw4033_w4033 hb
      have hBw4035_w4035 := Below.refl w4035.heap.size w4035
      obtain rfl : vw4035 = .int .i64 t4024_1 := he
      refine hS.next (v := .int .i64 t4024_1) (d := 18) rfl (by decide) (by rfl) ?_
      clear hS
      intro at4036 hS
      refine list_step rfl (R := fun v w' => Below _ _ w' ∧ (VB t4024_2) v w') (does_val (x_assign rfl (hS.get 1 rfl)) rfl) ?_
      rintro vw4037 w4037 ⟨hb, he⟩
      have hBw4037_w := below_step hBw4035_w hb
      have hBw4037_w4023 := below_step hBw4035_w4023 hb
      have hBw4037_w4035 := below_step hBw4035_w4035 hb
      have hBw4037_w4037 := Below.refl w4037.heap.size w4037
      obtain rfl : vw4037 = .bool t4024_2 := he
      refine hS.next (v := .bool t4024_2) (d := 19) rfl (by decide) (by rfl) ?_
      clear hS
      intro at4038 hS
      refine wpList_nil ?_
      refine hK4020 _ _ ?_
      (try clear hK4020 K4020)
      refine wp_seq_k (fun K4039 hK4039 => ?_)
      refine reg_seq (N := 144) (bs := [(19, .bool t4024_2), (18, .int .i64 t4024_1), (99, .bool t4024_2), (98, .int .i64 t4024_1), (94, .tuple #[.int .i64 t4024_1, .bool t4024_2]), (97, .tuple #[.int .i64 t4024_1, .bool t4024_2]), (96, (carillonlaw17_DelayPlays.v5 x4_15_0 x4_15_1 x4_15_2 x4_15_3 x4_15_4 x4_15_5 x4_15_6 x4_15_7 x4_15_8 x4_15_9 x4_15_10 x4_15_11 x4_15_12 x4_15_13 x4_15_14 x4_15_15 x4_15_16 x4_15_17 x4_15_18 x4_15_19 x4_15_20 x4_15_21 x4_15_22)), (95, .pointer (some ⟨gL4_8, 0, none⟩)), (17, .bool t4005_2), (16, .int .i64 t4005_1), (2, .slice AL4_2 y4_2.length CL4_2), (3, .pointer (some ⟨gL4_3, 0, none⟩)), (7, .pointer (some ⟨gL4_7, 0, none⟩)), (8, .pointer (some ⟨gL4_8, 0, none⟩)), (9, .int .i64 x4_9)]) (I := fun x => Below w.heap.size w x ∧ Below w4023.heap.size w4023 x ∧ Below w4037.heap.size w4037 x) (ps := [VI t4005_1, VI t4024_1, VB (!decide (t4005_1 = t4024_1)), VB (!decide (t4005_1 = t4024_1)), VB t4005_2, VB t4024_2, VB (!(t4005_2 == t4024_2)), VB (!(t4005_2 == t4024_2))]) (by kernel_rfl) ?_ ?_ rfl hS ⟨hBw4037_w, hBw4037_w4023, hBw4037_w4037⟩ ?_ ?_
      · exact fun x y hI hb => ⟨below_step hI.1 hb, below_step hI.2.1 hb, below_step hI.2.2 hb⟩
      · exact .v (.v (.v (.v (.v (.v (.v (.v (.nil))))))))
      · refine .ms 9 rfl rfl rfl ?_
        refine .ms 1 rfl rfl rfl ?_
        refine .on rfl (fun a w hS hI hp => does_val (x_bin rfl (hp.V 0 rfl rfl) (hp.V 1 rfl rfl) (b_neq _ _ _ _ _ _)) rfl) ?_
        refine .mv 2 rfl rfl rfl rfl ?_
        refine .oy 3 103 rfl rfl rfl rfl rfl ((congrArg (!·) (decide_eq_true c7))) (fun a w hS hI hp => does_val (x_move rfl (hS.get 8 rfl)) rfl) ?_
        refine .oy 3 103 rfl rfl rfl rfl rfl ((congrArg (!·) (decide_eq_true c7))) (fun a w hS hI hp => does_val (x_move rfl (hS.get 0 rfl)) rfl) ?_
        refine .oy 3 103 rfl rfl rfl rfl rfl ((congrArg (!·) (decide_eq_true c7))) (fun a w hS hI hp => does_val (x_bin rfl (hp.V 4 rfl rfl) (hp.V 5 rfl rfl) (b_neb _ _ _ _ _ (by kernel_rfl))) rfl) ?_
        refine .on rfl (fun a w hS hI hp => does_val (x_pickF rfl ((hp.V 3 rfl rfl).trans (bF (congrArg (!·) (decide_eq_true c7)))) (hp.V 6 rfl rfl)) rfl) ?_
        exact .nil
      clear hS
      intro at4040 w4041 hS hI hp
      have hBw4041_w := hI.1
      have hBw4041_w4023 := hI.2.1
      have hBw4041_w4037 := hI.2.2
      replace hS := (((((hS.nil).cons (hS.get 14 rfl)).cons (hS.get 13 rfl)).cons (hS.get 12 rfl)).cons (hS.get 11 rfl)).cons (hS.get 10 rfl)
      have hv107 : sl _ 107 = .bool (!(t4005_2 == t4024_2)) := hp 7 (by decide)
      have hBw4041_w4041 := Below.refl w4041.heap.size w4041
      have hS := hS.cons hv107
      clear hp hI hv107
      refine hK4039 _ _ ?_
      (try clear hK4039 K4039)
      refine wp_cond_false ((hS.get 0 rfl).trans (bF (congrArg (!·) c8))) ?_
      refine wp_skip ?_
      replace hS := (((((hS.nil).cons (hS.get 5 rfl)).cons (hS.get 4 rfl)).cons (hS.get 3 rfl)).cons (hS.get 2 rfl)).cons (hS.get 1 rfl)
      (try simp only [Exit.then, Exit.inBlock])
      exact J2 _ _ y4_2 AL4_2 CL4_2 x4_3_0 x4_3_1 gL4_3 t4005_3 t4005_4 t4005_5 t4005_6 t4005_7 t4005_8 t4005_9 gL4_7 t4024_3 t4024_4 t4024_5 t4024_6 t4024_7 t4024_8 t4024_9 gL4_8 x4_9 H hS hBw4041_w hr4_2 (hcL4_2) hgeLgL4_3 ((hBw4041_w4023.block gL4_3 (blk_lt hn4025)).trans hn4025) hgeLgL4_7 ((hBw4041_w4023.block gL4_7 (blk_lt hn4026)).trans hn4026) hgeLgL4_8 ((hBw4041_w4023.block gL4_8 (blk_lt hbxw4023)).trans hbxw4023) hneL4_7_3 hneL4_8_3 hneL4_8_7
    by_cases c7 : x3_10_26 = true
    rotate_left
    · rw [if_neg c7] at H
      refine wp_seq_k (fun K3036 hK3036 => ?_)
      refine reg_seq (N := 144) (bs := [(15, .pointer (some ⟨g3029, 0, none⟩)), (77, (carillonlaw17_DelayPlays.v5 x3_10_3 x3_10_4 x3_10_5 x3_10_6 x3_10_7 x3_10_8 x3_10_9 x3_10_10 x3_10_11 x3_10_12 x3_10_13 x3_10_14 x3_10_15 x3_10_16 x3_10_17 x3_10_18 x3_10_19 x3_10_20 x3_10_21 x3_10_22 x3_10_23 x3_10_24 x3_10_25)), (2, .slice AL3_2 y3_2.length CL3_2), (3, .pointer (some ⟨gL3_3, 0, none⟩)), (7, .pointer (some ⟨gL3_7, 0, none⟩)), (8, .pointer (some ⟨gL3_8, 0, none⟩)), (9, .int .i64 x3_9), (10, .pointer (some ⟨gL3_10, 0, none⟩))]) (I := fun x => Below w.heap.size w x ∧ Below wL3.heap.size wL3 x ∧ Below w3025.heap.size w3025 x ∧ Below w3034.heap.size w3034 x) (ps := [VP gL3_10 26, VB x3_10_26]) (by kernel_rfl) ?_ ?_ rfl hS ⟨hBw3034_w, hBw3034_wL3, hBw3034_w3025, hBw3034_w3034⟩ ?_ ?_
      · exact fun x y hI hb => ⟨below_step hI.1 hb, below_step hI.2.1 hb, below_step hI.2.2.1 hb, below_step hI.2.2.2 hb⟩
      · exact .v (.v (.nil))
      · refine .on rfl (fun a w hS hI hp => does_val (x_fieldE (b := 0) rfl (hS.get 7 rfl) Try.underlying36 rfl rfl (by kernel_rfl)) rfl) ?_
        refine .on rfl (fun a w hS hI hp => does_val (x_load1 (d := .bool) rfl (hp.V 0 rfl rfl) (by kernel_rfl) rfl ((blk_cell (((hI.2.1).block gL3_10 (blk_lt hbxLgL3_10)).trans hbxLgL3_10) 26).trans rfl)) rfl) ?_
        exact .nil
      clear hS
      intro at3037 w3038 hS hI hp
      have hBw3038_w := hI.1
      have hBw3038_wL3 := hI.2.1
      have hBw3038_w3025 := hI.2.2.1
      have hBw3038_w3034 := hI.2.2.2
      replace hS := ((((((hS.nil).cons (hS.get 6 rfl)).cons (hS.get 5 rfl)).cons (hS.get 4 rfl)).cons (hS.get 3 rfl)).cons (hS.get 2 rfl)).cons (hS.get 0 rfl)
      have hv79 : sl _ 79 = .bool x3_10_26 := hp 1 (by decide)
      have hBw3038_w3038 := Below.refl w3038.heap.size w3038
      have hS := hS.cons hv79
      clear hp hI hv79
      refine hK3036 _ _ ?_
      (try clear hK3036 K3036)
      refine wp_cond_false ((hS.get 0 rfl).trans (bF (Bool.eq_false_iff.2 c7))) ?_
      refine wp_skip ?_
      replace hS := ((((((hS.nil).cons (hS.get 1 rfl)).cons (hS.get 6 rfl)).cons (hS.get 5 rfl)).cons (hS.get 4 rfl)).cons (hS.get 3 rfl)).cons (hS.get 2 rfl)
      (try simp only [Exit.then, Exit.inBlock])
      exact J4 _ _ y3_2 AL3_2 CL3_2 x3_3_0 x3_3_1 gL3_3 x3_7_0 x3_7_1 x3_7_2 x3_7_3 x3_7_4 x3_7_5 x3_7_6 gL3_7 x3_8_0 x3_8_1 x3_8_2 x3_8_3 x3_8_4 x3_8_5 x3_8_6 gL3_8 x3_9 x3_10_3 x3_10_4 x3_10_5 x3_10_6 x3_10_7 x3_10_8 x3_10_9 x3_10_10 x3_10_11 x3_10_12 x3_10_13 x3_10_14 x3_10_15 x3_10_16 x3_10_17 x3_10_18 x3_10_19 x3_10_20 x3_10_21 x3_10_22 x3_10_23 x3_10_24 x3_10_25 g3029 H hS hBw3038_w hr3_2 (hcL3_2) hgeLgL3_3 ((hBw3038_wL3.block gL3_3 (blk_lt hbxLgL3_3)).trans hbxLgL3_3) hgeLgL3_7 ((hBw3038_wL3.block gL3_7 (blk_lt hbxLgL3_7)).trans hbxLgL3_7) hgeLgL3_8 ((hBw3038_wL3.block gL3_8 (blk_lt hbxLgL3_8)).trans hbxLgL3_8) (Nat.le_trans (hBw3025_w).size hgeg3029) ((hBw3038_w3034.block g3029 (blk_lt hbxw3034)).trans hbxw3034) hneL3_7_3 hneL3_8_3 hneL3_8_7 hne3030 hne3031 hne3032
    rw [if_pos c7] at H
    refine wp_seq_k (fun K3036 hK3036 => ?_)
    refine reg_seq (N := 144) (bs := [(15, .pointer (some ⟨g3029, 0, none⟩)), (77, (carillonlaw17_DelayPlays.v5 x3_10_3 x3_10_4 x3_10_5 x3_10_6 x3_10_7 x3_10_8 x3_10_9 x3_10_10 x3_10_11 x3_10_12 x3_10_13 x3_10_14 x3_10_15 x3_10_16 x3_10_17 x3_10_18 x3_10_19 x3_10_20 x3_10_21 x3_10_22 x3_10_23 x3_10_24 x3_10_25)), (2, .slice AL3_2 y3_2.length CL3_2), (3, .pointer (some ⟨gL3_3, 0, none⟩)), (7, .pointer (some ⟨gL3_7, 0, none⟩)), (8, .pointer (some ⟨gL3_8, 0, none⟩)), (9, .int .i64 x3_9), (10, .pointer (some ⟨gL3_10, 0, none⟩))]) (I := fun x => Below w.heap.size w x ∧ Below wL3.heap.size wL3 x ∧ Below w3025.heap.size w3025 x ∧ Below w3034.heap.size w3034 x) (ps := [VP gL3_10 26, VB x3_10_26]) (by kernel_rfl) ?_ ?_ rfl hS ⟨hBw3034_w, hBw3034_wL3, hBw3034_w3025, hBw3034_w3034⟩ ?_ ?_
    · exact fun x y hI hb => ⟨below_step hI.1 hb, below_step hI.2.1 hb, below_step hI.2.2.1 hb, below_step hI.2.2.2 hb⟩
    · exact .v (.v (.nil))
    · refine .on rfl (fun a w hS hI hp => does_val (x_fieldE (b := 0) rfl (hS.get 7 rfl) Try.underlying36 rfl rfl (by kernel_rfl)) rfl) ?_
      refine .on rfl (fun a w hS hI hp => does_val (x_load1 (d := .bool) rfl (hp.V 0 rfl rfl) (by kernel_rfl) rfl ((blk_cell (((hI.2.1).block gL3_10 (blk_lt hbxLgL3_10)).trans hbxLgL3_10) 26).trans rfl)) rfl) ?_
      exact .nil
    clear hS
    intro at3037 w3038 hS hI hp
    have hBw3038_w := hI.1
    have hBw3038_wL3 := hI.2.1
    have hBw3038_w3025 := hI.2.2.1
    have hBw3038_w3034 := hI.2.2.2
    replace hS := ((((((hS.nil).cons (hS.get 6 rfl)).cons (hS.get 5 rfl)).cons (hS.get 4 rfl)).cons (hS.get 3 rfl)).cons (hS.get 2 rfl)).cons (hS.get 0 rfl)
    have hv79 : sl _ 79 = .bool x3_10_26 := hp 1 (by decide)
    have hBw3038_w3038 := Below.refl w3038.heap.size w3038
    have hS := hS.cons hv79
    clear hp hI hv79
    refine hK3036 _ _ ?_
    (try clear hK3036 K3036)
    refine wp_cond_true ((hS.get 0 rfl).trans (bT c7)) ?_
    refine wp_seq_k (fun K3039 hK3039 => ?_)
    refine reg_seq_tail 1 (N := 144) (bs := [(79, .bool x3_10_26), (15, .pointer (some ⟨g3029, 0, none⟩)), (2, .slice AL3_2 y3_2.length CL3_2), (3, .pointer (some ⟨gL3_3, 0, none⟩)), (7, .pointer (some ⟨gL3_7, 0, none⟩)), (8, .pointer (some ⟨gL3_8, 0, none⟩)), (9, .int .i64 x3_9)]) (I := fun x => Below w.heap.size w x ∧ Below wL3.heap.size wL3 x ∧ Below w3025.heap.size w3025 x ∧ Below w3034.heap.size w3034 x ∧ Below w3038.heap.size w3038 x) (ps := [VP g3029 0]) (by kernel_rfl) ?_ ?_ rfl hS ⟨hBw3038_w, hBw3038_wL3, hBw3038_w3025, hBw3038_w3034, hBw3038_w3038⟩ ?_ ?_
    · exact fun x y hI hb => ⟨below_step hI.1 hb, below_step hI.2.1 hb, below_step hI.2.2.1 hb, below_step hI.2.2.2.1 hb, below_step hI.2.2.2.2 hb⟩
    · exact .v (.nil)
    · refine .on rfl (fun a w hS hI hp => does_val (x_fieldE (b := 0) rfl (hS.get 1 rfl) Try.underlying34 rfl rfl (by kernel_rfl)) rfl) ?_
      exact .nil
    clear hS
    intro at3040 w3041 hS hI hp
    have hBw3041_w := hI.1
    have hBw3041_wL3 := hI.2.1
    have hBw3041_w3025 := hI.2.2.1
    have hBw3041_w3034 := hI.2.2.2.1
    have hBw3041_w3038 := hI.2.2.2.2
    replace hS := ((((((hS.nil).cons (hS.get 6 rfl)).cons (hS.get 5 rfl)).cons (hS.get 4 rfl)).cons (hS.get 3 rfl)).cons (hS.get 2 rfl)).cons (hS.get 1 rfl)
    have hv80 : sl _ 80 = .pointer (some ⟨g3029, 0, none⟩) := hp 0 (by decide)
    have hBw3041_w3041 := Below.refl w3041.heap.size w3041
    have hS := hS.cons hv80
    clear hp hI hv80
    show wpList _ _ _ [_] _ _
    refine list_step rfl (does_store (g := g3029) (off := 0) (v := .int .i64 9) (new := (carillonlaw17_DelayPlays.c6 9 x3_10_4 x3_10_5 x3_10_6 x3_10_7 x3_10_8 x3_10_9 x3_10_10 x3_10_11 x3_10_12 x3_10_13 x3_10_14 x3_10_15 x3_10_16 x3_10_17 x3_10_18 x3_10_19 x3_10_20 x3_10_21 x3_10_22 x3_10_23 x3_10_24 x3_10_25)) rfl (hS.get 0 rfl) (rfl) ((hBw3041_w3034.block g3029 (blk_lt hbxw3034)).trans hbxw3034) (by kernel_rfl) (by kernel_rfl) (by kernel_rfl) (by kernel_rfl)) ?_
    rintro vw3042 w3042 ⟨rfl, hbxw3042, hT⟩
    have hBw3042_w := hT.below hBw3041_w (Nat.le_trans (hBw3025_w).size hgeg3029) (hBw3041_w).size
    have hBw3042_wL3 := hT.below hBw3041_wL3 (Nat.le_trans (hBw3025_wL3).size hgeg3029) (hBw3041_wL3).size
    have hBw3042_w3025 := hT.below hBw3041_w3025 hgeg3029 (hBw3041_w3025).size
    have hBw3042_w3042 := Below.refl w3042.heap.size w3042
    clear hT
    refine wpList_nil ?_
    refine hK3039 _ _ ?_
    (try clear hK3039 K3039)
    refine wp_seq_k (fun K3043 hK3043 => ?_)
    refine reg_seq_tail 2 (N := 144) (bs := [(80, .pointer (some ⟨g3029, 0, none⟩)), (15, .pointer (some ⟨g3029, 0, none⟩)), (2, .slice AL3_2 y3_2.length CL3_2), (3, .pointer (some ⟨gL3_3, 0, none⟩)), (7, .pointer (some ⟨gL3_7, 0, none⟩)), (8, .pointer (some ⟨gL3_8, 0, none⟩)), (9, .int .i64 x3_9)]) (I := fun x => Below w.heap.size w x ∧ Below wL3.heap.size wL3 x ∧ Below w3025.heap.size w3025 x ∧ Below w3042.heap.size w3042 x) (ps := [IsV (.agg #[.int .u64 x3_3_0, .int .i64 x3_3_1]), VP g3029 9]) (by kernel_rfl) ?_ ?_ rfl hS ⟨hBw3042_w, hBw3042_wL3, hBw3042_w3025, hBw3042_w3042⟩ ?_ ?_
    · exact fun x y hI hb => ⟨below_step hI.1 hb, below_step hI.2.1 hb, below_step hI.2.2.1 hb, below_step hI.2.2.2 hb⟩
    · exact .v (.v (.nil))
    · refine .on rfl (fun a w hS hI hp => does_loadrow rfl (hS.get 3 rfl) (((hI.2.1).block gL3_3 (blk_lt hbxLgL3_3)).trans hbxLgL3_3) Try.underlying24 rfl (by kernel_rfl) rfl) ?_
      refine .on rfl (fun a w hS hI hp => does_val (x_fieldE (b := 0) rfl (hS.get 1 rfl) Try.underlying34 rfl rfl (by kernel_rfl)) rfl) ?_
      exact .nil
    clear hS
    intro at3044 w3045 hS hI hp
    have hBw3045_w := hI.1
    have hBw3045_wL3 := hI.2.1
    have hBw3045_w3025 := hI.2.2.1
    have hBw3045_w3042 := hI.2.2.2
    replace hS := ((((((hS.nil).cons (hS.get 6 rfl)).cons (hS.get 5 rfl)).cons (hS.get 4 rfl)).cons (hS.get 3 rfl)).cons (hS.get 2 rfl)).cons (hS.get 1 rfl)
    have hv81 : sl _ 81 = .agg #[.int .u64 x3_3_0, .int .i64 x3_3_1] := hp 0 (by decide)
    have hv82 : sl _ 82 = .pointer (some ⟨g3029, 9, none⟩) := hp 1 (by decide)
    have hBw3045_w3045 := Below.refl w3045.heap.size w3045
    have hS := hS.cons hv81
    have hS := hS.cons hv82
    clear hp hI hv81 hv82
    show wpList _ _ _ [_] _ _
    refine list_step rfl (does_store (g := g3029) (off := 9) (v := .agg #[.int .u64 x3_3_0, .int .i64 x3_3_1]) (new := (carillonlaw17_DelayPlays.c6 9 x3_10_4 x3_10_5 x3_10_6 x3_10_7 x3_10_8 x3_10_9 x3_10_10 x3_10_11 x3_3_0 x3_3_1 x3_10_14 x3_10_15 x3_10_16 x3_10_17 x3_10_18 x3_10_19 x3_10_20 x3_10_21 x3_10_22 x3_10_23 x3_10_24 x3_10_25)) rfl (hS.get 0 rfl) (hS.get 1 rfl) ((hBw3045_w3042.block g3029 (blk_lt hbxw3042)).trans hbxw3042) (by kernel_rfl) (by kernel_rfl) (by kernel_rfl) (by kernel_rfl)) ?_
    rintro vw3046 w3046 ⟨rfl, hbxw3046, hT⟩
    have hBw3046_w := hT.below hBw3045_w (Nat.le_trans (hBw3025_w).size hgeg3029) (hBw3045_w).size
    have hBw3046_wL3 := hT.below hBw3045_wL3 (Nat.le_trans (hBw3025_wL3).size hgeg3029) (hBw3045_wL3).size
    have hBw3046_w3025 := hT.below hBw3045_w3025 hgeg3029 (hBw3045_w3025).size
    have hBw3046_w3046 := Below.refl w3046.heap.size w3046
    clear hT
    refine wpList_nil ?_
    refine hK3043 _ _ ?_
    (try clear hK3043 K3043)
    refine reg_seq_tail 5 (N := 144) (bs := [(82, .pointer (some ⟨g3029, 9, none⟩)), (81, .agg #[.int .u64 x3_3_0, .int .i64 x3_3_1]), (15, .pointer (some ⟨g3029, 0, none⟩)), (2, .slice AL3_2 y3_2.length CL3_2), (3, .pointer (some ⟨gL3_3, 0, none⟩)), (7, .pointer (some ⟨gL3_7, 0, none⟩)), (8, .pointer (some ⟨gL3_8, 0, none⟩)), (9, .int .i64 x3_9)]) (I := fun x => Below w.heap.size w x ∧ Below wL3.heap.size wL3 x ∧ Below w3025.heap.size w3025 x ∧ Below w3046.heap.size w3046 x) (ps := [VP gL3_8 0, VP gL3_8 0, VP gL3_8 5, VI x3_8_5, VP g3029 6]) (by kernel_rfl) ?_ ?_ rfl hS ⟨hBw3046_w, hBw3046_wL3, hBw3046_w3025, hBw3046_w3046⟩ ?_ ?_
    · exact fun x y hI hb => ⟨below_step hI.1 hb, below_step hI.2.1 hb, below_step hI.2.2.1 hb, below_step hI.2.2.2 hb⟩
    · exact .v (.v (.v (.v (.v (.nil)))))
    · refine .ms 6 rfl rfl rfl ?_
      refine .on rfl (fun a w hS hI hp => does_val (x_nilck rfl (hp.V 0 rfl rfl)) rfl) ?_
      refine .on rfl (fun a w hS hI hp => does_val (x_fieldE (b := 0) rfl (hp.V 1 rfl rfl) Try.underlying30 rfl rfl (by kernel_rfl)) rfl) ?_
      refine .on rfl (fun a w hS hI hp => does_val (x_load1 (d := .int .i64) rfl (hp.V 2 rfl rfl) (by kernel_rfl) rfl ((blk_cell (((hI.2.1).block gL3_8 (blk_lt hbxLgL3_8)).trans hbxLgL3_8) 5).trans rfl)) rfl) ?_
      refine .on rfl (fun a w hS hI hp => does_val (x_fieldE (b := 0) rfl (hS.get 2 rfl) Try.underlying34 rfl rfl (by kernel_rfl)) rfl) ?_
      exact .nil
    clear hS
    intro at3047 w3048 hS hI hp
    have hBw3048_w := hI.1
    have hBw3048_wL3 := hI.2.1
    have hBw3048_w3025 := hI.2.2.1
    have hBw3048_w3046 := hI.2.2.2
    replace hS := ((((((hS.nil).cons (hS.get 7 rfl)).cons (hS.get 6 rfl)).cons (hS.get 5 rfl)).cons (hS.get 4 rfl)).cons (hS.get 3 rfl)).cons (hS.get 2 rfl)
    have hv86 : sl _ 86 = .int .i64 x3_8_5 := hp 3 (by decide)
    have hv87 : sl _ 87 = .pointer (some ⟨g3029, 6, none⟩) := hp 4 (by decide)
    have hBw3048_w3048 := Below.refl w3048.heap.size w3048
    have hS := hS.cons hv86
    have hS := hS.cons hv87
    clear hp hI hv86 hv87
    show wpList _ _ _ [_] _ _
    refine list_step rfl (does_store (g := g3029) (off := 6) (v := .int .i64 x3_8_5) (new := (carillonlaw17_DelayPlays.c6 9 x3_10_4 x3_10_5 x3_10_6 x3_10_7 x3_10_8 x3_8_5 x3_10_10 x3_10_11 x3_3_0 x3_3_1 x3_10_14 x3_10_15 x3_10_16 x3_10_17 x3_10_18 x3_10_19 x3_10_20 x3_10_21 x3_10_22 x3_10_23 x3_10_24 x3_10_25)) rfl (hS.get 0 rfl) (hS.get 1 rfl) ((hBw3048_w3046.block g3029 (blk_lt hbxw3046)).trans hbxw3046) (by kernel_rfl) (by kernel_rfl) (by kernel_rfl) (by kernel_rfl)) ?_
    rintro vw3049 w3049 ⟨rfl, hbxw3049, hT⟩
    have hBw3049_w := hT.below hBw3048_w (Nat.le_trans (hBw3025_w).size hgeg3029) (hBw3048_w).size
    have hBw3049_wL3 := hT.below hBw3048_wL3 (Nat.le_trans (hBw3025_wL3).size hgeg3029) (hBw3048_wL3).size
    have hBw3049_w3025 := hT.below hBw3048_w3025 hgeg3029 (hBw3048_w3025).size
    have hBw3049_w3049 := Below.refl w3049.heap.size w3049
    clear hT
    refine wpList_nil ?_
    replace hS := ((((((hS.nil).cons (hS.get 2 rfl)).cons (hS.get 7 rfl)).cons (hS.get 6 rfl)).cons (hS.get 5 rfl)).cons (hS.get 4 rfl)).cons (hS.get 3 rfl)
    (try simp only [Exit.then, Exit.inBlock])
    exact J4 _ _ y3_2 AL3_2 CL3_2 x3_3_0 x3_3_1 gL3_3 x3_7_0 x3_7_1 x3_7_2 x3_7_3 x3_7_4 x3_7_5 x3_7_6 gL3_7 x3_8_0 x3_8_1 x3_8_2 x3_8_3 x3_8_4 x3_8_5 x3_8_6 gL3_8 x3_9 9 x3_10_4 x3_10_5 x3_10_6 x3_10_7 x3_10_8 x3_8_5 x3_10_10 x3_10_11 x3_3_0 x3_3_1 x3_10_14 x3_10_15 x3_10_16 x3_10_17 x3_10_18 x3_10_19 x3_10_20 x3_10_21 x3_10_22 x3_10_23 x3_10_24 x3_10_25 g3029 H hS hBw3049_w hr3_2 (hcL3_2) hgeLgL3_3 ((hBw3049_wL3.block gL3_3 (blk_lt hbxLgL3_3)).trans hbxLgL3_3) hgeLgL3_7 ((hBw3049_wL3.block gL3_7 (blk_lt hbxLgL3_7)).trans hbxLgL3_7) hgeLgL3_8 ((hBw3049_wL3.block gL3_8 (blk_lt hbxLgL3_8)).trans hbxLgL3_8) (Nat.le_trans (hBw3025_w).size hgeg3029) ((hBw3049_w3049.block g3029 (blk_lt hbxw3049)).trans hbxw3049) hneL3_7_3 hneL3_8_3 hneL3_8_7 hne3030 hne3031 hne3032
  by_cases c4 : ((t1015_1 == t1027_1) && ((t1015_2 == t1027_2) && ((t1015_3 == t1027_3) && ((t1015_4 == t1027_4) && ((t1015_5 == t1027_5) && ((t1015_6 == t1027_6) && ((t1015_7 == t1027_7) && ((t1015_8 == t1027_8) && ((t1015_9 == t1027_9) && ((t1015_10 == t1027_10) && ((t1015_11 == t1027_11) && ((t1015_12 == t1027_12) && ((t1015_13 == t1027_13) && ((t1015_14 == t1027_14) && ((t1015_15 == t1027_15) && ((t1015_16 == t1027_16) && ((t1015_17 == t1027_17) && ((t1015_18 == t1027_18) && ((t1015_19 == t1027_19) && ((t1015_20 == t1027_20) && ((t1015_21 == t1027_21) && ((t1015_22 == t1027_22) && (t1015_23 == t1027_23))))))))))))))))))))))) = true
  rotate_left
  · rw [if_neg c4] at H
    exact absurd H (by simp)
  rw [if_pos c4] at H
  by_cases c5 : (t1015_24 == t1027_24) = true
  rotate_left
  · rw [if_neg c5] at H
    exact absurd H (by simp)
  rw [if_pos c5] at H
  refine wp_seq_k (fun K1040 hK1040 => ?_)
  refine reg_seq (N := 144) (bs := [(14, .bool t1027_24), (13, .pointer (some ⟨g1030, 0, none⟩)), (64, .bool t1027_24), (63, (carillonlaw17_DelayPlays.v5 t1027_1 t1027_2 t1027_3 t1027_4 t1027_5 t1027_6 t1027_7 t1027_8 t1027_9 t1027_10 t1027_11 t1027_12 t1027_13 t1027_14 t1027_15 t1027_16 t1027_17 t1027_18 t1027_19 t1027_20 t1027_21 t1027_22 t1027_23)), (12, .bool t1015_24), (11, .pointer (some ⟨g1018, 0, none⟩)), (10, .pointer (some ⟨g1009, 0, none⟩)), (2, .slice AL1_2 y1_2.length CL1_2), (3, .pointer (some ⟨gL1_3, 0, none⟩)), (7, .pointer (some ⟨gL1_7, 0, none⟩)), (8, .pointer (some ⟨gL1_8, 0, none⟩)), (9, .int .i64 x1_9)]) (I := fun x => Below w.heap.size w x ∧ Below wL1.heap.size wL1 x ∧ Below w1004.heap.size w1004 x ∧ Below w1013.heap.size w1013 x ∧ Below w1023.heap.size w1023 x ∧ Below w1024.heap.size w1024 x ∧ Below w1036.heap.size w1036 x ∧ Below w1037.heap.size w1037 x) (ps := [IsV ((carillonlaw17_DelayPlays.v5 t1015_1 t1015_2 t1015_3 t1015_4 t1015_5 t1015_6 t1015_7 t1015_8 t1015_9 t1015_10 t1015_11 t1015_12 t1015_13 t1015_14 t1015_15 t1015_16 t1015_17 t1015_18 t1015_19 t1015_20 t1015_21 t1015_22 t1015_23)), IsV ((carillonlaw17_DelayPlays.v5 t1027_1 t1027_2 t1027_3 t1027_4 t1027_5 t1027_6 t1027_7 t1027_8 t1027_9 t1027_10 t1027_11 t1027_12 t1027_13 t1027_14 t1027_15 t1027_16 t1027_17 t1027_18 t1027_19 t1027_20 t1027_21 t1027_22 t1027_23)), VB (!((t1015_1 == t1027_1) && ((t1015_2 == t1027_2) && ((t1015_3 == t1027_3) && ((t1015_4 == t1027_4) && ((t1015_5 == t1027_5) && ((t1015_6 == t1027_6) && ((t1015_7 == t1027_7) && ((t1015_8 == t1027_8) && ((t1015_9 == t1027_9) && ((t1015_10 == t1027_10) && ((t1015_11 == t1027_11) && ((t1015_12 == t1027_12) && ((t1015_13 == t1027_13) && ((t1015_14 == t1027_14) && ((t1015_15 == t1027_15) && ((t1015_16 == t1027_16) && ((t1015_17 == t1027_17) && ((t1015_18 == t1027_18) && ((t1015_19 == t1027_19) && ((t1015_20 == t1027_20) && ((t1015_21 == t1027_21) && ((t1015_22 == t1027_22) && (t1015_23 == t1027_23)))))))))))))))))))))))), VB (!((t1015_1 == t1027_1) && ((t1015_2 == t1027_2) && ((t1015_3 == t1027_3) && ((t1015_4 == t1027_4) && ((t1015_5 == t1027_5) && ((t1015_6 == t1027_6) && ((t1015_7 == t1027_7) && ((t1015_8 == t1027_8) && ((t1015_9 == t1027_9) && ((t1015_10 == t1027_10) && ((t1015_11 == t1027_11) && ((t1015_12 == t1027_12) && ((t1015_13 == t1027_13) && ((t1015_14 == t1027_14) && ((t1015_15 == t1027_15) && ((t1015_16 == t1027_16) && ((t1015_17 == t1027_17) && ((t1015_18 == t1027_18) && ((t1015_19 == t1027_19) && ((t1015_20 == t1027_20) && ((t1015_21 == t1027_21) && ((t1015_22 == t1027_22) && (t1015_23 == t1027_23)))))))))))))))))))))))), VB t1015_24, VB t1027_24, VB (!(t1015_24 == t1027_24)), VB (!(t1015_24 == t1027_24))]) (by kernel_rfl) ?_ ?_ rfl hS ⟨hBw1037_w, hBw1037_wL1, hBw1037_w1004, hBw1037_w1013, hBw1037_w1023, hBw1037_w1024, hBw1037_w1036, hBw1037_w1037⟩ ?_ ?_
  · exact fun x y hI hb => ⟨below_step hI.1 hb, below_step hI.2.1 hb, below_step hI.2.2.1 hb, below_step hI.2.2.2.1 hb, below_step hI.2.2.2.2.1 hb, below_step hI.2.2.2.2.2.1 hb, below_step hI.2.2.2.2.2.2.1 hb, below_step hI.2.2.2.2.2.2.2 hb⟩
  · exact .v (.v (.v (.v (.v (.v (.v (.v (.nil))))))))
  · refine .on rfl (fun a w hS hI hp => does_loadrow rfl (hS.get 5 rfl) (((hI.2.2.2.2.1).block g1018 (blk_lt hbxw1023)).trans hbxw1023) Try.underlying34 rfl (by kernel_rfl) rfl) ?_
    refine .on rfl (fun a w hS hI hp => does_loadrow rfl (hS.get 1 rfl) (((hI.2.2.2.2.2.2.1).block g1030 (blk_lt hbxw1036)).trans hbxw1036) Try.underlying34 rfl (by kernel_rfl) rfl) ?_
    refine .on rfl (fun a w hS hI hp => does_val (x_bin rfl (hp.V 0 rfl rfl) (hp.V 1 rfl rfl) (carillonlaw17_DelayPlays.neq34 _ _ _ t1015_1 t1015_2 t1015_3 t1015_4 t1015_5 t1015_6 t1015_7 t1015_8 t1015_9 t1015_10 t1015_11 t1015_12 t1015_13 t1015_14 t1015_15 t1015_16 t1015_17 t1015_18 t1015_19 t1015_20 t1015_21 t1015_22 t1015_23 t1027_1 t1027_2 t1027_3 t1027_4 t1027_5 t1027_6 t1027_7 t1027_8 t1027_9 t1027_10 t1027_11 t1027_12 t1027_13 t1027_14 t1027_15 t1027_16 t1027_17 t1027_18 t1027_19 t1027_20 t1027_21 t1027_22 t1027_23)) rfl) ?_
    refine .mv 2 rfl rfl rfl rfl ?_
    refine .oy 3 68 rfl rfl rfl rfl rfl ((congrArg (!·) c4)) (fun a w hS hI hp => does_val (x_move rfl (hS.get 4 rfl)) rfl) ?_
    refine .oy 3 68 rfl rfl rfl rfl rfl ((congrArg (!·) c4)) (fun a w hS hI hp => does_val (x_move rfl (hS.get 0 rfl)) rfl) ?_
    refine .oy 3 68 rfl rfl rfl rfl rfl ((congrArg (!·) c4)) (fun a w hS hI hp => does_val (x_bin rfl (hp.V 4 rfl rfl) (hp.V 5 rfl rfl) (b_neb _ _ _ _ _ (by kernel_rfl))) rfl) ?_
    refine .on rfl (fun a w hS hI hp => does_val (x_pickF rfl ((hp.V 3 rfl rfl).trans (bF (congrArg (!·) c4))) (hp.V 6 rfl rfl)) rfl) ?_
    exact .nil
  clear hS
  intro at1041 w1042 hS hI hp
  have hBw1042_w := hI.1
  have hBw1042_wL1 := hI.2.1
  have hBw1042_w1004 := hI.2.2.1
  have hBw1042_w1013 := hI.2.2.2.1
  have hBw1042_w1023 := hI.2.2.2.2.1
  have hBw1042_w1024 := hI.2.2.2.2.2.1
  have hBw1042_w1036 := hI.2.2.2.2.2.2.1
  have hBw1042_w1037 := hI.2.2.2.2.2.2.2
  replace hS := ((((((hS.nil).cons (hS.get 11 rfl)).cons (hS.get 10 rfl)).cons (hS.get 9 rfl)).cons (hS.get 8 rfl)).cons (hS.get 7 rfl)).cons (hS.get 6 rfl)
  have hv72 : sl _ 72 = .bool (!(t1015_24 == t1027_24)) := hp 7 (by decide)
  have hBw1042_w1042 := Below.refl w1042.heap.size w1042
  have hS := hS.cons hv72
  clear hp hI hv72
  refine hK1040 _ _ ?_
  (try clear hK1040 K1040)
  refine wp_cond_false ((hS.get 0 rfl).trans (bF (congrArg (!·) c5))) ?_
  refine wp_skip ?_
  replace hS := ((((((hS.nil).cons (hS.get 1 rfl)).cons (hS.get 6 rfl)).cons (hS.get 5 rfl)).cons (hS.get 4 rfl)).cons (hS.get 3 rfl)).cons (hS.get 2 rfl)
  (try simp only [Exit.then, Exit.inBlock])
  exact J3 _ _ y1_2 AL1_2 CL1_2 x1_3_0 x1_3_1 gL1_3 x1_7_0 x1_7_1 x1_7_2 x1_7_3 x1_7_4 x1_7_5 x1_7_6 gL1_7 x1_8_0 x1_8_1 x1_8_2 x1_8_3 x1_8_4 x1_8_5 x1_8_6 gL1_8 x1_9 ((rd_T36 y1_2 x1_9).f0) ((rd_T36 y1_2 x1_9).f1) ((rd_T36 y1_2 x1_9).f2) ((rd_T36 y1_2 x1_9).f3.f0) ((rd_T36 y1_2 x1_9).f3.f1) ((rd_T36 y1_2 x1_9).f3.f2) ((rd_T36 y1_2 x1_9).f3.f3) ((rd_T36 y1_2 x1_9).f3.f4.f0) ((rd_T36 y1_2 x1_9).f3.f4.f1) ((rd_T36 y1_2 x1_9).f3.f5) ((rd_T36 y1_2 x1_9).f3.f6) ((rd_T36 y1_2 x1_9).f3.f7) ((rd_T36 y1_2 x1_9).f3.f8.f0) ((rd_T36 y1_2 x1_9).f3.f8.f1) ((rd_T36 y1_2 x1_9).f3.f9) ((rd_T36 y1_2 x1_9).f3.f10) ((rd_T36 y1_2 x1_9).f3.f11.f0) ((rd_T36 y1_2 x1_9).f3.f11.f1) ((rd_T36 y1_2 x1_9).f3.f11.f2) ((rd_T36 y1_2 x1_9).f3.f12) ((rd_T36 y1_2 x1_9).f3.f13) ((rd_T36 y1_2 x1_9).f3.f14) ((rd_T36 y1_2 x1_9).f3.f15) ((rd_T36 y1_2 x1_9).f3.f16) ((rd_T36 y1_2 x1_9).f3.f17) ((rd_T36 y1_2 x1_9).f3.f18) ((rd_T36 y1_2 x1_9).f4) g1009 H hS hBw1042_w hr1_2 (hcL1_2) hgeLgL1_3 ((hBw1042_wL1.block gL1_3 (blk_lt hbxLgL1_3)).trans hbxLgL1_3) hgeLgL1_7 ((hBw1042_wL1.block gL1_7 (blk_lt hbxLgL1_7)).trans hbxLgL1_7) hgeLgL1_8 ((hBw1042_wL1.block gL1_8 (blk_lt hbxLgL1_8)).trans hbxLgL1_8) (Nat.le_trans (hBw1004_w).size hgeg1009) ((hBw1042_w1013.block g1009 (blk_lt hbxw1013)).trans hbxw1013) hneL1_7_3 hneL1_8_3 hneL1_8_7 hne1010 hne1011 hne1012
def carillonlaw17_DelayPlays.Pure : Prop := ∀ (a0_0 a0_1 a1 : Int) (l2 : List (S36)), (Lit.int .u64 a0_0).wf = true → (Lit.int .i64 a0_1).wf = true → (Lit.int .i64 a1).wf = true → l2.length ≤ maxLen → l2.length * 216 ≤ 140737488351232 → (∀ x ∈ l2, (Lit.int .i64 x.f0).wf = true ∧ (Lit.int .i64 x.f1).wf = true ∧ (Lit.int .i64 x.f2).wf = true ∧ (Lit.int .i64 x.f3.f0).wf = true ∧ (Lit.int .i64 x.f3.f1).wf = true ∧ (Lit.int .i64 x.f3.f2).wf = true ∧ (Lit.int .i64 x.f3.f3).wf = true ∧ (Lit.int .u64 x.f3.f4.f0).wf = true ∧ (Lit.int .i64 x.f3.f4.f1).wf = true ∧ (Lit.int .i64 x.f3.f5).wf = true ∧ (Lit.int .i64 x.f3.f6).wf = true ∧ (Lit.int .i64 x.f3.f7).wf = true ∧ (Lit.int .u64 x.f3.f8.f0).wf = true ∧ (Lit.int .i64 x.f3.f8.f1).wf = true ∧ (Lit.int .i64 x.f3.f9).wf = true ∧ (Lit.int .i64 x.f3.f10).wf = true ∧ (Lit.int .i64 x.f3.f11.f0).wf = true ∧ (Lit.int .i64 x.f3.f11.f1).wf = true ∧ (Lit.int .i64 x.f3.f11.f2).wf = true ∧ (Lit.int .i64 x.f3.f12).wf = true ∧ (Lit.int .u64 x.f3.f13).wf = true ∧ (Lit.int .i64 x.f3.f14).wf = true ∧ (Lit.int .i64 x.f3.f15).wf = true ∧ (Lit.int .i64 x.f3.f16).wf = true ∧ (Lit.int .i64 x.f3.f17).wf = true ∧ (Lit.int .i64 x.f3.f18).wf = true) → ∃ k, carillonlaw17_DelayPlays.f k a0_0 a0_1 a1 l2 = some true
theorem carillonlaw17_DelayPlays.walk (P : carillonlaw17_DelayPlays.Pure) (a0_0 a0_1 a1 : Int) (a2 : Option Addr) (cap2 : Nat) (l2 : List (S36)) (w : World) (w0_0 : (Lit.int .u64 a0_0).wf = true) (w0_1 : (Lit.int .i64 a0_1).wf = true) (w1 : (Lit.int .i64 a1).wf = true) (hr2 : Kd.C k36 w a2 l2.length l2) (hc2 : l2.length ≤ cap2) (hm2 : l2.length ≤ maxLen) (y2 : l2.length * 216 ≤ 140737488351232) (hw2 : (∀ x ∈ l2, (Lit.int .i64 x.f0).wf = true ∧ (Lit.int .i64 x.f1).wf = true ∧ (Lit.int .i64 x.f2).wf = true ∧ (Lit.int .i64 x.f3.f0).wf = true ∧ (Lit.int .i64 x.f3.f1).wf = true ∧ (Lit.int .i64 x.f3.f2).wf = true ∧ (Lit.int .i64 x.f3.f3).wf = true ∧ (Lit.int .u64 x.f3.f4.f0).wf = true ∧ (Lit.int .i64 x.f3.f4.f1).wf = true ∧ (Lit.int .i64 x.f3.f5).wf = true ∧ (Lit.int .i64 x.f3.f6).wf = true ∧ (Lit.int .i64 x.f3.f7).wf = true ∧ (Lit.int .u64 x.f3.f8.f0).wf = true ∧ (Lit.int .i64 x.f3.f8.f1).wf = true ∧ (Lit.int .i64 x.f3.f9).wf = true ∧ (Lit.int .i64 x.f3.f10).wf = true ∧ (Lit.int .i64 x.f3.f11.f0).wf = true ∧ (Lit.int .i64 x.f3.f11.f1).wf = true ∧ (Lit.int .i64 x.f3.f11.f2).wf = true ∧ (Lit.int .i64 x.f3.f12).wf = true ∧ (Lit.int .u64 x.f3.f13).wf = true ∧ (Lit.int .i64 x.f3.f14).wf = true ∧ (Lit.int .i64 x.f3.f15).wf = true ∧ (Lit.int .i64 x.f3.f16).wf = true ∧ (Lit.int .i64 x.f3.f17).wf = true ∧ (Lit.int .i64 x.f3.f18).wf = true)) :
    Calls Try.prog 3 #[.agg #[.int .u64 a0_0, .int .i64 a0_1], .int .i64 a1, .slice a2 l2.length cap2] w fun e w' => e = .returned (.bool true) ∧ Below w.heap.size w w' := by
  obtain ⟨k, h⟩ := P a0_0 a0_1 a1 l2 w0_0 w0_1 w1 hm2 y2 hw2
  refine (carillonlaw17_DelayPlays.calls k a0_0 a0_1 a1 a2 cap2 l2 w hr2 hc2 h).mono ?_
  rintro e w' ⟨rfl, hd⟩
  exact ⟨rfl, hd⟩
end Go.Proofs.Ytpfjpfbhgeoadaa.P
