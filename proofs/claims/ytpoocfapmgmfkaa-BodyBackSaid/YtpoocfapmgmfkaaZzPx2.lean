/- Functions and loops of the given program as Lean functions, and that the code comes to what they say: written by this session's own program; Lean checks it. -/
import Derived.Test.YtpoocfapmgmfkaaZzPx0
import Derived.Test.YtpoocfapmgmfkaaZzPx1
namespace Go.Proofs.Ytpoocfapmgmfkaa.P
open Go.RowKit Go.Proofs.YtpoocfapmgmfkaaW.PrintWords Go.Proofs.YtpoocfapmgmfkaaW.PrintLast Go.Proofs.YtpoocfapmgmfkaaW.PrintMore
attribute [local go_sem] max2_int min2_int max_two min_two max_three min_three max_four min_four   -- for this text's walks alone
set_option linter.unusedVariables false
set_option linter.unusedSimpArgs false
/-! ### carillonref07_Check: function 9: by our own printer -/
def carillonref07_Check.j3 (k : Nat) (x3_1_0 x3_1_1 x3_1_2 x3_1_3 x3_1_4 x3_1_5 x3_1_6 x3_1_7 x3_1_8 x3_1_9 x3_1_10 x3_1_11 x3_1_12 x3_1_13 x3_1_14 x3_1_15 x3_1_16 x3_1_17 x3_1_18 x3_1_19 x3_1_20 x3_1_21 x3_1_22 x3_3_0 x3_3_1 x3_3_2 x3_3_3 x3_3_4 x3_3_5 x3_3_6 x3_3_7 x3_3_8 x3_3_9 x3_3_10 x3_3_11 x3_3_12 x3_3_13 x3_3_14 x3_3_15 x3_3_16 x3_3_17 x3_3_18 x3_3_19 x3_3_20 x3_3_21 x3_3_22 : Int) (x3_4 : Bool) : Option (Bool) := if x3_4 = true then (some ((x3_3_0 == x3_1_0) && ((x3_3_1 == x3_1_1) && ((x3_3_2 == x3_1_2) && ((x3_3_3 == x3_1_3) && ((x3_3_4 == x3_1_4) && ((x3_3_5 == x3_1_5) && ((x3_3_6 == x3_1_6) && ((x3_3_7 == x3_1_7) && ((x3_3_8 == x3_1_8) && ((x3_3_9 == x3_1_9) && ((x3_3_10 == x3_1_10) && ((x3_3_11 == x3_1_11) && ((x3_3_12 == x3_1_12) && ((x3_3_13 == x3_1_13) && ((x3_3_14 == x3_1_14) && ((x3_3_15 == x3_1_15) && ((x3_3_16 == x3_1_16) && ((x3_3_17 == x3_1_17) && ((x3_3_18 == x3_1_18) && ((x3_3_19 == x3_1_19) && ((x3_3_20 == x3_1_20) && ((x3_3_21 == x3_1_21) && (x3_3_22 == x3_1_22)))))))))))))))))))))))) else (some false)
def carillonref07_Check.j4 (k : Nat) (x4_1_0 x4_1_1 x4_1_2 x4_1_3 x4_1_4 x4_1_5 x4_1_6 x4_1_7 x4_1_8 x4_1_9 x4_1_10 x4_1_11 x4_1_12 x4_1_13 x4_1_14 x4_1_15 x4_1_16 x4_1_17 x4_1_18 x4_1_19 x4_1_20 x4_1_21 x4_1_22 x4_3_0 x4_3_1 x4_3_2 x4_3_3 x4_3_4 x4_3_5 x4_3_6 x4_3_7 x4_3_8 x4_3_9 x4_3_10 x4_3_11 x4_3_12 x4_3_13 x4_3_14 x4_3_15 x4_3_16 x4_3_17 x4_3_18 x4_3_19 x4_3_20 x4_3_21 x4_3_22 : Int) (x4_4 : Bool) : Option (Bool) := if x4_4 = true then ((carillonref05_In.f x4_1_11 (-32768) 32767).bind fun t4001 => (if t4001 = true then ((carillonref05_In.f x4_1_12 0 255).bind fun t4002 => (if t4002 = true then ((carillonref05_In.f x4_1_16 0 255).bind fun t4003 => (if t4003 = true then ((carillonref05_In.f x4_1_19 0 255).bind fun t4004 => (if t4004 = true then ((carillonref05_May.f x4_1_13 x4_1_14 x4_1_15).bind fun t4005 => (if t4005 = true then ((carillonref05_In.f x4_1_18 0 65535).bind fun t4006 => (carillonref07_Check.j3 k x4_1_0 x4_1_1 x4_1_2 x4_1_3 x4_1_4 x4_1_5 x4_1_6 x4_1_7 x4_1_8 x4_1_9 x4_1_10 x4_1_11 x4_1_12 x4_1_13 x4_1_14 x4_1_15 x4_1_16 x4_1_17 x4_1_18 x4_1_19 x4_1_20 x4_1_21 x4_1_22 x4_3_0 x4_3_1 x4_3_2 x4_3_3 x4_3_4 x4_3_5 x4_3_6 x4_3_7 x4_3_8 x4_3_9 x4_3_10 x4_3_11 x4_3_12 x4_3_13 x4_3_14 x4_3_15 x4_3_16 x4_3_17 x4_3_18 x4_3_19 x4_3_20 x4_3_21 x4_3_22 t4006)) else (carillonref07_Check.j3 k x4_1_0 x4_1_1 x4_1_2 x4_1_3 x4_1_4 x4_1_5 x4_1_6 x4_1_7 x4_1_8 x4_1_9 x4_1_10 x4_1_11 x4_1_12 x4_1_13 x4_1_14 x4_1_15 x4_1_16 x4_1_17 x4_1_18 x4_1_19 x4_1_20 x4_1_21 x4_1_22 x4_3_0 x4_3_1 x4_3_2 x4_3_3 x4_3_4 x4_3_5 x4_3_6 x4_3_7 x4_3_8 x4_3_9 x4_3_10 x4_3_11 x4_3_12 x4_3_13 x4_3_14 x4_3_15 x4_3_16 x4_3_17 x4_3_18 x4_3_19 x4_3_20 x4_3_21 x4_3_22 false))) else (carillonref07_Check.j3 k x4_1_0 x4_1_1 x4_1_2 x4_1_3 x4_1_4 x4_1_5 x4_1_6 x4_1_7 x4_1_8 x4_1_9 x4_1_10 x4_1_11 x4_1_12 x4_1_13 x4_1_14 x4_1_15 x4_1_16 x4_1_17 x4_1_18 x4_1_19 x4_1_20 x4_1_21 x4_1_22 x4_3_0 x4_3_1 x4_3_2 x4_3_3 x4_3_4 x4_3_5 x4_3_6 x4_3_7 x4_3_8 x4_3_9 x4_3_10 x4_3_11 x4_3_12 x4_3_13 x4_3_14 x4_3_15 x4_3_16 x4_3_17 x4_3_18 x4_3_19 x4_3_20 x4_3_21 x4_3_22 false))) else (carillonref07_Check.j3 k x4_1_0 x4_1_1 x4_1_2 x4_1_3 x4_1_4 x4_1_5 x4_1_6 x4_1_7 x4_1_8 x4_1_9 x4_1_10 x4_1_11 x4_1_12 x4_1_13 x4_1_14 x4_1_15 x4_1_16 x4_1_17 x4_1_18 x4_1_19 x4_1_20 x4_1_21 x4_1_22 x4_3_0 x4_3_1 x4_3_2 x4_3_3 x4_3_4 x4_3_5 x4_3_6 x4_3_7 x4_3_8 x4_3_9 x4_3_10 x4_3_11 x4_3_12 x4_3_13 x4_3_14 x4_3_15 x4_3_16 x4_3_17 x4_3_18 x4_3_19 x4_3_20 x4_3_21 x4_3_22 false))) else (carillonref07_Check.j3 k x4_1_0 x4_1_1 x4_1_2 x4_1_3 x4_1_4 x4_1_5 x4_1_6 x4_1_7 x4_1_8 x4_1_9 x4_1_10 x4_1_11 x4_1_12 x4_1_13 x4_1_14 x4_1_15 x4_1_16 x4_1_17 x4_1_18 x4_1_19 x4_1_20 x4_1_21 x4_1_22 x4_3_0 x4_3_1 x4_3_2 x4_3_3 x4_3_4 x4_3_5 x4_3_6 x4_3_7 x4_3_8 x4_3_9 x4_3_10 x4_3_11 x4_3_12 x4_3_13 x4_3_14 x4_3_15 x4_3_16 x4_3_17 x4_3_18 x4_3_19 x4_3_20 x4_3_21 x4_3_22 false))) else (carillonref07_Check.j3 k x4_1_0 x4_1_1 x4_1_2 x4_1_3 x4_1_4 x4_1_5 x4_1_6 x4_1_7 x4_1_8 x4_1_9 x4_1_10 x4_1_11 x4_1_12 x4_1_13 x4_1_14 x4_1_15 x4_1_16 x4_1_17 x4_1_18 x4_1_19 x4_1_20 x4_1_21 x4_1_22 x4_3_0 x4_3_1 x4_3_2 x4_3_3 x4_3_4 x4_3_5 x4_3_6 x4_3_7 x4_3_8 x4_3_9 x4_3_10 x4_3_11 x4_3_12 x4_3_13 x4_3_14 x4_3_15 x4_3_16 x4_3_17 x4_3_18 x4_3_19 x4_3_20 x4_3_21 x4_3_22 false))) else (carillonref07_Check.j3 k x4_1_0 x4_1_1 x4_1_2 x4_1_3 x4_1_4 x4_1_5 x4_1_6 x4_1_7 x4_1_8 x4_1_9 x4_1_10 x4_1_11 x4_1_12 x4_1_13 x4_1_14 x4_1_15 x4_1_16 x4_1_17 x4_1_18 x4_1_19 x4_1_20 x4_1_21 x4_1_22 x4_3_0 x4_3_1 x4_3_2 x4_3_3 x4_3_4 x4_3_5 x4_3_6 x4_3_7 x4_3_8 x4_3_9 x4_3_10 x4_3_11 x4_3_12 x4_3_13 x4_3_14 x4_3_15 x4_3_16 x4_3_17 x4_3_18 x4_3_19 x4_3_20 x4_3_21 x4_3_22 false)
def carillonref07_Check.j5 (k : Nat) (x5_1_0 x5_1_1 x5_1_2 x5_1_3 x5_1_4 x5_1_5 x5_1_6 x5_1_7 x5_1_8 x5_1_9 x5_1_10 x5_1_11 x5_1_12 x5_1_13 x5_1_14 x5_1_15 x5_1_16 x5_1_17 x5_1_18 x5_1_19 x5_1_20 x5_1_21 x5_1_22 x5_3_0 x5_3_1 x5_3_2 x5_3_3 x5_3_4 x5_3_5 x5_3_6 x5_3_7 x5_3_8 x5_3_9 x5_3_10 x5_3_11 x5_3_12 x5_3_13 x5_3_14 x5_3_15 x5_3_16 x5_3_17 x5_3_18 x5_3_19 x5_3_20 x5_3_21 x5_3_22 : Int) (x5_4 : Bool) : Option (Bool) := if x5_4 = true then ((carillonref05_In.f x5_1_20 0 255).bind fun t5001 => (if t5001 = true then ((carillonref05_In.f x5_1_21 0 255).bind fun t5002 => (if t5002 = true then ((carillonref05_In.f x5_1_22 0 15).bind fun t5003 => (carillonref07_Check.j3 k x5_1_0 x5_1_1 x5_1_2 x5_1_3 x5_1_4 x5_1_5 x5_1_6 x5_1_7 x5_1_8 x5_1_9 x5_1_10 x5_1_11 x5_1_12 x5_1_13 x5_1_14 x5_1_15 x5_1_16 x5_1_17 x5_1_18 x5_1_19 x5_1_20 x5_1_21 x5_1_22 x5_3_0 x5_3_1 x5_3_2 x5_3_3 x5_3_4 x5_3_5 x5_3_6 x5_3_7 x5_3_8 x5_3_9 x5_3_10 x5_3_11 x5_3_12 x5_3_13 x5_3_14 x5_3_15 x5_3_16 x5_3_17 x5_3_18 x5_3_19 x5_3_20 x5_3_21 x5_3_22 t5003)) else (carillonref07_Check.j3 k x5_1_0 x5_1_1 x5_1_2 x5_1_3 x5_1_4 x5_1_5 x5_1_6 x5_1_7 x5_1_8 x5_1_9 x5_1_10 x5_1_11 x5_1_12 x5_1_13 x5_1_14 x5_1_15 x5_1_16 x5_1_17 x5_1_18 x5_1_19 x5_1_20 x5_1_21 x5_1_22 x5_3_0 x5_3_1 x5_3_2 x5_3_3 x5_3_4 x5_3_5 x5_3_6 x5_3_7 x5_3_8 x5_3_9 x5_3_10 x5_3_11 x5_3_12 x5_3_13 x5_3_14 x5_3_15 x5_3_16 x5_3_17 x5_3_18 x5_3_19 x5_3_20 x5_3_21 x5_3_22 false))) else (carillonref07_Check.j3 k x5_1_0 x5_1_1 x5_1_2 x5_1_3 x5_1_4 x5_1_5 x5_1_6 x5_1_7 x5_1_8 x5_1_9 x5_1_10 x5_1_11 x5_1_12 x5_1_13 x5_1_14 x5_1_15 x5_1_16 x5_1_17 x5_1_18 x5_1_19 x5_1_20 x5_1_21 x5_1_22 x5_3_0 x5_3_1 x5_3_2 x5_3_3 x5_3_4 x5_3_5 x5_3_6 x5_3_7 x5_3_8 x5_3_9 x5_3_10 x5_3_11 x5_3_12 x5_3_13 x5_3_14 x5_3_15 x5_3_16 x5_3_17 x5_3_18 x5_3_19 x5_3_20 x5_3_21 x5_3_22 false))) else (carillonref07_Check.j3 k x5_1_0 x5_1_1 x5_1_2 x5_1_3 x5_1_4 x5_1_5 x5_1_6 x5_1_7 x5_1_8 x5_1_9 x5_1_10 x5_1_11 x5_1_12 x5_1_13 x5_1_14 x5_1_15 x5_1_16 x5_1_17 x5_1_18 x5_1_19 x5_1_20 x5_1_21 x5_1_22 x5_3_0 x5_3_1 x5_3_2 x5_3_3 x5_3_4 x5_3_5 x5_3_6 x5_3_7 x5_3_8 x5_3_9 x5_3_10 x5_3_11 x5_3_12 x5_3_13 x5_3_14 x5_3_15 x5_3_16 x5_3_17 x5_3_18 x5_3_19 x5_3_20 x5_3_21 x5_3_22 false)
def carillonref07_Check.j2 (k : Nat) (x2_1_0 x2_1_1 x2_1_2 x2_1_3 x2_1_4 x2_1_5 x2_1_6 x2_1_7 x2_1_8 x2_1_9 x2_1_10 x2_1_11 x2_1_12 x2_1_13 x2_1_14 x2_1_15 x2_1_16 x2_1_17 x2_1_18 x2_1_19 x2_1_20 x2_1_21 x2_1_22 x2_3_0 x2_3_1 x2_3_2 x2_3_3 x2_3_4 x2_3_5 x2_3_6 x2_3_7 x2_3_8 x2_3_9 x2_3_10 x2_3_11 x2_3_12 x2_3_13 x2_3_14 x2_3_15 x2_3_16 x2_3_17 x2_3_18 x2_3_19 x2_3_20 x2_3_21 x2_3_22 : Int) (x2_4 : Bool) : Option (Bool) := if x2_1_0 = 11 then (carillonref07_Check.j4 k x2_1_0 x2_1_1 x2_1_2 x2_1_3 x2_1_4 x2_1_5 x2_1_6 x2_1_7 x2_1_8 x2_1_9 x2_1_10 x2_1_11 x2_1_12 x2_1_13 x2_1_14 x2_1_15 x2_1_16 x2_1_17 x2_1_18 x2_1_19 x2_1_20 x2_1_21 x2_1_22 x2_3_0 x2_3_1 x2_3_2 x2_3_3 x2_3_4 x2_3_5 x2_3_6 x2_3_7 x2_3_8 x2_3_9 x2_3_10 x2_1_11 x2_1_12 x2_1_13 x2_1_14 x2_1_15 x2_1_16 x2_1_17 x2_1_18 x2_1_19 x2_3_20 x2_3_21 x2_3_22 x2_4) else (if x2_1_0 = 13 then (carillonref07_Check.j5 k x2_1_0 x2_1_1 x2_1_2 x2_1_3 x2_1_4 x2_1_5 x2_1_6 x2_1_7 x2_1_8 x2_1_9 x2_1_10 x2_1_11 x2_1_12 x2_1_13 x2_1_14 x2_1_15 x2_1_16 x2_1_17 x2_1_18 x2_1_19 x2_1_20 x2_1_21 x2_1_22 x2_3_0 x2_3_1 x2_3_2 x2_3_3 x2_3_4 x2_3_5 x2_3_6 x2_3_7 x2_3_8 x2_3_9 x2_3_10 x2_3_11 x2_3_12 x2_3_13 x2_3_14 x2_3_15 x2_3_16 x2_3_17 x2_3_18 x2_3_19 x2_1_20 x2_1_21 x2_1_22 x2_4) else (carillonref07_Check.j3 k x2_1_0 x2_1_1 x2_1_2 x2_1_3 x2_1_4 x2_1_5 x2_1_6 x2_1_7 x2_1_8 x2_1_9 x2_1_10 x2_1_11 x2_1_12 x2_1_13 x2_1_14 x2_1_15 x2_1_16 x2_1_17 x2_1_18 x2_1_19 x2_1_20 x2_1_21 x2_1_22 x2_3_0 x2_3_1 x2_3_2 x2_3_3 x2_3_4 x2_3_5 x2_3_6 x2_3_7 x2_3_8 x2_3_9 x2_3_10 x2_3_11 x2_3_12 x2_3_13 x2_3_14 x2_3_15 x2_3_16 x2_3_17 x2_3_18 x2_3_19 x2_3_20 x2_3_21 x2_3_22 x2_4))
def carillonref07_Check.j1 (k : Nat) (x1_1_0 x1_1_1 x1_1_2 x1_1_3 x1_1_4 x1_1_5 x1_1_6 x1_1_7 x1_1_8 x1_1_9 x1_1_10 x1_1_11 x1_1_12 x1_1_13 x1_1_14 x1_1_15 x1_1_16 x1_1_17 x1_1_18 x1_1_19 x1_1_20 x1_1_21 x1_1_22 x1_3_0 x1_3_1 x1_3_2 x1_3_3 x1_3_4 x1_3_5 x1_3_6 x1_3_7 x1_3_8 x1_3_9 x1_3_10 x1_3_11 x1_3_12 x1_3_13 x1_3_14 x1_3_15 x1_3_16 x1_3_17 x1_3_18 x1_3_19 x1_3_20 x1_3_21 x1_3_22 : Int) (x1_4 : Bool) : Option (Bool) := (carillonref07_targeted.f x1_1_0).bind fun t1003 => (if t1003 = true then (if x1_4 = true then ((carillonref04_May.f x1_1_9 x1_1_10).bind fun t1011 => (carillonref07_Check.j2 k x1_1_0 x1_1_1 x1_1_2 x1_1_3 x1_1_4 x1_1_5 x1_1_6 x1_1_7 x1_1_8 x1_1_9 x1_1_10 x1_1_11 x1_1_12 x1_1_13 x1_1_14 x1_1_15 x1_1_16 x1_1_17 x1_1_18 x1_1_19 x1_1_20 x1_1_21 x1_1_22 x1_3_0 x1_3_1 x1_3_2 x1_3_3 x1_3_4 x1_3_5 x1_3_6 x1_3_7 x1_3_8 x1_1_9 x1_1_10 x1_3_11 x1_3_12 x1_3_13 x1_3_14 x1_3_15 x1_3_16 x1_3_17 x1_3_18 x1_3_19 x1_3_20 x1_3_21 x1_3_22 t1011)) else (carillonref07_Check.j2 k x1_1_0 x1_1_1 x1_1_2 x1_1_3 x1_1_4 x1_1_5 x1_1_6 x1_1_7 x1_1_8 x1_1_9 x1_1_10 x1_1_11 x1_1_12 x1_1_13 x1_1_14 x1_1_15 x1_1_16 x1_1_17 x1_1_18 x1_1_19 x1_1_20 x1_1_21 x1_1_22 x1_3_0 x1_3_1 x1_3_2 x1_3_3 x1_3_4 x1_3_5 x1_3_6 x1_3_7 x1_3_8 x1_1_9 x1_1_10 x1_3_11 x1_3_12 x1_3_13 x1_3_14 x1_3_15 x1_3_16 x1_3_17 x1_3_18 x1_3_19 x1_3_20 x1_3_21 x1_3_22 false)) else (carillonref07_Check.j2 k x1_1_0 x1_1_1 x1_1_2 x1_1_3 x1_1_4 x1_1_5 x1_1_6 x1_1_7 x1_1_8 x1_1_9 x1_1_10 x1_1_11 x1_1_12 x1_1_13 x1_1_14 x1_1_15 x1_1_16 x1_1_17 x1_1_18 x1_1_19 x1_1_20 x1_1_21 x1_1_22 x1_3_0 x1_3_1 x1_3_2 x1_3_3 x1_3_4 x1_3_5 x1_3_6 x1_3_7 x1_3_8 x1_3_9 x1_3_10 x1_3_11 x1_3_12 x1_3_13 x1_3_14 x1_3_15 x1_3_16 x1_3_17 x1_3_18 x1_3_19 x1_3_20 x1_3_21 x1_3_22 x1_4))
def carillonref07_Check.f (k : Nat) (a0_0 a0_1 a0_2 a0_3 a0_4 a0_5 a0_6 a0_7 a0_8 a0_9 a0_10 a0_11 a0_12 a0_13 a0_14 a0_15 a0_16 a0_17 a0_18 a0_19 a0_20 a0_21 a0_22 : Int) : Option (Bool) := (carillonref06_Check.f a0_0 a0_1 a0_2 a0_3 a0_4 a0_5 a0_6 a0_7 a0_8 a0_9 a0_10 a0_11 a0_12 a0_13 a0_14 a0_15 a0_16 a0_17 a0_18 a0_19 a0_20 a0_21 a0_22).bind fun t7 => (if t7 = true then ((carillonref07_stamped.f a0_0).bind fun t21 => (if t21 = true then ((carillonref02_May.f a0_8).bind fun t28 => (carillonref07_Check.j1 k a0_0 a0_1 a0_2 a0_3 a0_4 a0_5 a0_6 a0_7 a0_8 a0_9 a0_10 a0_11 a0_12 a0_13 a0_14 a0_15 a0_16 a0_17 a0_18 a0_19 a0_20 a0_21 a0_22 a0_0 a0_1 a0_2 a0_3 a0_4 a0_5 a0_6 a0_7 a0_8 0 0 0 0 0 0 0 0 0 0 0 0 0 0 t28)) else (carillonref07_Check.j1 k a0_0 a0_1 a0_2 a0_3 a0_4 a0_5 a0_6 a0_7 a0_8 a0_9 a0_10 a0_11 a0_12 a0_13 a0_14 a0_15 a0_16 a0_17 a0_18 a0_19 a0_20 a0_21 a0_22 a0_0 a0_1 a0_2 a0_3 a0_4 a0_5 a0_6 a0_7 0 0 0 0 0 0 0 0 0 0 0 0 0 0 0 true))) else (some false))
open Go.Proofs.Ytpoocfapmgmfkaa.E in
set_option maxRecDepth 100000 in
theorem carillonref07_Check.eql29 (x y : Operand) (w : World) (a0 a1 a2 a3 a4 a5 a6 a7 a8 a9 a10 a11 a12 a13 a14 a15 a16 a17 a18 a19 a20 a21 a22 b0 b1 b2 b3 b4 b5 b6 b7 b8 b9 b10 b11 b12 b13 b14 b15 b16 b17 b18 b19 b20 b21 b22 : Int) : (do eqGuard .eql 29 x y (.agg #[.int .i64 a0, .int .i64 a1, .int .i64 a2, .int .i64 a3, .int .u64 a4, .int .i64 a5, .int .i64 a6, .int .i64 a7, .int .i64 a8, .int .u64 a9, .int .i64 a10, .int .i64 a11, .int .i64 a12, .int .i64 a13, .int .i64 a14, .int .i64 a15, .int .i64 a16, .int .u64 a17, .int .i64 a18, .int .i64 a19, .int .i64 a20, .int .i64 a21, .int .i64 a22]) (.agg #[.int .i64 b0, .int .i64 b1, .int .i64 b2, .int .i64 b3, .int .u64 b4, .int .i64 b5, .int .i64 b6, .int .i64 b7, .int .i64 b8, .int .u64 b9, .int .i64 b10, .int .i64 b11, .int .i64 b12, .int .i64 b13, .int .i64 b14, .int .i64 b15, .int .i64 b16, .int .u64 b17, .int .i64 b18, .int .i64 b19, .int .i64 b20, .int .i64 b21, .int .i64 b22]); binOp .eql 29 (.agg #[.int .i64 a0, .int .i64 a1, .int .i64 a2, .int .i64 a3, .int .u64 a4, .int .i64 a5, .int .i64 a6, .int .i64 a7, .int .i64 a8, .int .u64 a9, .int .i64 a10, .int .i64 a11, .int .i64 a12, .int .i64 a13, .int .i64 a14, .int .i64 a15, .int .i64 a16, .int .u64 a17, .int .i64 a18, .int .i64 a19, .int .i64 a20, .int .i64 a21, .int .i64 a22]) (.agg #[.int .i64 b0, .int .i64 b1, .int .i64 b2, .int .i64 b3, .int .u64 b4, .int .i64 b5, .int .i64 b6, .int .i64 b7, .int .i64 b8, .int .u64 b9, .int .i64 b10, .int .i64 b11, .int .i64 b12, .int .i64 b13, .int .i64 b14, .int .i64 b15, .int .i64 b16, .int .u64 b17, .int .i64 b18, .int .i64 b19, .int .i64 b20, .int .i64 b21, .int .i64 b22]) : Sem Value).run Try.prog w = .ok (.bool ((a0 == b0) && ((a1 == b1) && ((a2 == b2) && ((a3 == b3) && ((a4 == b4) && ((a5 == b5) && ((a6 == b6) && ((a7 == b7) && ((a8 == b8) && ((a9 == b9) && ((a10 == b10) && ((a11 == b11) && ((a12 == b12) && ((a13 == b13) && ((a14 == b14) && ((a15 == b15) && ((a16 == b16) && ((a17 == b17) && ((a18 == b18) && ((a19 == b19) && ((a20 == b20) && ((a21 == b21) && (a22 == b22)))))))))))))))))))))))) w := by
  have hu3 := Try.underlying3
  have hu23 := Try.underlying23
  have hu25 := Try.underlying25
  have hu27 := Try.underlying27
  have hu29 := Try.underlying29
  conv => lhs; simp [eqGuard, go_sem, hu3, hu23, hu25, hu27, hu29]
  exact ite_and (ite_and (ite_and (ite_and (ite_and (ite_and (ite_and (ite_and (ite_and (ite_and (ite_and (ite_and (ite_and (ite_and (ite_and (ite_and (ite_and (ite_and (ite_and (ite_and (ite_and (ite_and (ite_last))))))))))))))))))))))
abbrev carillonref07_Check.v0 (x0 x1 x2 x3 x4 x5 x6 x7 x8 x9 x10 x11 x12 x13 x14 x15 x16 x17 x18 x19 x20 x21 x22 : Int) : Value := .agg #[.int .i64 x0, .int .i64 x1, .int .i64 x2, .int .i64 x3, .int .u64 x4, .int .i64 x5, .int .i64 x6, .int .i64 x7, .int .i64 x8, .int .u64 x9, .int .i64 x10, .int .i64 x11, .int .i64 x12, .int .i64 x13, .int .i64 x14, .int .i64 x15, .int .i64 x16, .int .u64 x17, .int .i64 x18, .int .i64 x19, .int .i64 x20, .int .i64 x21, .int .i64 x22]
abbrev carillonref07_Check.c1 (x0 x1 x2 x3 x4 x5 x6 x7 x8 x9 x10 x11 x12 x13 x14 x15 x16 x17 x18 x19 x20 x21 x22 : Int) : Array Value := #[.int .i64 x0, .int .i64 x1, .int .i64 x2, .int .i64 x3, .int .u64 x4, .int .i64 x5, .int .i64 x6, .int .i64 x7, .int .i64 x8, .int .u64 x9, .int .i64 x10, .int .i64 x11, .int .i64 x12, .int .i64 x13, .int .i64 x14, .int .i64 x15, .int .i64 x16, .int .u64 x17, .int .i64 x18, .int .i64 x19, .int .i64 x20, .int .i64 x21, .int .i64 x22]
open Go.Proofs.Ytpoocfapmgmfkaa.E in
set_option maxHeartbeats 60000000 in
set_option maxRecDepth 100000 in
theorem carillonref07_Check.calls (k : Nat) (a0_0 a0_1 a0_2 a0_3 a0_4 a0_5 a0_6 a0_7 a0_8 a0_9 a0_10 a0_11 a0_12 a0_13 a0_14 a0_15 a0_16 a0_17 a0_18 a0_19 a0_20 a0_21 a0_22 : Int) (r : Bool) (w : World) (h : carillonref07_Check.f k a0_0 a0_1 a0_2 a0_3 a0_4 a0_5 a0_6 a0_7 a0_8 a0_9 a0_10 a0_11 a0_12 a0_13 a0_14 a0_15 a0_16 a0_17 a0_18 a0_19 a0_20 a0_21 a0_22 = some r) :
    Calls Try.prog 9 #[.agg #[.int .i64 a0_0, .int .i64 a0_1, .int .i64 a0_2, .int .i64 a0_3, .int .u64 a0_4, .int .i64 a0_5, .int .i64 a0_6, .int .i64 a0_7, .int .i64 a0_8, .int .u64 a0_9, .int .i64 a0_10, .int .i64 a0_11, .int .i64 a0_12, .int .i64 a0_13, .int .i64 a0_14, .int .i64 a0_15, .int .i64 a0_16, .int .u64 a0_17, .int .i64 a0_18, .int .i64 a0_19, .int .i64 a0_20, .int .i64 a0_21, .int .i64 a0_22]] w fun e w' => e = .returned (.bool r) ∧ Below w.heap.size w w' := by
  have H := h
  clear h
  unfold carillonref07_Check.f at H
  obtain ⟨t7, At7, H⟩ := Option.bind_eq_some_iff.mp H
  by_cases c1 : t7 = true
  rotate_left
  · rw [if_neg c1] at H
    obtain rfl := Option.some.inj H
    refine calls_of_wp (fn := Try.f9) (by kernel_rfl) rfl ?_
    have hS := St.enter #[(carillonref07_Check.v0 a0_0 a0_1 a0_2 a0_3 a0_4 a0_5 a0_6 a0_7 a0_8 a0_9 a0_10 a0_11 a0_12 a0_13 a0_14 a0_15 a0_16 a0_17 a0_18 a0_19 a0_20 a0_21 a0_22)] 136 (by simp) [(0, (carillonref07_Check.v0 a0_0 a0_1 a0_2 a0_3 a0_4 a0_5 a0_6 a0_7 a0_8 a0_9 a0_10 a0_11 a0_12 a0_13 a0_14 a0_15 a0_16 a0_17 a0_18 a0_19 a0_20 a0_21 a0_22))] (by simp)
    have HB0 := Below.refl w.heap.size w
    refine wp_seq_k (fun K1 hK1 => ?_)
    refine reg_seq (N := 136) (bs := [(0, (carillonref07_Check.v0 a0_0 a0_1 a0_2 a0_3 a0_4 a0_5 a0_6 a0_7 a0_8 a0_9 a0_10 a0_11 a0_12 a0_13 a0_14 a0_15 a0_16 a0_17 a0_18 a0_19 a0_20 a0_21 a0_22))]) (I := fun x => Below w.heap.size w x) (ps := [IsB (carillonref07_Check.c1 a0_0 a0_1 a0_2 a0_3 a0_4 a0_5 a0_6 a0_7 a0_8 a0_9 a0_10 a0_11 a0_12 a0_13 a0_14 a0_15 a0_16 a0_17 a0_18 a0_19 a0_20 a0_21 a0_22) 29 w.heap.size, VB false]) (by kernel_rfl) ?_ ?_ rfl hS HB0 ?_ ?_
    · exact fun x y hI hb => below_step hI hb
    · exact .cons (Stays.b _ _ _) (.v (.nil))
    · refine .on rfl (fun a w hS hI hp => does_var (x_box rfl (congrArg Value.cells (hS.get 0 rfl))) (hI).size) ?_
      refine .on rfl (fun a w hS hI hp => does_val (x_assign rfl (rfl)) rfl) ?_
      exact .nil
    clear hS
    intro at2 w3 hS hI hp
    have hBw3_w := hI
    replace hS := hS.nil
    obtain ⟨g4, hv1, hgeg4, hbxg4⟩ := (show IsB _ 29 _ (sl _ 1) _ from hp 0 (by decide))
    have hBw3_w3 := Below.refl w3.heap.size w3
    have hS := hS.cons hv1
    clear hp hI hv1
    refine hK1 _ _ ?_
    (try clear hK1 K1)
    refine wp_seq_k (fun K5 hK5 => ?_)
    refine wp_seq_k (fun K6 hK6 => ?_)
    refine reg_seq (N := 136) (bs := [(1, .pointer (some ⟨g4, 0, none⟩))]) (I := fun x => Below w.heap.size w x ∧ Below w3.heap.size w3 x) (ps := [IsV ((carillonref07_Check.v0 a0_0 a0_1 a0_2 a0_3 a0_4 a0_5 a0_6 a0_7 a0_8 a0_9 a0_10 a0_11 a0_12 a0_13 a0_14 a0_15 a0_16 a0_17 a0_18 a0_19 a0_20 a0_21 a0_22)), VB t7, VB (!t7)]) (by kernel_rfl) ?_ ?_ rfl hS ⟨hBw3_w, hBw3_w3⟩ ?_ ?_
    · exact fun x y hI hb => ⟨below_step hI.1 hb, below_step hI.2 hb⟩
    · exact .v (.v (.v (.nil)))
    · refine .on rfl (fun a w hS hI hp => does_loadrow rfl (hS.get 0 rfl) (((hI.2).block g4 (blk_lt hbxg4)).trans hbxg4) Try.underlying29 rfl (by kernel_rfl) rfl) ?_
      refine .on rfl (fun a w hS hI hp => does_call (by kernel_rfl) (ar1 (hp.V 0 rfl rfl)) ((carillonref06_Check.calls a0_0 a0_1 a0_2 a0_3 a0_4 a0_5 a0_6 a0_7 a0_8 a0_9 a0_10 a0_11 a0_12 a0_13 a0_14 a0_15 a0_16 a0_17 a0_18 a0_19 a0_20 a0_21 a0_22 t7 _  At7).mono fun _ _ h => ⟨_, h.1, h.2, rfl⟩)) ?_
      refine .on rfl (fun a w hS hI hp => does_val (x_not rfl (hp.V 1 rfl rfl)) rfl) ?_
      exact .nil
    clear hS
    intro at8 w9 hS hI hp
    have hBw9_w := hI.1
    have hBw9_w3 := hI.2
    have hv7 : sl _ 7 = .bool (!t7) := hp 2 (by decide)
    have hBw9_w9 := Below.refl w9.heap.size w9
    have hS := hS.cons hv7
    clear hp hI hv7
    refine hK6 _ _ ?_
    (try clear hK6 K6)
    refine wp_cond_true ((hS.get 0 rfl).trans (bT (congrArg (!·) (Bool.eq_false_iff.2 c1)))) ?_
    refine wp_seq_k (fun K10 hK10 => ?_)
    refine reg_seq (N := 136) (bs := [(7, .bool (!t7)), (1, .pointer (some ⟨g4, 0, none⟩))]) (I := fun x => Below w.heap.size w x ∧ Below w3.heap.size w3 x ∧ Below w9.heap.size w9 x) (ps := [VB false]) (by kernel_rfl) ?_ ?_ rfl hS ⟨hBw9_w, hBw9_w3, hBw9_w9⟩ ?_ ?_
    · exact fun x y hI hb => ⟨below_step hI.1 hb, below_step hI.2.1 hb, below_step hI.2.2 hb⟩
    · exact .v (.nil)
    · refine .on rfl (fun a w hS hI hp => does_val (x_assign rfl (rfl)) rfl) ?_
      exact .nil
    clear hS
    intro at11 w12 hS hI hp
    have hBw12_w := hI.1
    have hBw12_w3 := hI.2.1
    have hBw12_w9 := hI.2.2
    replace hS := hS.nil
    have hv2 : sl _ 2 = .bool false := hp 0 (by decide)
    have hBw12_w12 := Below.refl w12.heap.size w12
    have hS := hS.cons hv2
    clear hp hI hv2
    refine hK10 _ _ ?_
    (try clear hK10 K10)
    refine wp_ret ?_
    (try simp only [Exit.then, Exit.inBlock, Exit.jump, Exit.noGoto])
    exact bodyPost_ret (v := .bool false) (results_single rfl (Vals.at (hS.get 0 rfl) .nil)) hS.nodef ⟨rfl, hBw12_w⟩
  rw [if_pos c1] at H
  refine calls_of_wp (fn := Try.f9) (by kernel_rfl) rfl ?_
  have hS := St.enter #[(carillonref07_Check.v0 a0_0 a0_1 a0_2 a0_3 a0_4 a0_5 a0_6 a0_7 a0_8 a0_9 a0_10 a0_11 a0_12 a0_13 a0_14 a0_15 a0_16 a0_17 a0_18 a0_19 a0_20 a0_21 a0_22)] 136 (by simp) [(0, (carillonref07_Check.v0 a0_0 a0_1 a0_2 a0_3 a0_4 a0_5 a0_6 a0_7 a0_8 a0_9 a0_10 a0_11 a0_12 a0_13 a0_14 a0_15 a0_16 a0_17 a0_18 a0_19 a0_20 a0_21 a0_22))] (by simp)
  have HB0 := Below.refl w.heap.size w
  refine wp_seq_k (fun K1 hK1 => ?_)
  refine reg_seq (N := 136) (bs := [(0, (carillonref07_Check.v0 a0_0 a0_1 a0_2 a0_3 a0_4 a0_5 a0_6 a0_7 a0_8 a0_9 a0_10 a0_11 a0_12 a0_13 a0_14 a0_15 a0_16 a0_17 a0_18 a0_19 a0_20 a0_21 a0_22))]) (I := fun x => Below w.heap.size w x) (ps := [IsB (carillonref07_Check.c1 a0_0 a0_1 a0_2 a0_3 a0_4 a0_5 a0_6 a0_7 a0_8 a0_9 a0_10 a0_11 a0_12 a0_13 a0_14 a0_15 a0_16 a0_17 a0_18 a0_19 a0_20 a0_21 a0_22) 29 w.heap.size, VB false]) (by kernel_rfl) ?_ ?_ rfl hS HB0 ?_ ?_
  · exact fun x y hI hb => below_step hI hb
  · exact .cons (Stays.b _ _ _) (.v (.nil))
  · refine .on rfl (fun a w hS hI hp => does_var (x_box rfl (congrArg Value.cells (hS.get 0 rfl))) (hI).size) ?_
    refine .on rfl (fun a w hS hI hp => does_val (x_assign rfl (rfl)) rfl) ?_
    exact .nil
  clear hS
  intro at2 w3 hS hI hp
  have hBw3_w := hI
  replace hS := hS.nil
  obtain ⟨g4, hv1, hgeg4, hbxg4⟩ := (show IsB _ 29 _ (sl _ 1) _ from hp 0 (by decide))
  have hBw3_w3 := Below.refl w3.heap.size w3
  have hS := hS.cons hv1
  clear hp hI hv1
  refine hK1 _ _ ?_
  (try clear hK1 K1)
  refine wp_seq_k (fun K5 hK5 => ?_)
  refine wp_seq_k (fun K6 hK6 => ?_)
  refine reg_seq (N := 136) (bs := [(1, .pointer (some ⟨g4, 0, none⟩))]) (I := fun x => Below w.heap.size w x ∧ Below w3.heap.size w3 x) (ps := [IsV ((carillonref07_Check.v0 a0_0 a0_1 a0_2 a0_3 a0_4 a0_5 a0_6 a0_7 a0_8 a0_9 a0_10 a0_11 a0_12 a0_13 a0_14 a0_15 a0_16 a0_17 a0_18 a0_19 a0_20 a0_21 a0_22)), VB t7, VB (!t7)]) (by kernel_rfl) ?_ ?_ rfl hS ⟨hBw3_w, hBw3_w3⟩ ?_ ?_
  · exact fun x y hI hb => ⟨below_step hI.1 hb, below_step hI.2 hb⟩
  · exact .v (.v (.v (.nil)))
  · refine .on rfl (fun a w hS hI hp => does_loadrow rfl (hS.get 0 rfl) (((hI.2).block g4 (blk_lt hbxg4)).trans hbxg4) Try.underlying29 rfl (by kernel_rfl) rfl) ?_
    refine .on rfl (fun a w hS hI hp => does_call (by kernel_rfl) (ar1 (hp.V 0 rfl rfl)) ((carillonref06_Check.calls a0_0 a0_1 a0_2 a0_3 a0_4 a0_5 a0_6 a0_7 a0_8 a0_9 a0_10 a0_11 a0_12 a0_13 a0_14 a0_15 a0_16 a0_17 a0_18 a0_19 a0_20 a0_21 a0_22 t7 _  At7).mono fun _ _ h => ⟨_, h.1, h.2, rfl⟩)) ?_
    refine .on rfl (fun a w hS hI hp => does_val (x_not rfl (hp.V 1 rfl rfl)) rfl) ?_
    exact .nil
  clear hS
  intro at8 w9 hS hI hp
  have hBw9_w := hI.1
  have hBw9_w3 := hI.2
  have hv7 : sl _ 7 = .bool (!t7) := hp 2 (by decide)
  have hBw9_w9 := Below.refl w9.heap.size w9
  have hS := hS.cons hv7
  clear hp hI hv7
  refine hK6 _ _ ?_
  (try clear hK6 K6)
  refine wp_cond_false ((hS.get 0 rfl).trans (bF (congrArg (!·) c1))) ?_
  refine wp_skip ?_
  refine hK5 _ _ ?_
  (try clear hK5 K5)
  refine wp_seq_k (fun K10 hK10 => ?_)
  refine reg_seq_tail 16 (N := 136) (bs := [(7, .bool (!t7)), (1, .pointer (some ⟨g4, 0, none⟩))]) (I := fun x => Below w.heap.size w x ∧ Below w3.heap.size w3 x ∧ Below w9.heap.size w9 x) (ps := [VP g4 0, VI a0_0, VP g4 1, VI a0_1, VP g4 2, VI a0_2, VP g4 3, VI a0_3, VP g4 4, IsV (.agg #[.int .u64 a0_4, .int .i64 a0_5]), VP g4 6, VI a0_6, VP g4 7, VI a0_7, IsV ((carillonref07_Check.v0 a0_0 a0_1 a0_2 a0_3 a0_4 a0_5 a0_6 a0_7 0 0 0 0 0 0 0 0 0 0 0 0 0 0 0)), IsB (carillonref07_Check.c1 0 0 0 0 0 0 0 0 0 0 0 0 0 0 0 0 0 0 0 0 0 0 0) 29 w9.heap.size]) (by kernel_rfl) ?_ ?_ rfl hS ⟨hBw9_w, hBw9_w3, hBw9_w9⟩ ?_ ?_
  · exact fun x y hI hb => ⟨below_step hI.1 hb, below_step hI.2.1 hb, below_step hI.2.2 hb⟩
  · exact .v (.v (.v (.v (.v (.v (.v (.v (.v (.v (.v (.v (.v (.v (.v (.cons (Stays.b _ _ _) (.nil))))))))))))))))
  · refine .on rfl (fun a w hS hI hp => does_val (x_fieldE (b := 0) rfl (hS.get 1 rfl) Try.underlying29 rfl rfl (by kernel_rfl)) rfl) ?_
    refine .on rfl (fun a w hS hI hp => does_val (x_load1 (d := .int .i64) rfl (hp.V 0 rfl rfl) (by kernel_rfl) rfl ((blk_cell (((hI.2.1).block g4 (blk_lt hbxg4)).trans hbxg4) 0).trans rfl)) rfl) ?_
    refine .on rfl (fun a w hS hI hp => does_val (x_fieldE (b := 0) rfl (hS.get 1 rfl) Try.underlying29 rfl rfl (by kernel_rfl)) rfl) ?_
    refine .on rfl (fun a w hS hI hp => does_val (x_load1 (d := .int .i64) rfl (hp.V 2 rfl rfl) (by kernel_rfl) rfl ((blk_cell (((hI.2.1).block g4 (blk_lt hbxg4)).trans hbxg4) 1).trans rfl)) rfl) ?_
    refine .on rfl (fun a w hS hI hp => does_val (x_fieldE (b := 0) rfl (hS.get 1 rfl) Try.underlying29 rfl rfl (by kernel_rfl)) rfl) ?_
    refine .on rfl (fun a w hS hI hp => does_val (x_load1 (d := .int .i64) rfl (hp.V 4 rfl rfl) (by kernel_rfl) rfl ((blk_cell (((hI.2.1).block g4 (blk_lt hbxg4)).trans hbxg4) 2).trans rfl)) rfl) ?_
    refine .on rfl (fun a w hS hI hp => does_val (x_fieldE (b := 0) rfl (hS.get 1 rfl) Try.underlying29 rfl rfl (by kernel_rfl)) rfl) ?_
    refine .on rfl (fun a w hS hI hp => does_val (x_load1 (d := .int .i64) rfl (hp.V 6 rfl rfl) (by kernel_rfl) rfl ((blk_cell (((hI.2.1).block g4 (blk_lt hbxg4)).trans hbxg4) 3).trans rfl)) rfl) ?_
    refine .on rfl (fun a w hS hI hp => does_val (x_fieldE (b := 0) rfl (hS.get 1 rfl) Try.underlying29 rfl rfl (by kernel_rfl)) rfl) ?_
    refine .on rfl (fun a w hS hI hp => does_loadmid (cs := [.int .u64 a0_4, .int .i64 a0_5]) rfl (hp.V 8 rfl rfl) (((hI.2.1).block g4 (blk_lt hbxg4)).trans hbxg4) rfl Try.underlying25 rfl (by kernel_rfl) rfl) ?_
    refine .on rfl (fun a w hS hI hp => does_val (x_fieldE (b := 0) rfl (hS.get 1 rfl) Try.underlying29 rfl rfl (by kernel_rfl)) rfl) ?_
    refine .on rfl (fun a w hS hI hp => does_val (x_load1 (d := .int .i64) rfl (hp.V 10 rfl rfl) (by kernel_rfl) rfl ((blk_cell (((hI.2.1).block g4 (blk_lt hbxg4)).trans hbxg4) 6).trans rfl)) rfl) ?_
    refine .on rfl (fun a w hS hI hp => does_val (x_fieldE (b := 0) rfl (hS.get 1 rfl) Try.underlying29 rfl rfl (by kernel_rfl)) rfl) ?_
    refine .on rfl (fun a w hS hI hp => does_val (x_load1 (d := .int .i64) rfl (hp.V 12 rfl rfl) (by kernel_rfl) rfl ((blk_cell (((hI.2.1).block g4 (blk_lt hbxg4)).trans hbxg4) 7).trans rfl)) rfl) ?_
    refine .on rfl (fun a w hS hI hp => does_val (x_build (vs := [(0, .int .i64 a0_0), (1, .int .i64 a0_1), (2, .int .i64 a0_2), (3, .int .i64 a0_3), (4, .agg #[.int .u64 a0_4, .int .i64 a0_5]), (5, .int .i64 a0_6), (6, .int .i64 a0_7)]) rfl (by rw [Array.toList_map]; exact (show [(0, a.eval (.tmp 9)), (1, a.eval (.tmp 11)), (2, a.eval (.tmp 13)), (3, a.eval (.tmp 15)), (4, a.eval (.tmp 17)), (5, a.eval (.tmp 19)), (6, a.eval (.tmp 21))] = _ from (li_cons (hp.V 1 rfl rfl) (li_cons (hp.V 3 rfl rfl) (li_cons (hp.V 5 rfl rfl) (li_cons (hp.V 7 rfl rfl) (li_cons (hp.V 9 rfl rfl) (li_cons (hp.V 11 rfl rfl) (li_cons (hp.V 13 rfl rfl) rfl))))))))) (by kernel_rfl)) rfl) ?_
    refine .on rfl (fun a w hS hI hp => does_var (x_alloc rfl (by kernel_rfl)) (hI.2.2).size) ?_
    exact .nil
  clear hS
  intro at11 w12 hS hI hp
  have hBw12_w := hI.1
  have hBw12_w3 := hI.2.1
  have hBw12_w9 := hI.2.2
  replace hS := (hS.nil).cons (hS.get 1 rfl)
  have hv22 : sl _ 22 = (carillonref07_Check.v0 a0_0 a0_1 a0_2 a0_3 a0_4 a0_5 a0_6 a0_7 0 0 0 0 0 0 0 0 0 0 0 0 0 0 0) := hp 14 (by decide)
  obtain ⟨g13, hv3, hgeg13, hbxg13⟩ := (show IsB _ 29 _ (sl _ 3) _ from hp 15 (by decide))
  have hne14 : g13 ≠ g4 := Nat.ne_of_gt (Nat.lt_of_lt_of_le (blk_lt ((hBw9_w3.block g4 (blk_lt hbxg4)).trans hbxg4)) hgeg13)
  have hBw12_w12 := Below.refl w12.heap.size w12
  have hS := hS.cons hv22
  have hS := hS.cons hv3
  clear hp hI hv22 hv3
  show wpList _ _ _ [_] _ _
  refine list_step rfl (does_storeAll (g := g13) (cs := (carillonref07_Check.c1 a0_0 a0_1 a0_2 a0_3 a0_4 a0_5 a0_6 a0_7 0 0 0 0 0 0 0 0 0 0 0 0 0 0 0)) rfl (hS.get 0 rfl) (hS.get 1 rfl) ((hBw12_w12.block g13 (blk_lt hbxg13)).trans hbxg13) (by kernel_rfl) (by kernel_rfl) (by kernel_rfl)) ?_
  rintro vw15 w15 ⟨rfl, hbxw15, hT⟩
  have hBw15_w := hT.below hBw12_w (Nat.le_trans (hBw9_w).size hgeg13) (hBw12_w).size
  have hBw15_w3 := hT.below hBw12_w3 (Nat.le_trans (hBw9_w3).size hgeg13) (hBw12_w3).size
  have hBw15_w9 := hT.below hBw12_w9 hgeg13 (hBw12_w9).size
  have hBw15_w15 := Below.refl w15.heap.size w15
  clear hT
  refine wpList_nil ?_
  refine hK10 _ _ ?_
  (try clear hK10 K10)
  refine wp_seq_k (fun K16 hK16 => ?_)
  refine reg_seq (N := 136) (bs := [(3, .pointer (some ⟨g13, 0, none⟩)), (22, (carillonref07_Check.v0 a0_0 a0_1 a0_2 a0_3 a0_4 a0_5 a0_6 a0_7 0 0 0 0 0 0 0 0 0 0 0 0 0 0 0)), (1, .pointer (some ⟨g4, 0, none⟩))]) (I := fun x => Below w.heap.size w x ∧ Below w3.heap.size w3 x ∧ Below w9.heap.size w9 x ∧ Below w15.heap.size w15 x) (ps := [VB true]) (by kernel_rfl) ?_ ?_ rfl hS ⟨hBw15_w, hBw15_w3, hBw15_w9, hBw15_w15⟩ ?_ ?_
  · exact fun x y hI hb => ⟨below_step hI.1 hb, below_step hI.2.1 hb, below_step hI.2.2.1 hb, below_step hI.2.2.2 hb⟩
  · exact .v (.nil)
  · refine .on rfl (fun a w hS hI hp => does_val (x_assign rfl (rfl)) rfl) ?_
    exact .nil
  clear hS
  intro at17 w18 hS hI hp
  have hBw18_w := hI.1
  have hBw18_w3 := hI.2.1
  have hBw18_w9 := hI.2.2.1
  have hBw18_w15 := hI.2.2.2
  replace hS := ((hS.nil).cons (hS.get 2 rfl)).cons (hS.get 0 rfl)
  have hv4 : sl _ 4 = .bool true := hp 0 (by decide)
  have hBw18_w18 := Below.refl w18.heap.size w18
  have hS := hS.cons hv4
  clear hp hI hv4
  refine hK16 _ _ ?_
  (try clear hK16 K16)
  refine wp_seq_k (fun K19 hK19 => ?_)
  have J1 : ∀ (aL1 : Act) (wL1 : World) (x1_1_0 x1_1_1 x1_1_2 x1_1_3 x1_1_4 x1_1_5 x1_1_6 x1_1_7 x1_1_8 x1_1_9 x1_1_10 x1_1_11 x1_1_12 x1_1_13 x1_1_14 x1_1_15 x1_1_16 x1_1_17 x1_1_18 x1_1_19 x1_1_20 x1_1_21 x1_1_22 : Int) (gL1_1 : Nat) (x1_3_0 x1_3_1 x1_3_2 x1_3_3 x1_3_4 x1_3_5 x1_3_6 x1_3_7 x1_3_8 x1_3_9 x1_3_10 x1_3_11 x1_3_12 x1_3_13 x1_3_14 x1_3_15 x1_3_16 x1_3_17 x1_3_18 x1_3_19 x1_3_20 x1_3_21 x1_3_22 : Int) (gL1_3 : Nat) (x1_4 : Bool), carillonref07_Check.j1 k x1_1_0 x1_1_1 x1_1_2 x1_1_3 x1_1_4 x1_1_5 x1_1_6 x1_1_7 x1_1_8 x1_1_9 x1_1_10 x1_1_11 x1_1_12 x1_1_13 x1_1_14 x1_1_15 x1_1_16 x1_1_17 x1_1_18 x1_1_19 x1_1_20 x1_1_21 x1_1_22 x1_3_0 x1_3_1 x1_3_2 x1_3_3 x1_3_4 x1_3_5 x1_3_6 x1_3_7 x1_3_8 x1_3_9 x1_3_10 x1_3_11 x1_3_12 x1_3_13 x1_3_14 x1_3_15 x1_3_16 x1_3_17 x1_3_18 x1_3_19 x1_3_20 x1_3_21 x1_3_22 x1_4 = some r → St 136 [(1, .pointer (some ⟨gL1_1, 0, none⟩)), (3, .pointer (some ⟨gL1_3, 0, none⟩)), (4, .bool x1_4)] aL1 → Below w.heap.size w wL1 → w.heap.size ≤ gL1_1 → wL1.heap[gL1_1]? = some (.cells (carillonref07_Check.c1 x1_1_0 x1_1_1 x1_1_2 x1_1_3 x1_1_4 x1_1_5 x1_1_6 x1_1_7 x1_1_8 x1_1_9 x1_1_10 x1_1_11 x1_1_12 x1_1_13 x1_1_14 x1_1_15 x1_1_16 x1_1_17 x1_1_18 x1_1_19 x1_1_20 x1_1_21 x1_1_22) 29 (0, 0)) → w.heap.size ≤ gL1_3 → wL1.heap[gL1_3]? = some (.cells (carillonref07_Check.c1 x1_3_0 x1_3_1 x1_3_2 x1_3_3 x1_3_4 x1_3_5 x1_3_6 x1_3_7 x1_3_8 x1_3_9 x1_3_10 x1_3_11 x1_3_12 x1_3_13 x1_3_14 x1_3_15 x1_3_16 x1_3_17 x1_3_18 x1_3_19 x1_3_20 x1_3_21 x1_3_22) 29 (0, 0)) → gL1_3 ≠ gL1_1 → K19 aL1 wL1 := by
    intro aL1 wL1 x1_1_0 x1_1_1 x1_1_2 x1_1_3 x1_1_4 x1_1_5 x1_1_6 x1_1_7 x1_1_8 x1_1_9 x1_1_10 x1_1_11 x1_1_12 x1_1_13 x1_1_14 x1_1_15 x1_1_16 x1_1_17 x1_1_18 x1_1_19 x1_1_20 x1_1_21 x1_1_22 gL1_1 x1_3_0 x1_3_1 x1_3_2 x1_3_3 x1_3_4 x1_3_5 x1_3_6 x1_3_7 x1_3_8 x1_3_9 x1_3_10 x1_3_11 x1_3_12 x1_3_13 x1_3_14 x1_3_15 x1_3_16 x1_3_17 x1_3_18 x1_3_19 x1_3_20 x1_3_21 x1_3_22 gL1_3 x1_4 H hS hBwL1_w hgeLgL1_1 hbxLgL1_1 hgeLgL1_3 hbxLgL1_3 hneL1_3_1
    unfold carillonref07_Check.j1 at H
    (try dsimp only at H)
    have hBwL1_wL1 := Below.refl wL1.heap.size wL1
    refine hK19 _ _ ?_
    (try clear hK19 K19)
    refine wp_seq_k (fun K1001 hK1001 => ?_)
    have J2 : ∀ (aL2 : Act) (wL2 : World) (x2_1_0 x2_1_1 x2_1_2 x2_1_3 x2_1_4 x2_1_5 x2_1_6 x2_1_7 x2_1_8 x2_1_9 x2_1_10 x2_1_11 x2_1_12 x2_1_13 x2_1_14 x2_1_15 x2_1_16 x2_1_17 x2_1_18 x2_1_19 x2_1_20 x2_1_21 x2_1_22 : Int) (gL2_1 : Nat) (x2_3_0 x2_3_1 x2_3_2 x2_3_3 x2_3_4 x2_3_5 x2_3_6 x2_3_7 x2_3_8 x2_3_9 x2_3_10 x2_3_11 x2_3_12 x2_3_13 x2_3_14 x2_3_15 x2_3_16 x2_3_17 x2_3_18 x2_3_19 x2_3_20 x2_3_21 x2_3_22 : Int) (gL2_3 : Nat) (x2_4 : Bool), carillonref07_Check.j2 k x2_1_0 x2_1_1 x2_1_2 x2_1_3 x2_1_4 x2_1_5 x2_1_6 x2_1_7 x2_1_8 x2_1_9 x2_1_10 x2_1_11 x2_1_12 x2_1_13 x2_1_14 x2_1_15 x2_1_16 x2_1_17 x2_1_18 x2_1_19 x2_1_20 x2_1_21 x2_1_22 x2_3_0 x2_3_1 x2_3_2 x2_3_3 x2_3_4 x2_3_5 x2_3_6 x2_3_7 x2_3_8 x2_3_9 x2_3_10 x2_3_11 x2_3_12 x2_3_13 x2_3_14 x2_3_15 x2_3_16 x2_3_17 x2_3_18 x2_3_19 x2_3_20 x2_3_21 x2_3_22 x2_4 = some r → St 136 [(1, .pointer (some ⟨gL2_1, 0, none⟩)), (3, .pointer (some ⟨gL2_3, 0, none⟩)), (4, .bool x2_4)] aL2 → Below w.heap.size w wL2 → w.heap.size ≤ gL2_1 → wL2.heap[gL2_1]? = some (.cells (carillonref07_Check.c1 x2_1_0 x2_1_1 x2_1_2 x2_1_3 x2_1_4 x2_1_5 x2_1_6 x2_1_7 x2_1_8 x2_1_9 x2_1_10 x2_1_11 x2_1_12 x2_1_13 x2_1_14 x2_1_15 x2_1_16 x2_1_17 x2_1_18 x2_1_19 x2_1_20 x2_1_21 x2_1_22) 29 (0, 0)) → w.heap.size ≤ gL2_3 → wL2.heap[gL2_3]? = some (.cells (carillonref07_Check.c1 x2_3_0 x2_3_1 x2_3_2 x2_3_3 x2_3_4 x2_3_5 x2_3_6 x2_3_7 x2_3_8 x2_3_9 x2_3_10 x2_3_11 x2_3_12 x2_3_13 x2_3_14 x2_3_15 x2_3_16 x2_3_17 x2_3_18 x2_3_19 x2_3_20 x2_3_21 x2_3_22) 29 (0, 0)) → gL2_3 ≠ gL2_1 → K1001 aL2 wL2 := by
      intro aL2 wL2 x2_1_0 x2_1_1 x2_1_2 x2_1_3 x2_1_4 x2_1_5 x2_1_6 x2_1_7 x2_1_8 x2_1_9 x2_1_10 x2_1_11 x2_1_12 x2_1_13 x2_1_14 x2_1_15 x2_1_16 x2_1_17 x2_1_18 x2_1_19 x2_1_20 x2_1_21 x2_1_22 gL2_1 x2_3_0 x2_3_1 x2_3_2 x2_3_3 x2_3_4 x2_3_5 x2_3_6 x2_3_7 x2_3_8 x2_3_9 x2_3_10 x2_3_11 x2_3_12 x2_3_13 x2_3_14 x2_3_15 x2_3_16 x2_3_17 x2_3_18 x2_3_19 x2_3_20 x2_3_21 x2_3_22 gL2_3 x2_4 H hS hBwL2_w hgeLgL2_1 hbxLgL2_1 hgeLgL2_3 hbxLgL2_3 hneL2_3_1
      unfold carillonref07_Check.j2 at H
      (try dsimp only at H)
      have hBwL2_wL2 := Below.refl wL2.heap.size wL2
      refine hK1001 _ _ ?_
      (try clear hK1001 K1001)
      refine wp_seq_k (fun K2001 hK2001 => ?_)
      have J3 : ∀ (aL3 : Act) (wL3 : World) (x3_1_0 x3_1_1 x3_1_2 x3_1_3 x3_1_4 x3_1_5 x3_1_6 x3_1_7 x3_1_8 x3_1_9 x3_1_10 x3_1_11 x3_1_12 x3_1_13 x3_1_14 x3_1_15 x3_1_16 x3_1_17 x3_1_18 x3_1_19 x3_1_20 x3_1_21 x3_1_22 : Int) (gL3_1 : Nat) (x3_3_0 x3_3_1 x3_3_2 x3_3_3 x3_3_4 x3_3_5 x3_3_6 x3_3_7 x3_3_8 x3_3_9 x3_3_10 x3_3_11 x3_3_12 x3_3_13 x3_3_14 x3_3_15 x3_3_16 x3_3_17 x3_3_18 x3_3_19 x3_3_20 x3_3_21 x3_3_22 : Int) (gL3_3 : Nat) (x3_4 : Bool), carillonref07_Check.j3 k x3_1_0 x3_1_1 x3_1_2 x3_1_3 x3_1_4 x3_1_5 x3_1_6 x3_1_7 x3_1_8 x3_1_9 x3_1_10 x3_1_11 x3_1_12 x3_1_13 x3_1_14 x3_1_15 x3_1_16 x3_1_17 x3_1_18 x3_1_19 x3_1_20 x3_1_21 x3_1_22 x3_3_0 x3_3_1 x3_3_2 x3_3_3 x3_3_4 x3_3_5 x3_3_6 x3_3_7 x3_3_8 x3_3_9 x3_3_10 x3_3_11 x3_3_12 x3_3_13 x3_3_14 x3_3_15 x3_3_16 x3_3_17 x3_3_18 x3_3_19 x3_3_20 x3_3_21 x3_3_22 x3_4 = some r → St 136 [(1, .pointer (some ⟨gL3_1, 0, none⟩)), (3, .pointer (some ⟨gL3_3, 0, none⟩)), (4, .bool x3_4)] aL3 → Below w.heap.size w wL3 → w.heap.size ≤ gL3_1 → wL3.heap[gL3_1]? = some (.cells (carillonref07_Check.c1 x3_1_0 x3_1_1 x3_1_2 x3_1_3 x3_1_4 x3_1_5 x3_1_6 x3_1_7 x3_1_8 x3_1_9 x3_1_10 x3_1_11 x3_1_12 x3_1_13 x3_1_14 x3_1_15 x3_1_16 x3_1_17 x3_1_18 x3_1_19 x3_1_20 x3_1_21 x3_1_22) 29 (0, 0)) → w.heap.size ≤ gL3_3 → wL3.heap[gL3_3]? = some (.cells (carillonref07_Check.c1 x3_3_0 x3_3_1 x3_3_2 x3_3_3 x3_3_4 x3_3_5 x3_3_6 x3_3_7 x3_3_8 x3_3_9 x3_3_10 x3_3_11 x3_3_12 x3_3_13 x3_3_14 x3_3_15 x3_3_16 x3_3_17 x3_3_18 x3_3_19 x3_3_20 x3_3_21 x3_3_22) 29 (0, 0)) → gL3_3 ≠ gL3_1 → K2001 aL3 wL3 := by
        intro aL3 wL3 x3_1_0 x3_1_1 x3_1_2 x3_1_3 x3_1_4 x3_1_5 x3_1_6 x3_1_7 x3_1_8 x3_1_9 x3_1_10 x3_1_11 x3_1_12 x3_1_13 x3_1_14 x3_1_15 x3_1_16 x3_1_17 x3_1_18 x3_1_19 x3_1_20 x3_1_21 x3_1_22 gL3_1 x3_3_0 x3_3_1 x3_3_2 x3_3_3 x3_3_4 x3_3_5 x3_3_6 x3_3_7 x3_3_8 x3_3_9 x3_3_10 x3_3_11 x3_3_12 x3_3_13 x3_3_14 x3_3_15 x3_3_16 x3_3_17 x3_3_18 x3_3_19 x3_3_20 x3_3_21 x3_3_22 gL3_3 x3_4 H hS hBwL3_w hgeLgL3_1 hbxLgL3_1 hgeLgL3_3 hbxLgL3_3 hneL3_3_1
        unfold carillonref07_Check.j3 at H
        (try dsimp only at H)
        by_cases c2 : x3_4 = true
        · rw [if_pos c2] at H
          obtain rfl := Option.some.inj H
          have hBwL3_wL3 := Below.refl wL3.heap.size wL3
          refine hK2001 _ _ ?_
          (try clear hK2001 K2001)
          refine wp_seq_k (fun K3001 hK3001 => ?_)
          refine reg_seq (N := 136) (bs := [(1, .pointer (some ⟨gL3_1, 0, none⟩)), (3, .pointer (some ⟨gL3_3, 0, none⟩)), (4, .bool x3_4)]) (I := fun x => Below w.heap.size w x ∧ Below wL3.heap.size wL3 x) (ps := [VB x3_4, VB x3_4, IsV ((carillonref07_Check.v0 x3_3_0 x3_3_1 x3_3_2 x3_3_3 x3_3_4 x3_3_5 x3_3_6 x3_3_7 x3_3_8 x3_3_9 x3_3_10 x3_3_11 x3_3_12 x3_3_13 x3_3_14 x3_3_15 x3_3_16 x3_3_17 x3_3_18 x3_3_19 x3_3_20 x3_3_21 x3_3_22)), IsV ((carillonref07_Check.v0 x3_1_0 x3_1_1 x3_1_2 x3_1_3 x3_1_4 x3_1_5 x3_1_6 x3_1_7 x3_1_8 x3_1_9 x3_1_10 x3_1_11 x3_1_12 x3_1_13 x3_1_14 x3_1_15 x3_1_16 x3_1_17 x3_1_18 x3_1_19 x3_1_20 x3_1_21 x3_1_22)), VB ((x3_3_0 == x3_1_0) && ((x3_3_1 == x3_1_1) && ((x3_3_2 == x3_1_2) && ((x3_3_3 == x3_1_3) && ((x3_3_4 == x3_1_4) && ((x3_3_5 == x3_1_5) && ((x3_3_6 == x3_1_6) && ((x3_3_7 == x3_1_7) && ((x3_3_8 == x3_1_8) && ((x3_3_9 == x3_1_9) && ((x3_3_10 == x3_1_10) && ((x3_3_11 == x3_1_11) && ((x3_3_12 == x3_1_12) && ((x3_3_13 == x3_1_13) && ((x3_3_14 == x3_1_14) && ((x3_3_15 == x3_1_15) && ((x3_3_16 == x3_1_16) && ((x3_3_17 == x3_1_17) && ((x3_3_18 == x3_1_18) && ((x3_3_19 == x3_1_19) && ((x3_3_20 == x3_1_20) && ((x3_3_21 == x3_1_21) && (x3_3_22 == x3_1_22))))))))))))))))))))))), VB ((x3_3_0 == x3_1_0) && ((x3_3_1 == x3_1_1) && ((x3_3_2 == x3_1_2) && ((x3_3_3 == x3_1_3) && ((x3_3_4 == x3_1_4) && ((x3_3_5 == x3_1_5) && ((x3_3_6 == x3_1_6) && ((x3_3_7 == x3_1_7) && ((x3_3_8 == x3_1_8) && ((x3_3_9 == x3_1_9) && ((x3_3_10 == x3_1_10) && ((x3_3_11 == x3_1_11) && ((x3_3_12 == x3_1_12) && ((x3_3_13 == x3_1_13) && ((x3_3_14 == x3_1_14) && ((x3_3_15 == x3_1_15) && ((x3_3_16 == x3_1_16) && ((x3_3_17 == x3_1_17) && ((x3_3_18 == x3_1_18) && ((x3_3_19 == x3_1_19) && ((x3_3_20 == x3_1_20) && ((x3_3_21 == x3_1_21) && (x3_3_22 == x3_1_22))))))))))))))))))))))), VB ((x3_3_0 == x3_1_0) && ((x3_3_1 == x3_1_1) && ((x3_3_2 == x3_1_2) && ((x3_3_3 == x3_1_3) && ((x3_3_4 == x3_1_4) && ((x3_3_5 == x3_1_5) && ((x3_3_6 == x3_1_6) && ((x3_3_7 == x3_1_7) && ((x3_3_8 == x3_1_8) && ((x3_3_9 == x3_1_9) && ((x3_3_10 == x3_1_10) && ((x3_3_11 == x3_1_11) && ((x3_3_12 == x3_1_12) && ((x3_3_13 == x3_1_13) && ((x3_3_14 == x3_1_14) && ((x3_3_15 == x3_1_15) && ((x3_3_16 == x3_1_16) && ((x3_3_17 == x3_1_17) && ((x3_3_18 == x3_1_18) && ((x3_3_19 == x3_1_19) && ((x3_3_20 == x3_1_20) && ((x3_3_21 == x3_1_21) && (x3_3_22 == x3_1_22)))))))))))))))))))))))]) (by kernel_rfl) ?_ ?_ rfl hS ⟨hBwL3_w, hBwL3_wL3⟩ ?_ ?_
          · exact fun x y hI hb => ⟨below_step hI.1 hb, below_step hI.2 hb⟩
          · exact .v (.v (.v (.v (.v (.v (.v (.nil)))))))
          · refine .ms 2 rfl rfl rfl ?_
            refine .mv 0 rfl rfl rfl rfl ?_
            refine .oy 1 131 rfl rfl rfl rfl rfl c2 (fun a w hS hI hp => does_loadrow rfl (hS.get 1 rfl) (((hI.2).block gL3_3 (blk_lt hbxLgL3_3)).trans hbxLgL3_3) Try.underlying29 rfl (by kernel_rfl) rfl) ?_
            refine .oy 1 131 rfl rfl rfl rfl rfl c2 (fun a w hS hI hp => does_loadrow rfl (hS.get 0 rfl) (((hI.2).block gL3_1 (blk_lt hbxLgL3_1)).trans hbxLgL3_1) Try.underlying29 rfl (by kernel_rfl) rfl) ?_
            refine .oy 1 131 rfl rfl rfl rfl rfl c2 (fun a w hS hI hp => does_val (x_bin rfl (hp.V 2 rfl rfl) (hp.V 3 rfl rfl) (carillonref07_Check.eql29 _ _ _ x3_3_0 x3_3_1 x3_3_2 x3_3_3 x3_3_4 x3_3_5 x3_3_6 x3_3_7 x3_3_8 x3_3_9 x3_3_10 x3_3_11 x3_3_12 x3_3_13 x3_3_14 x3_3_15 x3_3_16 x3_3_17 x3_3_18 x3_3_19 x3_3_20 x3_3_21 x3_3_22 x3_1_0 x3_1_1 x3_1_2 x3_1_3 x3_1_4 x3_1_5 x3_1_6 x3_1_7 x3_1_8 x3_1_9 x3_1_10 x3_1_11 x3_1_12 x3_1_13 x3_1_14 x3_1_15 x3_1_16 x3_1_17 x3_1_18 x3_1_19 x3_1_20 x3_1_21 x3_1_22)) rfl) ?_
            refine .pt 1 4 rfl rfl rfl rfl c2 rfl rfl ?_
            refine .asg 5 rfl rfl rfl rfl ?_
            exact .nil
          clear hS
          intro at3002 w3003 hS hI hp
          have hBw3003_w := hI.1
          have hBw3003_wL3 := hI.2
          replace hS := hS.nil
          have hv2 : sl _ 2 = .bool ((x3_3_0 == x3_1_0) && ((x3_3_1 == x3_1_1) && ((x3_3_2 == x3_1_2) && ((x3_3_3 == x3_1_3) && ((x3_3_4 == x3_1_4) && ((x3_3_5 == x3_1_5) && ((x3_3_6 == x3_1_6) && ((x3_3_7 == x3_1_7) && ((x3_3_8 == x3_1_8) && ((x3_3_9 == x3_1_9) && ((x3_3_10 == x3_1_10) && ((x3_3_11 == x3_1_11) && ((x3_3_12 == x3_1_12) && ((x3_3_13 == x3_1_13) && ((x3_3_14 == x3_1_14) && ((x3_3_15 == x3_1_15) && ((x3_3_16 == x3_1_16) && ((x3_3_17 == x3_1_17) && ((x3_3_18 == x3_1_18) && ((x3_3_19 == x3_1_19) && ((x3_3_20 == x3_1_20) && ((x3_3_21 == x3_1_21) && (x3_3_22 == x3_1_22))))))))))))))))))))))) := hp 6 (by decide)
          have hBw3003_w3003 := Below.refl w3003.heap.size w3003
          have hS := hS.cons hv2
          clear hp hI hv2
          refine hK3001 _ _ ?_
          (try clear hK3001 K3001)
          refine wp_ret ?_
          (try simp only [Exit.then, Exit.inBlock, Exit.jump, Exit.noGoto])
          exact bodyPost_ret (v := .bool ((x3_3_0 == x3_1_0) && ((x3_3_1 == x3_1_1) && ((x3_3_2 == x3_1_2) && ((x3_3_3 == x3_1_3) && ((x3_3_4 == x3_1_4) && ((x3_3_5 == x3_1_5) && ((x3_3_6 == x3_1_6) && ((x3_3_7 == x3_1_7) && ((x3_3_8 == x3_1_8) && ((x3_3_9 == x3_1_9) && ((x3_3_10 == x3_1_10) && ((x3_3_11 == x3_1_11) && ((x3_3_12 == x3_1_12) && ((x3_3_13 == x3_1_13) && ((x3_3_14 == x3_1_14) && ((x3_3_15 == x3_1_15) && ((x3_3_16 == x3_1_16) && ((x3_3_17 == x3_1_17) && ((x3_3_18 == x3_1_18) && ((x3_3_19 == x3_1_19) && ((x3_3_20 == x3_1_20) && ((x3_3_21 == x3_1_21) && (x3_3_22 == x3_1_22)))))))))))))))))))))))) (results_single rfl (Vals.at (hS.get 0 rfl) .nil)) hS.nodef ⟨rfl, hBw3003_w⟩
        rw [if_neg c2] at H
        obtain rfl := Option.some.inj H
        have hBwL3_wL3 := Below.refl wL3.heap.size wL3
        refine hK2001 _ _ ?_
        (try clear hK2001 K2001)
        refine wp_seq_k (fun K3001 hK3001 => ?_)
        refine reg_seq (N := 136) (bs := [(1, .pointer (some ⟨gL3_1, 0, none⟩)), (3, .pointer (some ⟨gL3_3, 0, none⟩)), (4, .bool x3_4)]) (I := fun x => Below w.heap.size w x ∧ Below wL3.heap.size wL3 x) (ps := [VB x3_4, VB x3_4, VU, VU, VU, VB false, VB false]) (by kernel_rfl) ?_ ?_ rfl hS ⟨hBwL3_w, hBwL3_wL3⟩ ?_ ?_
        · exact fun x y hI hb => ⟨below_step hI.1 hb, below_step hI.2 hb⟩
        · exact .v (.v (.v (.v (.v (.v (.v (.nil)))))))
        · refine .ms 2 rfl rfl rfl ?_
          refine .mv 0 rfl rfl rfl rfl ?_
          iterate 3 refine .sn 1 131 rfl rfl rfl rfl rfl ((Bool.eq_false_iff.2 c2)) ?_
          refine .pf 1 rfl rfl rfl rfl ((Bool.eq_false_iff.2 c2)) (fun _ => rfl) ?_
          refine .asg 5 rfl rfl rfl rfl ?_
          exact .nil
        clear hS
        intro at3002 w3003 hS hI hp
        have hBw3003_w := hI.1
        have hBw3003_wL3 := hI.2
        replace hS := hS.nil
        have hv2 : sl _ 2 = .bool false := hp 6 (by decide)
        have hBw3003_w3003 := Below.refl w3003.heap.size w3003
        have hS := hS.cons hv2
        clear hp hI hv2
        refine hK3001 _ _ ?_
        (try clear hK3001 K3001)
        refine wp_ret ?_
        (try simp only [Exit.then, Exit.inBlock, Exit.jump, Exit.noGoto])
        exact bodyPost_ret (v := .bool false) (results_single rfl (Vals.at (hS.get 0 rfl) .nil)) hS.nodef ⟨rfl, hBw3003_w⟩
      by_cases c2 : x2_1_0 = 11
      rotate_left
      · rw [if_neg c2] at H
        by_cases c3 : x2_1_0 = 13
        rotate_left
        · rw [if_neg c3] at H
          refine wp_seq_k (fun K2002 hK2002 => ?_)
          refine reg_seq (N := 136) (bs := [(1, .pointer (some ⟨gL2_1, 0, none⟩)), (3, .pointer (some ⟨gL2_3, 0, none⟩)), (4, .bool x2_4)]) (I := fun x => Below w.heap.size w x ∧ Below wL2.heap.size wL2 x) (ps := [VP gL2_1 0, VI x2_1_0]) (by kernel_rfl) ?_ ?_ rfl hS ⟨hBwL2_w, hBwL2_wL2⟩ ?_ ?_
          · exact fun x y hI hb => ⟨below_step hI.1 hb, below_step hI.2 hb⟩
          · exact .v (.v (.nil))
          · refine .on rfl (fun a w hS hI hp => does_val (x_fieldE (b := 0) rfl (hS.get 0 rfl) Try.underlying29 rfl rfl (by kernel_rfl)) rfl) ?_
            refine .on rfl (fun a w hS hI hp => does_val (x_load1 (d := .int .i64) rfl (hp.V 0 rfl rfl) (by kernel_rfl) rfl ((blk_cell (((hI.2).block gL2_1 (blk_lt hbxLgL2_1)).trans hbxLgL2_1) 0).trans rfl)) rfl) ?_
            exact .nil
          clear hS
          intro at2003 w2004 hS hI hp
          have hBw2004_w := hI.1
          have hBw2004_wL2 := hI.2
          have hv48 : sl _ 48 = .int .i64 x2_1_0 := hp 1 (by decide)
          have hBw2004_w2004 := Below.refl w2004.heap.size w2004
          have hS := hS.cons hv48
          clear hp hI hv48
          refine hK2002 _ _ ?_
          (try clear hK2002 K2002)
          refine wp_block ?_
          refine wp_seq_k (fun K2005 hK2005 => ?_)
          refine reg_seq (N := 136) (bs := [(48, .int .i64 x2_1_0), (1, .pointer (some ⟨gL2_1, 0, none⟩)), (3, .pointer (some ⟨gL2_3, 0, none⟩)), (4, .bool x2_4)]) (I := fun x => Below w.heap.size w x ∧ Below wL2.heap.size wL2 x ∧ Below w2004.heap.size w2004 x) (ps := [VB (decide (x2_1_0 = 11)), VB (decide (x2_1_0 = 11))]) (by kernel_rfl) ?_ ?_ rfl hS ⟨hBw2004_w, hBw2004_wL2, hBw2004_w2004⟩ ?_ ?_
          · exact fun x y hI hb => ⟨below_step hI.1 hb, below_step hI.2.1 hb, below_step hI.2.2 hb⟩
          · exact .v (.v (.nil))
          · refine .on rfl (fun a w hS hI hp => does_val (x_bin rfl (hS.get 0 rfl) (rfl) (b_eql _ _ _ _ _ _)) rfl) ?_
            refine .asg 0 rfl rfl rfl rfl ?_
            exact .nil
          clear hS
          intro at2006 w2007 hS hI hp
          have hBw2007_w := hI.1
          have hBw2007_wL2 := hI.2.1
          have hBw2007_w2004 := hI.2.2
          have hv49 : sl _ 49 = .bool (decide (x2_1_0 = 11)) := hp 1 (by decide)
          have hBw2007_w2007 := Below.refl w2007.heap.size w2007
          have hS := hS.cons hv49
          clear hp hI hv49
          refine hK2005 _ _ ?_
          (try clear hK2005 K2005)
          refine wp_cond_false ((hS.get 0 rfl).trans (bF (decide_eq_false c2))) ?_
          refine wp_seq_k (fun K2008 hK2008 => ?_)
          refine reg_seq (N := 136) (bs := [(49, .bool (decide (x2_1_0 = 11))), (48, .int .i64 x2_1_0), (1, .pointer (some ⟨gL2_1, 0, none⟩)), (3, .pointer (some ⟨gL2_3, 0, none⟩)), (4, .bool x2_4)]) (I := fun x => Below w.heap.size w x ∧ Below wL2.heap.size wL2 x ∧ Below w2007.heap.size w2007 x) (ps := [VB (decide (x2_1_0 = 13)), VB (decide (x2_1_0 = 13))]) (by kernel_rfl) ?_ ?_ rfl hS ⟨hBw2007_w, hBw2007_wL2, hBw2007_w2007⟩ ?_ ?_
          · exact fun x y hI hb => ⟨below_step hI.1 hb, below_step hI.2.1 hb, below_step hI.2.2 hb⟩
          · exact .v (.v (.nil))
          · refine .on rfl (fun a w hS hI hp => does_val (x_bin rfl (hS.get 1 rfl) (rfl) (b_eql _ _ _ _ _ _)) rfl) ?_
            refine .asg 0 rfl rfl rfl rfl ?_
            exact .nil
          clear hS
          intro at2009 w2010 hS hI hp
          have hBw2010_w := hI.1
          have hBw2010_wL2 := hI.2.1
          have hBw2010_w2007 := hI.2.2
          replace hS := (((hS.nil).cons (hS.get 4 rfl)).cons (hS.get 3 rfl)).cons (hS.get 2 rfl)
          have hv103 : sl _ 103 = .bool (decide (x2_1_0 = 13)) := hp 1 (by decide)
          have hBw2010_w2010 := Below.refl w2010.heap.size w2010
          have hS := hS.cons hv103
          clear hp hI hv103
          refine hK2008 _ _ ?_
          (try clear hK2008 K2008)
          refine wp_cond_false ((hS.get 0 rfl).trans (bF (decide_eq_false c3))) ?_
          refine wp_skip ?_
          replace hS := (((hS.nil).cons (hS.get 3 rfl)).cons (hS.get 2 rfl)).cons (hS.get 1 rfl)
          (try simp only [Exit.then, Exit.inBlock])
          exact J3 _ _ x2_1_0 x2_1_1 x2_1_2 x2_1_3 x2_1_4 x2_1_5 x2_1_6 x2_1_7 x2_1_8 x2_1_9 x2_1_10 x2_1_11 x2_1_12 x2_1_13 x2_1_14 x2_1_15 x2_1_16 x2_1_17 x2_1_18 x2_1_19 x2_1_20 x2_1_21 x2_1_22 gL2_1 x2_3_0 x2_3_1 x2_3_2 x2_3_3 x2_3_4 x2_3_5 x2_3_6 x2_3_7 x2_3_8 x2_3_9 x2_3_10 x2_3_11 x2_3_12 x2_3_13 x2_3_14 x2_3_15 x2_3_16 x2_3_17 x2_3_18 x2_3_19 x2_3_20 x2_3_21 x2_3_22 gL2_3 x2_4 H hS hBw2010_w hgeLgL2_1 ((hBw2010_wL2.block gL2_1 (blk_lt hbxLgL2_1)).trans hbxLgL2_1) hgeLgL2_3 ((hBw2010_wL2.block gL2_3 (blk_lt hbxLgL2_3)).trans hbxLgL2_3) hneL2_3_1
        rw [if_pos c3] at H
        refine wp_seq_k (fun K2002 hK2002 => ?_)
        refine reg_seq (N := 136) (bs := [(1, .pointer (some ⟨gL2_1, 0, none⟩)), (3, .pointer (some ⟨gL2_3, 0, none⟩)), (4, .bool x2_4)]) (I := fun x => Below w.heap.size w x ∧ Below wL2.heap.size wL2 x) (ps := [VP gL2_1 0, VI x2_1_0]) (by kernel_rfl) ?_ ?_ rfl hS ⟨hBwL2_w, hBwL2_wL2⟩ ?_ ?_
        · exact fun x y hI hb => ⟨below_step hI.1 hb, below_step hI.2 hb⟩
        · exact .v (.v (.nil))
        · refine .on rfl (fun a w hS hI hp => does_val (x_fieldE (b := 0) rfl (hS.get 0 rfl) Try.underlying29 rfl rfl (by kernel_rfl)) rfl) ?_
          refine .on rfl (fun a w hS hI hp => does_val (x_load1 (d := .int .i64) rfl (hp.V 0 rfl rfl) (by kernel_rfl) rfl ((blk_cell (((hI.2).block gL2_1 (blk_lt hbxLgL2_1)).trans hbxLgL2_1) 0).trans rfl)) rfl) ?_
          exact .nil
        clear hS
        intro at2003 w2004 hS hI hp
        have hBw2004_w := hI.1
        have hBw2004_wL2 := hI.2
        have hv48 : sl _ 48 = .int .i64 x2_1_0 := hp 1 (by decide)
        have hBw2004_w2004 := Below.refl w2004.heap.size w2004
        have hS := hS.cons hv48
        clear hp hI hv48
        refine hK2002 _ _ ?_
        (try clear hK2002 K2002)
        refine wp_block ?_
        refine wp_seq_k (fun K2005 hK2005 => ?_)
        refine reg_seq (N := 136) (bs := [(48, .int .i64 x2_1_0), (1, .pointer (some ⟨gL2_1, 0, none⟩)), (3, .pointer (some ⟨gL2_3, 0, none⟩)), (4, .bool x2_4)]) (I := fun x => Below w.heap.size w x ∧ Below wL2.heap.size wL2 x ∧ Below w2004.heap.size w2004 x) (ps := [VB (decide (x2_1_0 = 11)), VB (decide (x2_1_0 = 11))]) (by kernel_rfl) ?_ ?_ rfl hS ⟨hBw2004_w, hBw2004_wL2, hBw2004_w2004⟩ ?_ ?_
        · exact fun x y hI hb => ⟨below_step hI.1 hb, below_step hI.2.1 hb, below_step hI.2.2 hb⟩
        · exact .v (.v (.nil))
        · refine .on rfl (fun a w hS hI hp => does_val (x_bin rfl (hS.get 0 rfl) (rfl) (b_eql _ _ _ _ _ _)) rfl) ?_
          refine .asg 0 rfl rfl rfl rfl ?_
          exact .nil
        clear hS
        intro at2006 w2007 hS hI hp
        have hBw2007_w := hI.1
        have hBw2007_wL2 := hI.2.1
        have hBw2007_w2004 := hI.2.2
        have hv49 : sl _ 49 = .bool (decide (x2_1_0 = 11)) := hp 1 (by decide)
        have hBw2007_w2007 := Below.refl w2007.heap.size w2007
        have hS := hS.cons hv49
        clear hp hI hv49
        refine hK2005 _ _ ?_
        (try clear hK2005 K2005)
        refine wp_cond_false ((hS.get 0 rfl).trans (bF (decide_eq_false c2))) ?_
        refine wp_seq_k (fun K2008 hK2008 => ?_)
        refine reg_seq (N := 136) (bs := [(49, .bool (decide (x2_1_0 = 11))), (48, .int .i64 x2_1_0), (1, .pointer (some ⟨gL2_1, 0, none⟩)), (3, .pointer (some ⟨gL2_3, 0, none⟩)), (4, .bool x2_4)]) (I := fun x => Below w.heap.size w x ∧ Below wL2.heap.size wL2 x ∧ Below w2007.heap.size w2007 x) (ps := [VB (decide (x2_1_0 = 13)), VB (decide (x2_1_0 = 13))]) (by kernel_rfl) ?_ ?_ rfl hS ⟨hBw2007_w, hBw2007_wL2, hBw2007_w2007⟩ ?_ ?_
        · exact fun x y hI hb => ⟨below_step hI.1 hb, below_step hI.2.1 hb, below_step hI.2.2 hb⟩
        · exact .v (.v (.nil))
        · refine .on rfl (fun a w hS hI hp => does_val (x_bin rfl (hS.get 1 rfl) (rfl) (b_eql _ _ _ _ _ _)) rfl) ?_
          refine .asg 0 rfl rfl rfl rfl ?_
          exact .nil
        clear hS
        intro at2009 w2010 hS hI hp
        have hBw2010_w := hI.1
        have hBw2010_wL2 := hI.2.1
        have hBw2010_w2007 := hI.2.2
        replace hS := (((hS.nil).cons (hS.get 4 rfl)).cons (hS.get 3 rfl)).cons (hS.get 2 rfl)
        have hv103 : sl _ 103 = .bool (decide (x2_1_0 = 13)) := hp 1 (by decide)
        have hBw2010_w2010 := Below.refl w2010.heap.size w2010
        have hS := hS.cons hv103
        clear hp hI hv103
        refine hK2008 _ _ ?_
        (try clear hK2008 K2008)
        refine wp_cond_true ((hS.get 0 rfl).trans (bT (decide_eq_true c3))) ?_
        refine wp_seq_k (fun K2011 hK2011 => ?_)
        have J5 : ∀ (aL5 : Act) (wL5 : World) (x5_1_0 x5_1_1 x5_1_2 x5_1_3 x5_1_4 x5_1_5 x5_1_6 x5_1_7 x5_1_8 x5_1_9 x5_1_10 x5_1_11 x5_1_12 x5_1_13 x5_1_14 x5_1_15 x5_1_16 x5_1_17 x5_1_18 x5_1_19 x5_1_20 x5_1_21 x5_1_22 : Int) (gL5_1 : Nat) (x5_3_0 x5_3_1 x5_3_2 x5_3_3 x5_3_4 x5_3_5 x5_3_6 x5_3_7 x5_3_8 x5_3_9 x5_3_10 x5_3_11 x5_3_12 x5_3_13 x5_3_14 x5_3_15 x5_3_16 x5_3_17 x5_3_18 x5_3_19 x5_3_20 x5_3_21 x5_3_22 : Int) (gL5_3 : Nat) (x5_4 : Bool), carillonref07_Check.j5 k x5_1_0 x5_1_1 x5_1_2 x5_1_3 x5_1_4 x5_1_5 x5_1_6 x5_1_7 x5_1_8 x5_1_9 x5_1_10 x5_1_11 x5_1_12 x5_1_13 x5_1_14 x5_1_15 x5_1_16 x5_1_17 x5_1_18 x5_1_19 x5_1_20 x5_1_21 x5_1_22 x5_3_0 x5_3_1 x5_3_2 x5_3_3 x5_3_4 x5_3_5 x5_3_6 x5_3_7 x5_3_8 x5_3_9 x5_3_10 x5_3_11 x5_3_12 x5_3_13 x5_3_14 x5_3_15 x5_3_16 x5_3_17 x5_3_18 x5_3_19 x5_3_20 x5_3_21 x5_3_22 x5_4 = some r → St 136 [(1, .pointer (some ⟨gL5_1, 0, none⟩)), (3, .pointer (some ⟨gL5_3, 0, none⟩)), (4, .bool x5_4)] aL5 → Below w.heap.size w wL5 → w.heap.size ≤ gL5_1 → wL5.heap[gL5_1]? = some (.cells (carillonref07_Check.c1 x5_1_0 x5_1_1 x5_1_2 x5_1_3 x5_1_4 x5_1_5 x5_1_6 x5_1_7 x5_1_8 x5_1_9 x5_1_10 x5_1_11 x5_1_12 x5_1_13 x5_1_14 x5_1_15 x5_1_16 x5_1_17 x5_1_18 x5_1_19 x5_1_20 x5_1_21 x5_1_22) 29 (0, 0)) → w.heap.size ≤ gL5_3 → wL5.heap[gL5_3]? = some (.cells (carillonref07_Check.c1 x5_3_0 x5_3_1 x5_3_2 x5_3_3 x5_3_4 x5_3_5 x5_3_6 x5_3_7 x5_3_8 x5_3_9 x5_3_10 x5_3_11 x5_3_12 x5_3_13 x5_3_14 x5_3_15 x5_3_16 x5_3_17 x5_3_18 x5_3_19 x5_3_20 x5_3_21 x5_3_22) 29 (0, 0)) → gL5_3 ≠ gL5_1 → K2011 aL5 wL5 := by
          intro aL5 wL5 x5_1_0 x5_1_1 x5_1_2 x5_1_3 x5_1_4 x5_1_5 x5_1_6 x5_1_7 x5_1_8 x5_1_9 x5_1_10 x5_1_11 x5_1_12 x5_1_13 x5_1_14 x5_1_15 x5_1_16 x5_1_17 x5_1_18 x5_1_19 x5_1_20 x5_1_21 x5_1_22 gL5_1 x5_3_0 x5_3_1 x5_3_2 x5_3_3 x5_3_4 x5_3_5 x5_3_6 x5_3_7 x5_3_8 x5_3_9 x5_3_10 x5_3_11 x5_3_12 x5_3_13 x5_3_14 x5_3_15 x5_3_16 x5_3_17 x5_3_18 x5_3_19 x5_3_20 x5_3_21 x5_3_22 gL5_3 x5_4 H hS hBwL5_w hgeLgL5_1 hbxLgL5_1 hgeLgL5_3 hbxLgL5_3 hneL5_3_1
          unfold carillonref07_Check.j5 at H
          (try dsimp only at H)
          by_cases c4 : x5_4 = true
          rotate_left
          · rw [if_neg c4] at H
            have hBwL5_wL5 := Below.refl wL5.heap.size wL5
            refine hK2011 _ _ ?_
            (try clear hK2011 K2011)
            refine reg_seq_tail 16 (N := 136) (bs := [(1, .pointer (some ⟨gL5_1, 0, none⟩)), (3, .pointer (some ⟨gL5_3, 0, none⟩)), (4, .bool x5_4)]) (I := fun x => Below w.heap.size w x ∧ Below wL5.heap.size wL5 x) (ps := [VB x5_4, VB x5_4, VU, VU, VU, VB false, VB false, VU, VU, VU, VB false, VB false, VU, VU, VU, VB false]) (by kernel_rfl) ?_ ?_ rfl hS ⟨hBwL5_w, hBwL5_wL5⟩ ?_ ?_
            · exact fun x y hI hb => ⟨below_step hI.1 hb, below_step hI.2 hb⟩
            · exact .v (.v (.v (.v (.v (.v (.v (.v (.v (.v (.v (.v (.v (.v (.v (.v (.nil))))))))))))))))
            · refine .ms 2 rfl rfl rfl ?_
              refine .mv 0 rfl rfl rfl rfl ?_
              iterate 3 refine .sn 1 115 rfl rfl rfl rfl rfl ((Bool.eq_false_iff.2 c4)) ?_
              refine .pf 1 rfl rfl rfl rfl ((Bool.eq_false_iff.2 c4)) (fun _ => rfl) ?_
              refine .mv 5 rfl rfl rfl rfl ?_
              iterate 3 refine .sn 6 120 rfl rfl rfl rfl rfl rfl ?_
              refine .pf 6 rfl rfl rfl rfl rfl (fun _ => rfl) ?_
              refine .mv 10 rfl rfl rfl rfl ?_
              iterate 3 refine .sn 11 125 rfl rfl rfl rfl rfl rfl ?_
              refine .pf 11 rfl rfl rfl rfl rfl (fun _ => rfl) ?_
              exact .nil
            clear hS
            intro at5001 w5002 hS hI hp
            have hBw5002_w := hI.1
            have hBw5002_wL5 := hI.2
            have hv129 : sl _ 129 = .bool false := hp 15 (by decide)
            have hBw5002_w5002 := Below.refl w5002.heap.size w5002
            have hS := hS.cons hv129
            clear hp hI hv129
            show wpList _ _ _ [_] _ _
            refine list_step rfl (R := fun v w' => Below _ _ w' ∧ (VB false) v w') (does_val (x_assign rfl (hS.get 0 rfl)) rfl) ?_
            rintro vw5003 w5003 ⟨hb, he⟩
            have hBw5003_w := below_step hBw5002_w hb
            have hBw5003_wL5 := below_step hBw5002_wL5 hb
            have hBw5003_w5002 := below_step hBw5002_w5002 hb
            have hBw5003_w5003 := Below.refl w5003.heap.size w5003
            obtain rfl : vw5003 = .bool false := he
            replace hS := (((hS.nil).cons (hS.get 2 rfl)).cons (hS.get 1 rfl)).cons (hS.get 0 rfl)
            refine hS.next (v := .bool false) (d := 4) rfl (by decide) (by rfl) ?_
            clear hS
            intro at5004 hS
            refine wpList_nil ?_
            replace hS := (((hS.nil).cons (hS.get 0 rfl)).cons (hS.get 3 rfl)).cons (hS.get 2 rfl)
            (try simp only [Exit.then, Exit.inBlock])
            exact J3 _ _ x5_1_0 x5_1_1 x5_1_2 x5_1_3 x5_1_4 x5_1_5 x5_1_6 x5_1_7 x5_1_8 x5_1_9 x5_1_10 x5_1_11 x5_1_12 x5_1_13 x5_1_14 x5_1_15 x5_1_16 x5_1_17 x5_1_18 x5_1_19 x5_1_20 x5_1_21 x5_1_22 gL5_1 x5_3_0 x5_3_1 x5_3_2 x5_3_3 x5_3_4 x5_3_5 x5_3_6 x5_3_7 x5_3_8 x5_3_9 x5_3_10 x5_3_11 x5_3_12 x5_3_13 x5_3_14 x5_3_15 x5_3_16 x5_3_17 x5_3_18 x5_3_19 x5_3_20 x5_3_21 x5_3_22 gL5_3 false H hS hBw5003_w hgeLgL5_1 ((hBw5003_wL5.block gL5_1 (blk_lt hbxLgL5_1)).trans hbxLgL5_1) hgeLgL5_3 ((hBw5003_wL5.block gL5_3 (blk_lt hbxLgL5_3)).trans hbxLgL5_3) hneL5_3_1
          rw [if_pos c4] at H
          obtain ⟨t5001, At5001, H⟩ := Option.bind_eq_some_iff.mp H
          by_cases c5 : t5001 = true
          rotate_left
          · rw [if_neg c5] at H
            have hBwL5_wL5 := Below.refl wL5.heap.size wL5
            refine hK2011 _ _ ?_
            (try clear hK2011 K2011)
            refine reg_seq_tail 16 (N := 136) (bs := [(1, .pointer (some ⟨gL5_1, 0, none⟩)), (3, .pointer (some ⟨gL5_3, 0, none⟩)), (4, .bool x5_4)]) (I := fun x => Below w.heap.size w x ∧ Below wL5.heap.size wL5 x) (ps := [VB x5_4, VB x5_4, VP gL5_1 20, VI x5_1_20, VB t5001, VB t5001, VB t5001, VU, VU, VU, VB false, VB false, VU, VU, VU, VB false]) (by kernel_rfl) ?_ ?_ rfl hS ⟨hBwL5_w, hBwL5_wL5⟩ ?_ ?_
            · exact fun x y hI hb => ⟨below_step hI.1 hb, below_step hI.2 hb⟩
            · exact .v (.v (.v (.v (.v (.v (.v (.v (.v (.v (.v (.v (.v (.v (.v (.v (.nil))))))))))))))))
            · refine .ms 2 rfl rfl rfl ?_
              refine .mv 0 rfl rfl rfl rfl ?_
              refine .oy 1 115 rfl rfl rfl rfl rfl c4 (fun a w hS hI hp => does_val (x_fieldE (b := 0) rfl (hS.get 0 rfl) Try.underlying29 rfl rfl (by kernel_rfl)) rfl) ?_
              refine .oy 1 115 rfl rfl rfl rfl rfl c4 (fun a w hS hI hp => does_val (x_load1 (d := .int .i64) rfl (hp.V 2 rfl rfl) (by kernel_rfl) rfl ((blk_cell (((hI.2).block gL5_1 (blk_lt hbxLgL5_1)).trans hbxLgL5_1) 20).trans rfl)) rfl) ?_
              refine .oy 1 115 rfl rfl rfl rfl rfl c4 (fun a w hS hI hp => does_call (by kernel_rfl) (ar3 (hp.V 3 rfl rfl) (rfl) (rfl)) ((carillonref05_In.calls x5_1_20 0 255 t5001 _  At5001).mono fun _ _ h => ⟨_, h.1, h.2.below, rfl⟩)) ?_
              refine .pt 1 4 rfl rfl rfl rfl c4 rfl rfl ?_
              refine .mv 5 rfl rfl rfl rfl ?_
              iterate 3 refine .sn 6 120 rfl rfl rfl rfl rfl ((Bool.eq_false_iff.2 c5)) ?_
              refine .pf 6 rfl rfl rfl rfl ((Bool.eq_false_iff.2 c5)) (fun _ => rfl) ?_
              refine .mv 10 rfl rfl rfl rfl ?_
              iterate 3 refine .sn 11 125 rfl rfl rfl rfl rfl rfl ?_
              refine .pf 11 rfl rfl rfl rfl rfl (fun _ => rfl) ?_
              exact .nil
            clear hS
            intro at5002 w5003 hS hI hp
            have hBw5003_w := hI.1
            have hBw5003_wL5 := hI.2
            have hv129 : sl _ 129 = .bool false := hp 15 (by decide)
            have hBw5003_w5003 := Below.refl w5003.heap.size w5003
            have hS := hS.cons hv129
            clear hp hI hv129
            show wpList _ _ _ [_] _ _
            refine list_step rfl (R := fun v w' => Below _ _ w' ∧ (VB false) v w') (does_val (x_assign rfl (hS.get 0 rfl)) rfl) ?_
            rintro vw5004 w5004 ⟨hb, he⟩
            have hBw5004_w := below_step hBw5003_w hb
            have hBw5004_wL5 := below_step hBw5003_wL5 hb
            have hBw5004_w5003 := below_step hBw5003_w5003 hb
            have hBw5004_w5004 := Below.refl w5004.heap.size w5004
            obtain rfl : vw5004 = .bool false := he
            replace hS := (((hS.nil).cons (hS.get 2 rfl)).cons (hS.get 1 rfl)).cons (hS.get 0 rfl)
            refine hS.next (v := .bool false) (d := 4) rfl (by decide) (by rfl) ?_
            clear hS
            intro at5005 hS
            refine wpList_nil ?_
            replace hS := (((hS.nil).cons (hS.get 0 rfl)).cons (hS.get 3 rfl)).cons (hS.get 2 rfl)
            (try simp only [Exit.then, Exit.inBlock])
            exact J3 _ _ x5_1_0 x5_1_1 x5_1_2 x5_1_3 x5_1_4 x5_1_5 x5_1_6 x5_1_7 x5_1_8 x5_1_9 x5_1_10 x5_1_11 x5_1_12 x5_1_13 x5_1_14 x5_1_15 x5_1_16 x5_1_17 x5_1_18 x5_1_19 x5_1_20 x5_1_21 x5_1_22 gL5_1 x5_3_0 x5_3_1 x5_3_2 x5_3_3 x5_3_4 x5_3_5 x5_3_6 x5_3_7 x5_3_8 x5_3_9 x5_3_10 x5_3_11 x5_3_12 x5_3_13 x5_3_14 x5_3_15 x5_3_16 x5_3_17 x5_3_18 x5_3_19 x5_3_20 x5_3_21 x5_3_22 gL5_3 false H hS hBw5004_w hgeLgL5_1 ((hBw5004_wL5.block gL5_1 (blk_lt hbxLgL5_1)).trans hbxLgL5_1) hgeLgL5_3 ((hBw5004_wL5.block gL5_3 (blk_lt hbxLgL5_3)).trans hbxLgL5_3) hneL5_3_1
          rw [if_pos c5] at H
          obtain ⟨t5002, At5002, H⟩ := Option.bind_eq_some_iff.mp H
          by_cases c6 : t5002 = true
          rotate_left
          · rw [if_neg c6] at H
            have hBwL5_wL5 := Below.refl wL5.heap.size wL5
            refine hK2011 _ _ ?_
            (try clear hK2011 K2011)
            refine reg_seq_tail 16 (N := 136) (bs := [(1, .pointer (some ⟨gL5_1, 0, none⟩)), (3, .pointer (some ⟨gL5_3, 0, none⟩)), (4, .bool x5_4)]) (I := fun x => Below w.heap.size w x ∧ Below wL5.heap.size wL5 x) (ps := [VB x5_4, VB x5_4, VP gL5_1 20, VI x5_1_20, VB t5001, VB t5001, VB t5001, VP gL5_1 21, VI x5_1_21, VB t5002, VB t5002, VB t5002, VU, VU, VU, VB false]) (by kernel_rfl) ?_ ?_ rfl hS ⟨hBwL5_w, hBwL5_wL5⟩ ?_ ?_
            · exact fun x y hI hb => ⟨below_step hI.1 hb, below_step hI.2 hb⟩
            · exact .v (.v (.v (.v (.v (.v (.v (.v (.v (.v (.v (.v (.v (.v (.v (.v (.nil))))))))))))))))
            · refine .ms 2 rfl rfl rfl ?_
              refine .mv 0 rfl rfl rfl rfl ?_
              refine .oy 1 115 rfl rfl rfl rfl rfl c4 (fun a w hS hI hp => does_val (x_fieldE (b := 0) rfl (hS.get 0 rfl) Try.underlying29 rfl rfl (by kernel_rfl)) rfl) ?_
              refine .oy 1 115 rfl rfl rfl rfl rfl c4 (fun a w hS hI hp => does_val (x_load1 (d := .int .i64) rfl (hp.V 2 rfl rfl) (by kernel_rfl) rfl ((blk_cell (((hI.2).block gL5_1 (blk_lt hbxLgL5_1)).trans hbxLgL5_1) 20).trans rfl)) rfl) ?_
              refine .oy 1 115 rfl rfl rfl rfl rfl c4 (fun a w hS hI hp => does_call (by kernel_rfl) (ar3 (hp.V 3 rfl rfl) (rfl) (rfl)) ((carillonref05_In.calls x5_1_20 0 255 t5001 _  At5001).mono fun _ _ h => ⟨_, h.1, h.2.below, rfl⟩)) ?_
              refine .pt 1 4 rfl rfl rfl rfl c4 rfl rfl ?_
              refine .mv 5 rfl rfl rfl rfl ?_
              refine .oy 6 120 rfl rfl rfl rfl rfl c5 (fun a w hS hI hp => does_val (x_fieldE (b := 0) rfl (hS.get 0 rfl) Try.underlying29 rfl rfl (by kernel_rfl)) rfl) ?_
              refine .oy 6 120 rfl rfl rfl rfl rfl c5 (fun a w hS hI hp => does_val (x_load1 (d := .int .i64) rfl (hp.V 7 rfl rfl) (by kernel_rfl) rfl ((blk_cell (((hI.2).block gL5_1 (blk_lt hbxLgL5_1)).trans hbxLgL5_1) 21).trans rfl)) rfl) ?_
              refine .oy 6 120 rfl rfl rfl rfl rfl c5 (fun a w hS hI hp => does_call (by kernel_rfl) (ar3 (hp.V 8 rfl rfl) (rfl) (rfl)) ((carillonref05_In.calls x5_1_21 0 255 t5002 _  At5002).mono fun _ _ h => ⟨_, h.1, h.2.below, rfl⟩)) ?_
              refine .pt 6 9 rfl rfl rfl rfl c5 rfl rfl ?_
              refine .mv 10 rfl rfl rfl rfl ?_
              iterate 3 refine .sn 11 125 rfl rfl rfl rfl rfl ((Bool.eq_false_iff.2 c6)) ?_
              refine .pf 11 rfl rfl rfl rfl ((Bool.eq_false_iff.2 c6)) (fun _ => rfl) ?_
              exact .nil
            clear hS
            intro at5003 w5004 hS hI hp
            have hBw5004_w := hI.1
            have hBw5004_wL5 := hI.2
            have hv129 : sl _ 129 = .bool false := hp 15 (by decide)
            have hBw5004_w5004 := Below.refl w5004.heap.size w5004
            have hS := hS.cons hv129
            clear hp hI hv129
            show wpList _ _ _ [_] _ _
            refine list_step rfl (R := fun v w' => Below _ _ w' ∧ (VB false) v w') (does_val (x_assign rfl (hS.get 0 rfl)) rfl) ?_
            rintro vw5005 w5005 ⟨hb, he⟩
            have hBw5005_w := below_step hBw5004_w hb
            have hBw5005_wL5 := below_step hBw5004_wL5 hb
            have hBw5005_w5004 := below_step hBw5004_w5004 hb
            have hBw5005_w5005 := Below.refl w5005.heap.size w5005
            obtain rfl : vw5005 = .bool false := he
            replace hS := (((hS.nil).cons (hS.get 2 rfl)).cons (hS.get 1 rfl)).cons (hS.get 0 rfl)
            refine hS.next (v := .bool false) (d := 4) rfl (by decide) (by rfl) ?_
            clear hS
            intro at5006 hS
            refine wpList_nil ?_
            replace hS := (((hS.nil).cons (hS.get 0 rfl)).cons (hS.get 3 rfl)).cons (hS.get 2 rfl)
            (try simp only [Exit.then, Exit.inBlock])
            exact J3 _ _ x5_1_0 x5_1_1 x5_1_2 x5_1_3 x5_1_4 x5_1_5 x5_1_6 x5_1_7 x5_1_8 x5_1_9 x5_1_10 x5_1_11 x5_1_12 x5_1_13 x5_1_14 x5_1_15 x5_1_16 x5_1_17 x5_1_18 x5_1_19 x5_1_20 x5_1_21 x5_1_22 gL5_1 x5_3_0 x5_3_1 x5_3_2 x5_3_3 x5_3_4 x5_3_5 x5_3_6 x5_3_7 x5_3_8 x5_3_9 x5_3_10 x5_3_11 x5_3_12 x5_3_13 x5_3_14 x5_3_15 x5_3_16 x5_3_17 x5_3_18 x5_3_19 x5_3_20 x5_3_21 x5_3_22 gL5_3 false H hS hBw5005_w hgeLgL5_1 ((hBw5005_wL5.block gL5_1 (blk_lt hbxLgL5_1)).trans hbxLgL5_1) hgeLgL5_3 ((hBw5005_wL5.block gL5_3 (blk_lt hbxLgL5_3)).trans hbxLgL5_3) hneL5_3_1
          rw [if_pos c6] at H
          obtain ⟨t5003, At5003, H⟩ := Option.bind_eq_some_iff.mp H
          have hBwL5_wL5 := Below.refl wL5.heap.size wL5
          refine hK2011 _ _ ?_
          (try clear hK2011 K2011)
          refine reg_seq_tail 16 (N := 136) (bs := [(1, .pointer (some ⟨gL5_1, 0, none⟩)), (3, .pointer (some ⟨gL5_3, 0, none⟩)), (4, .bool x5_4)]) (I := fun x => Below w.heap.size w x ∧ Below wL5.heap.size wL5 x) (ps := [VB x5_4, VB x5_4, VP gL5_1 20, VI x5_1_20, VB t5001, VB t5001, VB t5001, VP gL5_1 21, VI x5_1_21, VB t5002, VB t5002, VB t5002, VP gL5_1 22, VI x5_1_22, VB t5003, VB t5003]) (by kernel_rfl) ?_ ?_ rfl hS ⟨hBwL5_w, hBwL5_wL5⟩ ?_ ?_
          · exact fun x y hI hb => ⟨below_step hI.1 hb, below_step hI.2 hb⟩
          · exact .v (.v (.v (.v (.v (.v (.v (.v (.v (.v (.v (.v (.v (.v (.v (.v (.nil))))))))))))))))
          · refine .ms 2 rfl rfl rfl ?_
            refine .mv 0 rfl rfl rfl rfl ?_
            refine .oy 1 115 rfl rfl rfl rfl rfl c4 (fun a w hS hI hp => does_val (x_fieldE (b := 0) rfl (hS.get 0 rfl) Try.underlying29 rfl rfl (by kernel_rfl)) rfl) ?_
            refine .oy 1 115 rfl rfl rfl rfl rfl c4 (fun a w hS hI hp => does_val (x_load1 (d := .int .i64) rfl (hp.V 2 rfl rfl) (by kernel_rfl) rfl ((blk_cell (((hI.2).block gL5_1 (blk_lt hbxLgL5_1)).trans hbxLgL5_1) 20).trans rfl)) rfl) ?_
            refine .oy 1 115 rfl rfl rfl rfl rfl c4 (fun a w hS hI hp => does_call (by kernel_rfl) (ar3 (hp.V 3 rfl rfl) (rfl) (rfl)) ((carillonref05_In.calls x5_1_20 0 255 t5001 _  At5001).mono fun _ _ h => ⟨_, h.1, h.2.below, rfl⟩)) ?_
            refine .pt 1 4 rfl rfl rfl rfl c4 rfl rfl ?_
            refine .mv 5 rfl rfl rfl rfl ?_
            refine .oy 6 120 rfl rfl rfl rfl rfl c5 (fun a w hS hI hp => does_val (x_fieldE (b := 0) rfl (hS.get 0 rfl) Try.underlying29 rfl rfl (by kernel_rfl)) rfl) ?_
            refine .oy 6 120 rfl rfl rfl rfl rfl c5 (fun a w hS hI hp => does_val (x_load1 (d := .int .i64) rfl (hp.V 7 rfl rfl) (by kernel_rfl) rfl ((blk_cell (((hI.2).block gL5_1 (blk_lt hbxLgL5_1)).trans hbxLgL5_1) 21).trans rfl)) rfl) ?_
            refine .oy 6 120 rfl rfl rfl rfl rfl c5 (fun a w hS hI hp => does_call (by kernel_rfl) (ar3 (hp.V 8 rfl rfl) (rfl) (rfl)) ((carillonref05_In.calls x5_1_21 0 255 t5002 _  At5002).mono fun _ _ h => ⟨_, h.1, h.2.below, rfl⟩)) ?_
            refine .pt 6 9 rfl rfl rfl rfl c5 rfl rfl ?_
            refine .mv 10 rfl rfl rfl rfl ?_
            refine .oy 11 125 rfl rfl rfl rfl rfl c6 (fun a w hS hI hp => does_val (x_fieldE (b := 0) rfl (hS.get 0 rfl) Try.underlying29 rfl rfl (by kernel_rfl)) rfl) ?_
            refine .oy 11 125 rfl rfl rfl rfl rfl c6 (fun a w hS hI hp => does_val (x_load1 (d := .int .i64) rfl (hp.V 12 rfl rfl) (by kernel_rfl) rfl ((blk_cell (((hI.2).block gL5_1 (blk_lt hbxLgL5_1)).trans hbxLgL5_1) 22).trans rfl)) rfl) ?_
            refine .oy 11 125 rfl rfl rfl rfl rfl c6 (fun a w hS hI hp => does_call (by kernel_rfl) (ar3 (hp.V 13 rfl rfl) (rfl) (rfl)) ((carillonref05_In.calls x5_1_22 0 15 t5003 _  At5003).mono fun _ _ h => ⟨_, h.1, h.2.below, rfl⟩)) ?_
            refine .pt 11 14 rfl rfl rfl rfl c6 rfl rfl ?_
            exact .nil
          clear hS
          intro at5004 w5005 hS hI hp
          have hBw5005_w := hI.1
          have hBw5005_wL5 := hI.2
          have hv129 : sl _ 129 = .bool t5003 := hp 15 (by decide)
          have hBw5005_w5005 := Below.refl w5005.heap.size w5005
          have hS := hS.cons hv129
          clear hp hI hv129
          show wpList _ _ _ [_] _ _
          refine list_step rfl (R := fun v w' => Below _ _ w' ∧ (VB t5003) v w') (does_val (x_assign rfl (hS.get 0 rfl)) rfl) ?_
          rintro vw5006 w5006 ⟨hb, he⟩
          have hBw5006_w := below_step hBw5005_w hb
          have hBw5006_wL5 := below_step hBw5005_wL5 hb
          have hBw5006_w5005 := below_step hBw5005_w5005 hb
          have hBw5006_w5006 := Below.refl w5006.heap.size w5006
          obtain rfl : vw5006 = .bool t5003 := he
          replace hS := (((hS.nil).cons (hS.get 2 rfl)).cons (hS.get 1 rfl)).cons (hS.get 0 rfl)
          refine hS.next (v := .bool t5003) (d := 4) rfl (by decide) (by rfl) ?_
          clear hS
          intro at5007 hS
          refine wpList_nil ?_
          replace hS := (((hS.nil).cons (hS.get 0 rfl)).cons (hS.get 3 rfl)).cons (hS.get 2 rfl)
          (try simp only [Exit.then, Exit.inBlock])
          exact J3 _ _ x5_1_0 x5_1_1 x5_1_2 x5_1_3 x5_1_4 x5_1_5 x5_1_6 x5_1_7 x5_1_8 x5_1_9 x5_1_10 x5_1_11 x5_1_12 x5_1_13 x5_1_14 x5_1_15 x5_1_16 x5_1_17 x5_1_18 x5_1_19 x5_1_20 x5_1_21 x5_1_22 gL5_1 x5_3_0 x5_3_1 x5_3_2 x5_3_3 x5_3_4 x5_3_5 x5_3_6 x5_3_7 x5_3_8 x5_3_9 x5_3_10 x5_3_11 x5_3_12 x5_3_13 x5_3_14 x5_3_15 x5_3_16 x5_3_17 x5_3_18 x5_3_19 x5_3_20 x5_3_21 x5_3_22 gL5_3 t5003 H hS hBw5006_w hgeLgL5_1 ((hBw5006_wL5.block gL5_1 (blk_lt hbxLgL5_1)).trans hbxLgL5_1) hgeLgL5_3 ((hBw5006_wL5.block gL5_3 (blk_lt hbxLgL5_3)).trans hbxLgL5_3) hneL5_3_1
        refine reg_float (N := 136) (bs := [(103, .bool (decide (x2_1_0 = 13))), (1, .pointer (some ⟨gL2_1, 0, none⟩)), (3, .pointer (some ⟨gL2_3, 0, none⟩)), (4, .bool x2_4)]) (I := fun x => Below w.heap.size w x ∧ Below wL2.heap.size wL2 x ∧ Below w2010.heap.size w2010 x) (C := fun x => x.heap[gL2_1]? = some (.cells (carillonref07_Check.c1 x2_1_0 x2_1_1 x2_1_2 x2_1_3 x2_1_4 x2_1_5 x2_1_6 x2_1_7 x2_1_8 x2_1_9 x2_1_10 x2_1_11 x2_1_12 x2_1_13 x2_1_14 x2_1_15 x2_1_16 x2_1_17 x2_1_18 x2_1_19 x2_1_20 x2_1_21 x2_1_22) 29 (0, 0))) [true, true, true, true, true, true, true, false, false, false, false, false] [.pointer (some ⟨gL2_1, 20, none⟩), .int .i64 x2_1_20, .pointer (some ⟨gL2_1, 21, none⟩), .int .i64 x2_1_21, .pointer (some ⟨gL2_1, 22, none⟩), .int .i64 x2_1_22, .pointer (some ⟨gL2_3, 20, none⟩), undef, undef, undef, undef, undef] [0, 1, 0, 4, 0, 16, 3, 67, 207, 463, 1023, 2047] (by kernel_rfl) (by kernel_rfl) rfl ?_ ?_ hS ⟨hBw2010_w, hBw2010_wL2, hBw2010_w2010⟩ ?_ ?_
        · exact fun x y hI hb => ⟨below_step hI.1 hb, below_step hI.2.1 hb, below_step hI.2.2 hb⟩
        · exact fun x hI => ((hI.2.1.block gL2_1 (blk_lt hbxLgL2_1)).trans hbxLgL2_1)
        · intro a hS hp
          refine .g (fun w hC => GRun.on rfl (x_fieldE (b := 0) rfl (hS.get 1 rfl) Try.underlying29 rfl rfl (by kernel_rfl))) ?_
          refine .g (fun w hC => GRun.on rfl (x_load1 (d := .int .i64) rfl ((hp.get 0 rfl rfl rfl)) (by kernel_rfl) rfl ((blk_cell ((((Below.refl _ _)).block gL2_1 (blk_lt hC)).trans hC) 20).trans rfl))) ?_
          refine .g (fun w hC => GRun.on rfl (x_fieldE (b := 0) rfl (hS.get 1 rfl) Try.underlying29 rfl rfl (by kernel_rfl))) ?_
          refine .g (fun w hC => GRun.on rfl (x_load1 (d := .int .i64) rfl ((hp.get 2 rfl rfl rfl)) (by kernel_rfl) rfl ((blk_cell ((((Below.refl _ _)).block gL2_1 (blk_lt hC)).trans hC) 21).trans rfl))) ?_
          refine .g (fun w hC => GRun.on rfl (x_fieldE (b := 0) rfl (hS.get 1 rfl) Try.underlying29 rfl rfl (by kernel_rfl))) ?_
          refine .g (fun w hC => GRun.on rfl (x_load1 (d := .int .i64) rfl ((hp.get 4 rfl rfl rfl)) (by kernel_rfl) rfl ((blk_cell ((((Below.refl _ _)).block gL2_1 (blk_lt hC)).trans hC) 22).trans rfl))) ?_
          refine .g (fun w hC => GRun.on rfl (x_fieldE (b := 0) rfl (hS.get 2 rfl) Try.underlying29 rfl rfl (by kernel_rfl))) ?_
          iterate 5 refine .t ?_
          exact .nil
        clear hS
        intro at2012 w2013 hS hp hI
        have hBw2013_w := hI.1
        have hBw2013_wL2 := hI.2.1
        have hBw2013_w2010 := hI.2.2
        have hBw2013_w2013 := Below.refl w2013.heap.size w2013
        have hS := hS.cons (show sl _ 106 = .int .i64 x2_1_20 from hp.get 1 rfl rfl rfl)
        have hS := hS.cons (show sl _ 108 = .int .i64 x2_1_21 from hp.get 3 rfl rfl rfl)
        have hS := hS.cons (show sl _ 110 = .int .i64 x2_1_22 from hp.get 5 rfl rfl rfl)
        have hS := hS.cons (show sl _ 111 = .pointer (some ⟨gL2_3, 20, none⟩) from hp.get 6 rfl rfl rfl)
        clear hp hI
        show ListC _ _ _ _ [_, _, _, _, _] _ _
        refine lc_step rfl (does_store (g := gL2_3) (off := 20) (v := .int .i64 x2_1_20) (new := (carillonref07_Check.c1 x2_3_0 x2_3_1 x2_3_2 x2_3_3 x2_3_4 x2_3_5 x2_3_6 x2_3_7 x2_3_8 x2_3_9 x2_3_10 x2_3_11 x2_3_12 x2_3_13 x2_3_14 x2_3_15 x2_3_16 x2_3_17 x2_3_18 x2_3_19 x2_1_20 x2_3_21 x2_3_22)) rfl (hS.get 0 rfl) (hS.get 3 rfl) ((hBw2013_wL2.block gL2_3 (blk_lt hbxLgL2_3)).trans hbxLgL2_3) (by kernel_rfl) (by kernel_rfl) (by kernel_rfl) (by kernel_rfl)) ?_
        rintro vw2014 w2014 ⟨rfl, hbxw2014, hT⟩
        have hn2015 := hT.blk ((hBw2013_wL2.block gL2_1 (blk_lt hbxLgL2_1)).trans hbxLgL2_1) (Ne.symm hneL2_3_1)
        have hBw2014_w := hT.below hBw2013_w hgeLgL2_3 (hBw2013_w).size
        have hBw2014_w2014 := Below.refl w2014.heap.size w2014
        clear hT
        refine ⟨((hBw2014_w2014.block gL2_1 (blk_lt hn2015)).trans hn2015), ?_⟩
        refine lc_step rfl (R := fun v w' => Below _ _ w' ∧ (VP gL2_3 21) v w') (does_val (x_fieldE (b := 0) rfl (hS.get 6 rfl) Try.underlying29 rfl rfl (by kernel_rfl)) rfl) ?_
        rintro vw2016 w2016 ⟨hb, he⟩
        have hBw2016_w := below_step hBw2014_w hb
        have hBw2016_w2014 := below_step hBw2014_w2014 hb
        have hBw2016_w2016 := Below.refl w2016.heap.size w2016
        obtain rfl : vw2016 = .pointer (some ⟨gL2_3, 21, none⟩) := he
        refine ⟨((hBw2016_w2014.block gL2_1 (blk_lt hn2015)).trans hn2015), ?_⟩
        refine hS.nextC (v := .pointer (some ⟨gL2_3, 21, none⟩)) (d := 112) rfl (by decide) (by rfl) ?_
        clear hS
        intro at2017 hS
        refine lc_step rfl (does_store (g := gL2_3) (off := 21) (v := .int .i64 x2_1_21) (new := (carillonref07_Check.c1 x2_3_0 x2_3_1 x2_3_2 x2_3_3 x2_3_4 x2_3_5 x2_3_6 x2_3_7 x2_3_8 x2_3_9 x2_3_10 x2_3_11 x2_3_12 x2_3_13 x2_3_14 x2_3_15 x2_3_16 x2_3_17 x2_3_18 x2_3_19 x2_1_20 x2_1_21 x2_3_22)) rfl (hS.get 0 rfl) (hS.get 3 rfl) ((hBw2016_w2014.block gL2_3 (blk_lt hbxw2014)).trans hbxw2014) (by kernel_rfl) (by kernel_rfl) (by kernel_rfl) (by kernel_rfl)) ?_
        rintro vw2018 w2018 ⟨rfl, hbxw2018, hT⟩
        have hn2019 := hT.blk ((hBw2016_w2014.block gL2_1 (blk_lt hn2015)).trans hn2015) (Ne.symm hneL2_3_1)
        have hBw2018_w := hT.below hBw2016_w hgeLgL2_3 (hBw2016_w).size
        have hBw2018_w2018 := Below.refl w2018.heap.size w2018
        clear hT
        refine ⟨((hBw2018_w2018.block gL2_1 (blk_lt hn2019)).trans hn2019), ?_⟩
        refine lc_step rfl (R := fun v w' => Below _ _ w' ∧ (VP gL2_3 22) v w') (does_val (x_fieldE (b := 0) rfl (hS.get 7 rfl) Try.underlying29 rfl rfl (by kernel_rfl)) rfl) ?_
        rintro vw2020 w2020 ⟨hb, he⟩
        have hBw2020_w := below_step hBw2018_w hb
        have hBw2020_w2018 := below_step hBw2018_w2018 hb
        have hBw2020_w2020 := Below.refl w2020.heap.size w2020
        obtain rfl : vw2020 = .pointer (some ⟨gL2_3, 22, none⟩) := he
        refine ⟨((hBw2020_w2018.block gL2_1 (blk_lt hn2019)).trans hn2019), ?_⟩
        refine hS.nextC (v := .pointer (some ⟨gL2_3, 22, none⟩)) (d := 113) rfl (by decide) (by rfl) ?_
        clear hS
        intro at2021 hS
        refine lc_step rfl (does_store (g := gL2_3) (off := 22) (v := .int .i64 x2_1_22) (new := (carillonref07_Check.c1 x2_3_0 x2_3_1 x2_3_2 x2_3_3 x2_3_4 x2_3_5 x2_3_6 x2_3_7 x2_3_8 x2_3_9 x2_3_10 x2_3_11 x2_3_12 x2_3_13 x2_3_14 x2_3_15 x2_3_16 x2_3_17 x2_3_18 x2_3_19 x2_1_20 x2_1_21 x2_1_22)) rfl (hS.get 0 rfl) (hS.get 3 rfl) ((hBw2020_w2018.block gL2_3 (blk_lt hbxw2018)).trans hbxw2018) (by kernel_rfl) (by kernel_rfl) (by kernel_rfl) (by kernel_rfl)) ?_
        rintro vw2022 w2022 ⟨rfl, hbxw2022, hT⟩
        have hn2023 := hT.blk ((hBw2020_w2018.block gL2_1 (blk_lt hn2019)).trans hn2019) (Ne.symm hneL2_3_1)
        have hBw2022_w := hT.below hBw2020_w hgeLgL2_3 (hBw2020_w).size
        have hBw2022_w2022 := Below.refl w2022.heap.size w2022
        clear hT
        refine ⟨((hBw2022_w2022.block gL2_1 (blk_lt hn2023)).trans hn2023), ?_⟩
        refine lc_nil ?_
        replace hS := (((hS.nil).cons (hS.get 9 rfl)).cons (hS.get 8 rfl)).cons (hS.get 7 rfl)
        (try simp only [Exit.then, Exit.inBlock])
        exact J5 _ _ x2_1_0 x2_1_1 x2_1_2 x2_1_3 x2_1_4 x2_1_5 x2_1_6 x2_1_7 x2_1_8 x2_1_9 x2_1_10 x2_1_11 x2_1_12 x2_1_13 x2_1_14 x2_1_15 x2_1_16 x2_1_17 x2_1_18 x2_1_19 x2_1_20 x2_1_21 x2_1_22 gL2_1 x2_3_0 x2_3_1 x2_3_2 x2_3_3 x2_3_4 x2_3_5 x2_3_6 x2_3_7 x2_3_8 x2_3_9 x2_3_10 x2_3_11 x2_3_12 x2_3_13 x2_3_14 x2_3_15 x2_3_16 x2_3_17 x2_3_18 x2_3_19 x2_1_20 x2_1_21 x2_1_22 gL2_3 x2_4 H hS hBw2022_w hgeLgL2_1 ((hBw2022_w2022.block gL2_1 (blk_lt hn2023)).trans hn2023) hgeLgL2_3 ((hBw2022_w2022.block gL2_3 (blk_lt hbxw2022)).trans hbxw2022) hneL2_3_1
      rw [if_pos c2] at H
      refine wp_seq_k (fun K2002 hK2002 => ?_)
      refine reg_seq (N := 136) (bs := [(1, .pointer (some ⟨gL2_1, 0, none⟩)), (3, .pointer (some ⟨gL2_3, 0, none⟩)), (4, .bool x2_4)]) (I := fun x => Below w.heap.size w x ∧ Below wL2.heap.size wL2 x) (ps := [VP gL2_1 0, VI x2_1_0]) (by kernel_rfl) ?_ ?_ rfl hS ⟨hBwL2_w, hBwL2_wL2⟩ ?_ ?_
      · exact fun x y hI hb => ⟨below_step hI.1 hb, below_step hI.2 hb⟩
      · exact .v (.v (.nil))
      · refine .on rfl (fun a w hS hI hp => does_val (x_fieldE (b := 0) rfl (hS.get 0 rfl) Try.underlying29 rfl rfl (by kernel_rfl)) rfl) ?_
        refine .on rfl (fun a w hS hI hp => does_val (x_load1 (d := .int .i64) rfl (hp.V 0 rfl rfl) (by kernel_rfl) rfl ((blk_cell (((hI.2).block gL2_1 (blk_lt hbxLgL2_1)).trans hbxLgL2_1) 0).trans rfl)) rfl) ?_
        exact .nil
      clear hS
      intro at2003 w2004 hS hI hp
      have hBw2004_w := hI.1
      have hBw2004_wL2 := hI.2
      have hv48 : sl _ 48 = .int .i64 x2_1_0 := hp 1 (by decide)
      have hBw2004_w2004 := Below.refl w2004.heap.size w2004
      have hS := hS.cons hv48
      clear hp hI hv48
      refine hK2002 _ _ ?_
      (try clear hK2002 K2002)
      refine wp_block ?_
      refine wp_seq_k (fun K2005 hK2005 => ?_)
      refine reg_seq (N := 136) (bs := [(48, .int .i64 x2_1_0), (1, .pointer (some ⟨gL2_1, 0, none⟩)), (3, .pointer (some ⟨gL2_3, 0, none⟩)), (4, .bool x2_4)]) (I := fun x => Below w.heap.size w x ∧ Below wL2.heap.size wL2 x ∧ Below w2004.heap.size w2004 x) (ps := [VB (decide (x2_1_0 = 11)), VB (decide (x2_1_0 = 11))]) (by kernel_rfl) ?_ ?_ rfl hS ⟨hBw2004_w, hBw2004_wL2, hBw2004_w2004⟩ ?_ ?_
      · exact fun x y hI hb => ⟨below_step hI.1 hb, below_step hI.2.1 hb, below_step hI.2.2 hb⟩
      · exact .v (.v (.nil))
      · refine .on rfl (fun a w hS hI hp => does_val (x_bin rfl (hS.get 0 rfl) (rfl) (b_eql _ _ _ _ _ _)) rfl) ?_
        refine .asg 0 rfl rfl rfl rfl ?_
        exact .nil
      clear hS
      intro at2006 w2007 hS hI hp
      have hBw2007_w := hI.1
      have hBw2007_wL2 := hI.2.1
      have hBw2007_w2004 := hI.2.2
      have hv49 : sl _ 49 = .bool (decide (x2_1_0 = 11)) := hp 1 (by decide)
      have hBw2007_w2007 := Below.refl w2007.heap.size w2007
      have hS := hS.cons hv49
      clear hp hI hv49
      refine hK2005 _ _ ?_
      (try clear hK2005 K2005)
      refine wp_cond_true ((hS.get 0 rfl).trans (bT (decide_eq_true c2))) ?_
      refine wp_seq_k (fun K2008 hK2008 => ?_)
      have J4 : ∀ (aL4 : Act) (wL4 : World) (x4_1_0 x4_1_1 x4_1_2 x4_1_3 x4_1_4 x4_1_5 x4_1_6 x4_1_7 x4_1_8 x4_1_9 x4_1_10 x4_1_11 x4_1_12 x4_1_13 x4_1_14 x4_1_15 x4_1_16 x4_1_17 x4_1_18 x4_1_19 x4_1_20 x4_1_21 x4_1_22 : Int) (gL4_1 : Nat) (x4_3_0 x4_3_1 x4_3_2 x4_3_3 x4_3_4 x4_3_5 x4_3_6 x4_3_7 x4_3_8 x4_3_9 x4_3_10 x4_3_11 x4_3_12 x4_3_13 x4_3_14 x4_3_15 x4_3_16 x4_3_17 x4_3_18 x4_3_19 x4_3_20 x4_3_21 x4_3_22 : Int) (gL4_3 : Nat) (x4_4 : Bool), carillonref07_Check.j4 k x4_1_0 x4_1_1 x4_1_2 x4_1_3 x4_1_4 x4_1_5 x4_1_6 x4_1_7 x4_1_8 x4_1_9 x4_1_10 x4_1_11 x4_1_12 x4_1_13 x4_1_14 x4_1_15 x4_1_16 x4_1_17 x4_1_18 x4_1_19 x4_1_20 x4_1_21 x4_1_22 x4_3_0 x4_3_1 x4_3_2 x4_3_3 x4_3_4 x4_3_5 x4_3_6 x4_3_7 x4_3_8 x4_3_9 x4_3_10 x4_3_11 x4_3_12 x4_3_13 x4_3_14 x4_3_15 x4_3_16 x4_3_17 x4_3_18 x4_3_19 x4_3_20 x4_3_21 x4_3_22 x4_4 = some r → St 136 [(1, .pointer (some ⟨gL4_1, 0, none⟩)), (3, .pointer (some ⟨gL4_3, 0, none⟩)), (4, .bool x4_4)] aL4 → Below w.heap.size w wL4 → w.heap.size ≤ gL4_1 → wL4.heap[gL4_1]? = some (.cells (carillonref07_Check.c1 x4_1_0 x4_1_1 x4_1_2 x4_1_3 x4_1_4 x4_1_5 x4_1_6 x4_1_7 x4_1_8 x4_1_9 x4_1_10 x4_1_11 x4_1_12 x4_1_13 x4_1_14 x4_1_15 x4_1_16 x4_1_17 x4_1_18 x4_1_19 x4_1_20 x4_1_21 x4_1_22) 29 (0, 0)) → w.heap.size ≤ gL4_3 → wL4.heap[gL4_3]? = some (.cells (carillonref07_Check.c1 x4_3_0 x4_3_1 x4_3_2 x4_3_3 x4_3_4 x4_3_5 x4_3_6 x4_3_7 x4_3_8 x4_3_9 x4_3_10 x4_3_11 x4_3_12 x4_3_13 x4_3_14 x4_3_15 x4_3_16 x4_3_17 x4_3_18 x4_3_19 x4_3_20 x4_3_21 x4_3_22) 29 (0, 0)) → gL4_3 ≠ gL4_1 → K2008 aL4 wL4 := by
        intro aL4 wL4 x4_1_0 x4_1_1 x4_1_2 x4_1_3 x4_1_4 x4_1_5 x4_1_6 x4_1_7 x4_1_8 x4_1_9 x4_1_10 x4_1_11 x4_1_12 x4_1_13 x4_1_14 x4_1_15 x4_1_16 x4_1_17 x4_1_18 x4_1_19 x4_1_20 x4_1_21 x4_1_22 gL4_1 x4_3_0 x4_3_1 x4_3_2 x4_3_3 x4_3_4 x4_3_5 x4_3_6 x4_3_7 x4_3_8 x4_3_9 x4_3_10 x4_3_11 x4_3_12 x4_3_13 x4_3_14 x4_3_15 x4_3_16 x4_3_17 x4_3_18 x4_3_19 x4_3_20 x4_3_21 x4_3_22 gL4_3 x4_4 H hS hBwL4_w hgeLgL4_1 hbxLgL4_1 hgeLgL4_3 hbxLgL4_3 hneL4_3_1
        unfold carillonref07_Check.j4 at H
        (try dsimp only at H)
        by_cases c3 : x4_4 = true
        rotate_left
        · rw [if_neg c3] at H
          have hBwL4_wL4 := Below.refl wL4.heap.size wL4
          refine hK2008 _ _ ?_
          (try clear hK2008 K2008)
          refine reg_seq_tail 31 (N := 136) (bs := [(1, .pointer (some ⟨gL4_1, 0, none⟩)), (3, .pointer (some ⟨gL4_3, 0, none⟩)), (4, .bool x4_4)]) (I := fun x => Below w.heap.size w x ∧ Below wL4.heap.size wL4 x) (ps := [VB x4_4, VB x4_4, VU, VU, VU, VB false, VB false, VU, VU, VU, VB false, VB false, VU, VU, VU, VB false, VB false, VU, VU, VU, VB false, VB false, VU, VU, VU, VB false, VB false, VU, VU, VU, VB false]) (by kernel_rfl) ?_ ?_ rfl hS ⟨hBwL4_w, hBwL4_wL4⟩ ?_ ?_
          · exact fun x y hI hb => ⟨below_step hI.1 hb, below_step hI.2 hb⟩
          · exact .v (.v (.v (.v (.v (.v (.v (.v (.v (.v (.v (.v (.v (.v (.v (.v (.v (.v (.v (.v (.v (.v (.v (.v (.v (.v (.v (.v (.v (.v (.v (.nil)))))))))))))))))))))))))))))))
          · refine .ms 2 rfl rfl rfl ?_
            refine .mv 0 rfl rfl rfl rfl ?_
            iterate 3 refine .sn 1 73 rfl rfl rfl rfl rfl ((Bool.eq_false_iff.2 c3)) ?_
            refine .pf 1 rfl rfl rfl rfl ((Bool.eq_false_iff.2 c3)) (fun _ => rfl) ?_
            refine .mv 5 rfl rfl rfl rfl ?_
            iterate 3 refine .sn 6 78 rfl rfl rfl rfl rfl rfl ?_
            refine .pf 6 rfl rfl rfl rfl rfl (fun _ => rfl) ?_
            refine .mv 10 rfl rfl rfl rfl ?_
            iterate 3 refine .sn 11 83 rfl rfl rfl rfl rfl rfl ?_
            refine .pf 11 rfl rfl rfl rfl rfl (fun _ => rfl) ?_
            refine .mv 15 rfl rfl rfl rfl ?_
            iterate 3 refine .sn 16 88 rfl rfl rfl rfl rfl rfl ?_
            refine .pf 16 rfl rfl rfl rfl rfl (fun _ => rfl) ?_
            refine .mv 20 rfl rfl rfl rfl ?_
            iterate 3 refine .sn 21 93 rfl rfl rfl rfl rfl rfl ?_
            refine .pf 21 rfl rfl rfl rfl rfl (fun _ => rfl) ?_
            refine .mv 25 rfl rfl rfl rfl ?_
            iterate 3 refine .sn 26 98 rfl rfl rfl rfl rfl rfl ?_
            refine .pf 26 rfl rfl rfl rfl rfl (fun _ => rfl) ?_
            exact .nil
          clear hS
          intro at4001 w4002 hS hI hp
          have hBw4002_w := hI.1
          have hBw4002_wL4 := hI.2
          have hv102 : sl _ 102 = .bool false := hp 30 (by decide)
          have hBw4002_w4002 := Below.refl w4002.heap.size w4002
          have hS := hS.cons hv102
          clear hp hI hv102
          show wpList _ _ _ [_] _ _
          refine list_step rfl (R := fun v w' => Below _ _ w' ∧ (VB false) v w') (does_val (x_assign rfl (hS.get 0 rfl)) rfl) ?_
          rintro vw4003 w4003 ⟨hb, he⟩
          have hBw4003_w := below_step hBw4002_w hb
          have hBw4003_wL4 := below_step hBw4002_wL4 hb
          have hBw4003_w4002 := below_step hBw4002_w4002 hb
          have hBw4003_w4003 := Below.refl w4003.heap.size w4003
          obtain rfl : vw4003 = .bool false := he
          replace hS := (((hS.nil).cons (hS.get 2 rfl)).cons (hS.get 1 rfl)).cons (hS.get 0 rfl)
          refine hS.next (v := .bool false) (d := 4) rfl (by decide) (by rfl) ?_
          clear hS
          intro at4004 hS
          refine wpList_nil ?_
          replace hS := (((hS.nil).cons (hS.get 0 rfl)).cons (hS.get 3 rfl)).cons (hS.get 2 rfl)
          (try simp only [Exit.then, Exit.inBlock])
          exact J3 _ _ x4_1_0 x4_1_1 x4_1_2 x4_1_3 x4_1_4 x4_1_5 x4_1_6 x4_1_7 x4_1_8 x4_1_9 x4_1_10 x4_1_11 x4_1_12 x4_1_13 x4_1_14 x4_1_15 x4_1_16 x4_1_17 x4_1_18 x4_1_19 x4_1_20 x4_1_21 x4_1_22 gL4_1 x4_3_0 x4_3_1 x4_3_2 x4_3_3 x4_3_4 x4_3_5 x4_3_6 x4_3_7 x4_3_8 x4_3_9 x4_3_10 x4_3_11 x4_3_12 x4_3_13 x4_3_14 x4_3_15 x4_3_16 x4_3_17 x4_3_18 x4_3_19 x4_3_20 x4_3_21 x4_3_22 gL4_3 false H hS hBw4003_w hgeLgL4_1 ((hBw4003_wL4.block gL4_1 (blk_lt hbxLgL4_1)).trans hbxLgL4_1) hgeLgL4_3 ((hBw4003_wL4.block gL4_3 (blk_lt hbxLgL4_3)).trans hbxLgL4_3) hneL4_3_1
        rw [if_pos c3] at H
        obtain ⟨t4001, At4001, H⟩ := Option.bind_eq_some_iff.mp H
        by_cases c4 : t4001 = true
        rotate_left
        · rw [if_neg c4] at H
          have hBwL4_wL4 := Below.refl wL4.heap.size wL4
          refine hK2008 _ _ ?_
          (try clear hK2008 K2008)
          refine reg_seq_tail 31 (N := 136) (bs := [(1, .pointer (some ⟨gL4_1, 0, none⟩)), (3, .pointer (some ⟨gL4_3, 0, none⟩)), (4, .bool x4_4)]) (I := fun x => Below w.heap.size w x ∧ Below wL4.heap.size wL4 x) (ps := [VB x4_4, VB x4_4, VP gL4_1 11, VI x4_1_11, VB t4001, VB t4001, VB t4001, VU, VU, VU, VB false, VB false, VU, VU, VU, VB false, VB false, VU, VU, VU, VB false, VB false, VU, VU, VU, VB false, VB false, VU, VU, VU, VB false]) (by kernel_rfl) ?_ ?_ rfl hS ⟨hBwL4_w, hBwL4_wL4⟩ ?_ ?_
          · exact fun x y hI hb => ⟨below_step hI.1 hb, below_step hI.2 hb⟩
          · exact .v (.v (.v (.v (.v (.v (.v (.v (.v (.v (.v (.v (.v (.v (.v (.v (.v (.v (.v (.v (.v (.v (.v (.v (.v (.v (.v (.v (.v (.v (.v (.nil)))))))))))))))))))))))))))))))
          · refine .ms 2 rfl rfl rfl ?_
            refine .mv 0 rfl rfl rfl rfl ?_
            refine .oy 1 73 rfl rfl rfl rfl rfl c3 (fun a w hS hI hp => does_val (x_fieldE (b := 0) rfl (hS.get 0 rfl) Try.underlying29 rfl rfl (by kernel_rfl)) rfl) ?_
            refine .oy 1 73 rfl rfl rfl rfl rfl c3 (fun a w hS hI hp => does_val (x_load1 (d := .int .i64) rfl (hp.V 2 rfl rfl) (by kernel_rfl) rfl ((blk_cell (((hI.2).block gL4_1 (blk_lt hbxLgL4_1)).trans hbxLgL4_1) 11).trans rfl)) rfl) ?_
            refine .oy 1 73 rfl rfl rfl rfl rfl c3 (fun a w hS hI hp => does_call (by kernel_rfl) (ar3 (hp.V 3 rfl rfl) (rfl) (rfl)) ((carillonref05_In.calls x4_1_11 (-32768) 32767 t4001 _  At4001).mono fun _ _ h => ⟨_, h.1, h.2.below, rfl⟩)) ?_
            refine .pt 1 4 rfl rfl rfl rfl c3 rfl rfl ?_
            refine .mv 5 rfl rfl rfl rfl ?_
            iterate 3 refine .sn 6 78 rfl rfl rfl rfl rfl ((Bool.eq_false_iff.2 c4)) ?_
            refine .pf 6 rfl rfl rfl rfl ((Bool.eq_false_iff.2 c4)) (fun _ => rfl) ?_
            refine .mv 10 rfl rfl rfl rfl ?_
            iterate 3 refine .sn 11 83 rfl rfl rfl rfl rfl rfl ?_
            refine .pf 11 rfl rfl rfl rfl rfl (fun _ => rfl) ?_
            refine .mv 15 rfl rfl rfl rfl ?_
            iterate 3 refine .sn 16 88 rfl rfl rfl rfl rfl rfl ?_
            refine .pf 16 rfl rfl rfl rfl rfl (fun _ => rfl) ?_
            refine .mv 20 rfl rfl rfl rfl ?_
            iterate 3 refine .sn 21 93 rfl rfl rfl rfl rfl rfl ?_
            refine .pf 21 rfl rfl rfl rfl rfl (fun _ => rfl) ?_
            refine .mv 25 rfl rfl rfl rfl ?_
            iterate 3 refine .sn 26 98 rfl rfl rfl rfl rfl rfl ?_
            refine .pf 26 rfl rfl rfl rfl rfl (fun _ => rfl) ?_
            exact .nil
          clear hS
          intro at4002 w4003 hS hI hp
          have hBw4003_w := hI.1
          have hBw4003_wL4 := hI.2
          have hv102 : sl _ 102 = .bool false := hp 30 (by decide)
          have hBw4003_w4003 := Below.refl w4003.heap.size w4003
          have hS := hS.cons hv102
          clear hp hI hv102
          show wpList _ _ _ [_] _ _
          refine list_step rfl (R := fun v w' => Below _ _ w' ∧ (VB false) v w') (does_val (x_assign rfl (hS.get 0 rfl)) rfl) ?_
          rintro vw4004 w4004 ⟨hb, he⟩
          have hBw4004_w := below_step hBw4003_w hb
          have hBw4004_wL4 := below_step hBw4003_wL4 hb
          have hBw4004_w4003 := below_step hBw4003_w4003 hb
          have hBw4004_w4004 := Below.refl w4004.heap.size w4004
          obtain rfl : vw4004 = .bool false := he
          replace hS := (((hS.nil).cons (hS.get 2 rfl)).cons (hS.get 1 rfl)).cons (hS.get 0 rfl)
          refine hS.next (v := .bool false) (d := 4) rfl (by decide) (by rfl) ?_
          clear hS
          intro at4005 hS
          refine wpList_nil ?_
          replace hS := (((hS.nil).cons (hS.get 0 rfl)).cons (hS.get 3 rfl)).cons (hS.get 2 rfl)
          (try simp only [Exit.then, Exit.inBlock])
          exact J3 _ _ x4_1_0 x4_1_1 x4_1_2 x4_1_3 x4_1_4 x4_1_5 x4_1_6 x4_1_7 x4_1_8 x4_1_9 x4_1_10 x4_1_11 x4_1_12 x4_1_13 x4_1_14 x4_1_15 x4_1_16 x4_1_17 x4_1_18 x4_1_19 x4_1_20 x4_1_21 x4_1_22 gL4_1 x4_3_0 x4_3_1 x4_3_2 x4_3_3 x4_3_4 x4_3_5 x4_3_6 x4_3_7 x4_3_8 x4_3_9 x4_3_10 x4_3_11 x4_3_12 x4_3_13 x4_3_14 x4_3_15 x4_3_16 x4_3_17 x4_3_18 x4_3_19 x4_3_20 x4_3_21 x4_3_22 gL4_3 false H hS hBw4004_w hgeLgL4_1 ((hBw4004_wL4.block gL4_1 (blk_lt hbxLgL4_1)).trans hbxLgL4_1) hgeLgL4_3 ((hBw4004_wL4.block gL4_3 (blk_lt hbxLgL4_3)).trans hbxLgL4_3) hneL4_3_1
        rw [if_pos c4] at H
        obtain ⟨t4002, At4002, H⟩ := Option.bind_eq_some_iff.mp H
        by_cases c5 : t4002 = true
        rotate_left
        · rw [if_neg c5] at H
          have hBwL4_wL4 := Below.refl wL4.heap.size wL4
          refine hK2008 _ _ ?_
          (try clear hK2008 K2008)
          refine reg_seq_tail 31 (N := 136) (bs := [(1, .pointer (some ⟨gL4_1, 0, none⟩)), (3, .pointer (some ⟨gL4_3, 0, none⟩)), (4, .bool x4_4)]) (I := fun x => Below w.heap.size w x ∧ Below wL4.heap.size wL4 x) (ps := [VB x4_4, VB x4_4, VP gL4_1 11, VI x4_1_11, VB t4001, VB t4001, VB t4001, VP gL4_1 12, VI x4_1_12, VB t4002, VB t4002, VB t4002, VU, VU, VU, VB false, VB false, VU, VU, VU, VB false, VB false, VU, VU, VU, VB false, VB false, VU, VU, VU, VB false]) (by kernel_rfl) ?_ ?_ rfl hS ⟨hBwL4_w, hBwL4_wL4⟩ ?_ ?_
          · exact fun x y hI hb => ⟨below_step hI.1 hb, below_step hI.2 hb⟩
          · exact .v (.v (.v (.v (.v (.v (.v (.v (.v (.v (.v (.v (.v (.v (.v (.v (.v (.v (.v (.v (.v (.v (.v (.v (.v (.v (.v (.v (.v (.v (.v (.nil)))))))))))))))))))))))))))))))
          · refine .ms 2 rfl rfl rfl ?_
            refine .mv 0 rfl rfl rfl rfl ?_
            refine .oy 1 73 rfl rfl rfl rfl rfl c3 (fun a w hS hI hp => does_val (x_fieldE (b := 0) rfl (hS.get 0 rfl) Try.underlying29 rfl rfl (by kernel_rfl)) rfl) ?_
            refine .oy 1 73 rfl rfl rfl rfl rfl c3 (fun a w hS hI hp => does_val (x_load1 (d := .int .i64) rfl (hp.V 2 rfl rfl) (by kernel_rfl) rfl ((blk_cell (((hI.2).block gL4_1 (blk_lt hbxLgL4_1)).trans hbxLgL4_1) 11).trans rfl)) rfl) ?_
            refine .oy 1 73 rfl rfl rfl rfl rfl c3 (fun a w hS hI hp => does_call (by kernel_rfl) (ar3 (hp.V 3 rfl rfl) (rfl) (rfl)) ((carillonref05_In.calls x4_1_11 (-32768) 32767 t4001 _  At4001).mono fun _ _ h => ⟨_, h.1, h.2.below, rfl⟩)) ?_
            refine .pt 1 4 rfl rfl rfl rfl c3 rfl rfl ?_
            refine .mv 5 rfl rfl rfl rfl ?_
            refine .oy 6 78 rfl rfl rfl rfl rfl c4 (fun a w hS hI hp => does_val (x_fieldE (b := 0) rfl (hS.get 0 rfl) Try.underlying29 rfl rfl (by kernel_rfl)) rfl) ?_
            refine .oy 6 78 rfl rfl rfl rfl rfl c4 (fun a w hS hI hp => does_val (x_load1 (d := .int .i64) rfl (hp.V 7 rfl rfl) (by kernel_rfl) rfl ((blk_cell (((hI.2).block gL4_1 (blk_lt hbxLgL4_1)).trans hbxLgL4_1) 12).trans rfl)) rfl) ?_
            refine .oy 6 78 rfl rfl rfl rfl rfl c4 (fun a w hS hI hp => does_call (by kernel_rfl) (ar3 (hp.V 8 rfl rfl) (rfl) (rfl)) ((carillonref05_In.calls x4_1_12 0 255 t4002 _  At4002).mono fun _ _ h => ⟨_, h.1, h.2.below, rfl⟩)) ?_
            refine .pt 6 9 rfl rfl rfl rfl c4 rfl rfl ?_
            refine .mv 10 rfl rfl rfl rfl ?_
            iterate 3 refine .sn 11 83 rfl rfl rfl rfl rfl ((Bool.eq_false_iff.2 c5)) ?_
            refine .pf 11 rfl rfl rfl rfl ((Bool.eq_false_iff.2 c5)) (fun _ => rfl) ?_
            refine .mv 15 rfl rfl rfl rfl ?_
            iterate 3 refine .sn 16 88 rfl rfl rfl rfl rfl rfl ?_
            refine .pf 16 rfl rfl rfl rfl rfl (fun _ => rfl) ?_
            refine .mv 20 rfl rfl rfl rfl ?_
            iterate 3 refine .sn 21 93 rfl rfl rfl rfl rfl rfl ?_
            refine .pf 21 rfl rfl rfl rfl rfl (fun _ => rfl) ?_
            refine .mv 25 rfl rfl rfl rfl ?_
            iterate 3 refine .sn 26 98 rfl rfl rfl rfl rfl rfl ?_
            refine .pf 26 rfl rfl rfl rfl rfl (fun _ => rfl) ?_
            exact .nil
          clear hS
          intro at4003 w4004 hS hI hp
          have hBw4004_w := hI.1
          have hBw4004_wL4 := hI.2
          have hv102 : sl _ 102 = .bool false := hp 30 (by decide)
          have hBw4004_w4004 := Below.refl w4004.heap.size w4004
          have hS := hS.cons hv102
          clear hp hI hv102
          show wpList _ _ _ [_] _ _
          refine list_step rfl (R := fun v w' => Below _ _ w' ∧ (VB false) v w') (does_val (x_assign rfl (hS.get 0 rfl)) rfl) ?_
          rintro vw4005 w4005 ⟨hb, he⟩
          have hBw4005_w := below_step hBw4004_w hb
          have hBw4005_wL4 := below_step hBw4004_wL4 hb
          have hBw4005_w4004 := below_step hBw4004_w4004 hb
          have hBw4005_w4005 := Below.refl w4005.heap.size w4005
          obtain rfl : vw4005 = .bool false := he
          replace hS := (((hS.nil).cons (hS.get 2 rfl)).cons (hS.get 1 rfl)).cons (hS.get 0 rfl)
          refine hS.next (v := .bool false) (d := 4) rfl (by decide) (by rfl) ?_
          clear hS
          intro at4006 hS
          refine wpList_nil ?_
          replace hS := (((hS.nil).cons (hS.get 0 rfl)).cons (hS.get 3 rfl)).cons (hS.get 2 rfl)
          (try simp only [Exit.then, Exit.inBlock])
          exact J3 _ _ x4_1_0 x4_1_1 x4_1_2 x4_1_3 x4_1_4 x4_1_5 x4_1_6 x4_1_7 x4_1_8 x4_1_9 x4_1_10 x4_1_11 x4_1_12 x4_1_13 x4_1_14 x4_1_15 x4_1_16 x4_1_17 x4_1_18 x4_1_19 x4_1_20 x4_1_21 x4_1_22 gL4_1 x4_3_0 x4_3_1 x4_3_2 x4_3_3 x4_3_4 x4_3_5 x4_3_6 x4_3_7 x4_3_8 x4_3_9 x4_3_10 x4_3_11 x4_3_12 x4_3_13 x4_3_14 x4_3_15 x4_3_16 x4_3_17 x4_3_18 x4_3_19 x4_3_20 x4_3_21 x4_3_22 gL4_3 false H hS hBw4005_w hgeLgL4_1 ((hBw4005_wL4.block gL4_1 (blk_lt hbxLgL4_1)).trans hbxLgL4_1) hgeLgL4_3 ((hBw4005_wL4.block gL4_3 (blk_lt hbxLgL4_3)).trans hbxLgL4_3) hneL4_3_1
        rw [if_pos c5] at H
        obtain ⟨t4003, At4003, H⟩ := Option.bind_eq_some_iff.mp H
        by_cases c6 : t4003 = true
        rotate_left
        · rw [if_neg c6] at H
          have hBwL4_wL4 := Below.refl wL4.heap.size wL4
          refine hK2008 _ _ ?_
          (try clear hK2008 K2008)
          refine reg_seq_tail 31 (N := 136) (bs := [(1, .pointer (some ⟨gL4_1, 0, none⟩)), (3, .pointer (some ⟨gL4_3, 0, none⟩)), (4, .bool x4_4)]) (I := fun x => Below w.heap.size w x ∧ Below wL4.heap.size wL4 x) (ps := [VB x4_4, VB x4_4, VP gL4_1 11, VI x4_1_11, VB t4001, VB t4001, VB t4001, VP gL4_1 12, VI x4_1_12, VB t4002, VB t4002, VB t4002, VP gL4_1 16, VI x4_1_16, VB t4003, VB t4003, VB t4003, VU, VU, VU, VB false, VB false, VU, VU, VU, VB false, VB false, VU, VU, VU, VB false]) (by kernel_rfl) ?_ ?_ rfl hS ⟨hBwL4_w, hBwL4_wL4⟩ ?_ ?_
          · exact fun x y hI hb => ⟨below_step hI.1 hb, below_step hI.2 hb⟩
          · exact .v (.v (.v (.v (.v (.v (.v (.v (.v (.v (.v (.v (.v (.v (.v (.v (.v (.v (.v (.v (.v (.v (.v (.v (.v (.v (.v (.v (.v (.v (.v (.nil)))))))))))))))))))))))))))))))
          · refine .ms 2 rfl rfl rfl ?_
            refine .mv 0 rfl rfl rfl rfl ?_
            refine .oy 1 73 rfl rfl rfl rfl rfl c3 (fun a w hS hI hp => does_val (x_fieldE (b := 0) rfl (hS.get 0 rfl) Try.underlying29 rfl rfl (by kernel_rfl)) rfl) ?_
            refine .oy 1 73 rfl rfl rfl rfl rfl c3 (fun a w hS hI hp => does_val (x_load1 (d := .int .i64) rfl (hp.V 2 rfl rfl) (by kernel_rfl) rfl ((blk_cell (((hI.2).block gL4_1 (blk_lt hbxLgL4_1)).trans hbxLgL4_1) 11).trans rfl)) rfl) ?_
            refine .oy 1 73 rfl rfl rfl rfl rfl c3 (fun a w hS hI hp => does_call (by kernel_rfl) (ar3 (hp.V 3 rfl rfl) (rfl) (rfl)) ((carillonref05_In.calls x4_1_11 (-32768) 32767 t4001 _  At4001).mono fun _ _ h => ⟨_, h.1, h.2.below, rfl⟩)) ?_
            refine .pt 1 4 rfl rfl rfl rfl c3 rfl rfl ?_
            refine .mv 5 rfl rfl rfl rfl ?_
            refine .oy 6 78 rfl rfl rfl rfl rfl c4 (fun a w hS hI hp => does_val (x_fieldE (b := 0) rfl (hS.get 0 rfl) Try.underlying29 rfl rfl (by kernel_rfl)) rfl) ?_
            refine .oy 6 78 rfl rfl rfl rfl rfl c4 (fun a w hS hI hp => does_val (x_load1 (d := .int .i64) rfl (hp.V 7 rfl rfl) (by kernel_rfl) rfl ((blk_cell (((hI.2).block gL4_1 (blk_lt hbxLgL4_1)).trans hbxLgL4_1) 12).trans rfl)) rfl) ?_
            refine .oy 6 78 rfl rfl rfl rfl rfl c4 (fun a w hS hI hp => does_call (by kernel_rfl) (ar3 (hp.V 8 rfl rfl) (rfl) (rfl)) ((carillonref05_In.calls x4_1_12 0 255 t4002 _  At4002).mono fun _ _ h => ⟨_, h.1, h.2.below, rfl⟩)) ?_
            refine .pt 6 9 rfl rfl rfl rfl c4 rfl rfl ?_
            refine .mv 10 rfl rfl rfl rfl ?_
            refine .oy 11 83 rfl rfl rfl rfl rfl c5 (fun a w hS hI hp => does_val (x_fieldE (b := 0) rfl (hS.get 0 rfl) Try.underlying29 rfl rfl (by kernel_rfl)) rfl) ?_
            refine .oy 11 83 rfl rfl rfl rfl rfl c5 (fun a w hS hI hp => does_val (x_load1 (d := .int .i64) rfl (hp.V 12 rfl rfl) (by kernel_rfl) rfl ((blk_cell (((hI.2).block gL4_1 (blk_lt hbxLgL4_1)).trans hbxLgL4_1) 16).trans rfl)) rfl) ?_
            refine .oy 11 83 rfl rfl rfl rfl rfl c5 (fun a w hS hI hp => does_call (by kernel_rfl) (ar3 (hp.V 13 rfl rfl) (rfl) (rfl)) ((carillonref05_In.calls x4_1_16 0 255 t4003 _  At4003).mono fun _ _ h => ⟨_, h.1, h.2.below, rfl⟩)) ?_
            refine .pt 11 14 rfl rfl rfl rfl c5 rfl rfl ?_
            refine .mv 15 rfl rfl rfl rfl ?_
            iterate 3 refine .sn 16 88 rfl rfl rfl rfl rfl ((Bool.eq_false_iff.2 c6)) ?_
            refine .pf 16 rfl rfl rfl rfl ((Bool.eq_false_iff.2 c6)) (fun _ => rfl) ?_
            refine .mv 20 rfl rfl rfl rfl ?_
            iterate 3 refine .sn 21 93 rfl rfl rfl rfl rfl rfl ?_
            refine .pf 21 rfl rfl rfl rfl rfl (fun _ => rfl) ?_
            refine .mv 25 rfl rfl rfl rfl ?_
            iterate 3 refine .sn 26 98 rfl rfl rfl rfl rfl rfl ?_
            refine .pf 26 rfl rfl rfl rfl rfl (fun _ => rfl) ?_
            exact .nil
          clear hS
          intro at4004 w4005 hS hI hp
          have hBw4005_w := hI.1
          have hBw4005_wL4 := hI.2
          have hv102 : sl _ 102 = .bool false := hp 30 (by decide)
          have hBw4005_w4005 := Below.refl w4005.heap.size w4005
          have hS := hS.cons hv102
          clear hp hI hv102
          show wpList _ _ _ [_] _ _
          refine list_step rfl (R := fun v w' => Below _ _ w' ∧ (VB false) v w') (does_val (x_assign rfl (hS.get 0 rfl)) rfl) ?_
          rintro vw4006 w4006 ⟨hb, he⟩
          have hBw4006_w := below_step hBw4005_w hb
          have hBw4006_wL4 := below_step hBw4005_wL4 hb
          have hBw4006_w4005 := below_step hBw4005_w4005 hb
          have hBw4006_w4006 := Below.refl w4006.heap.size w4006
          obtain rfl : vw4006 = .bool false := he
          replace hS := (((hS.nil).cons (hS.get 2 rfl)).cons (hS.get 1 rfl)).cons (hS.get 0 rfl)
          refine hS.next (v := .bool false) (d := 4) rfl (by decide) (by rfl) ?_
          clear hS
          intro at4007 hS
          refine wpList_nil ?_
          replace hS := (((hS.nil).cons (hS.get 0 rfl)).cons (hS.get 3 rfl)).cons (hS.get 2 rfl)
          (try simp only [Exit.then, Exit.inBlock])
          exact J3 _ _ x4_1_0 x4_1_1 x4_1_2 x4_1_3 x4_1_4 x4_1_5 x4_1_6 x4_1_7 x4_1_8 x4_1_9 x4_1_10 x4_1_11 x4_1_12 x4_1_13 x4_1_14 x4_1_15 x4_1_16 x4_1_17 x4_1_18 x4_1_19 x4_1_20 x4_1_21 x4_1_22 gL4_1 x4_3_0 x4_3_1 x4_3_2 x4_3_3 x4_3_4 x4_3_5 x4_3_6 x4_3_7 x4_3_8 x4_3_9 x4_3_10 x4_3_11 x4_3_12 x4_3_13 x4_3_14 x4_3_15 x4_3_16 x4_3_17 x4_3_18 x4_3_19 x4_3_20 x4_3_21 x4_3_22 gL4_3 false H hS hBw4006_w hgeLgL4_1 ((hBw4006_wL4.block gL4_1 (blk_lt hbxLgL4_1)).trans hbxLgL4_1) hgeLgL4_3 ((hBw4006_wL4.block gL4_3 (blk_lt hbxLgL4_3)).trans hbxLgL4_3) hneL4_3_1
        rw [if_pos c6] at H
        obtain ⟨t4004, At4004, H⟩ := Option.bind_eq_some_iff.mp H
        by_cases c7 : t4004 = true
        rotate_left
        · rw [if_neg c7] at H
          have hBwL4_wL4 := Below.refl wL4.heap.size wL4
          refine hK2008 _ _ ?_
          (try clear hK2008 K2008)
          refine reg_seq_tail 31 (N := 136) (bs := [(1, .pointer (some ⟨gL4_1, 0, none⟩)), (3, .pointer (some ⟨gL4_3, 0, none⟩)), (4, .bool x4_4)]) (I := fun x => Below w.heap.size w x ∧ Below wL4.heap.size wL4 x) (ps := [VB x4_4, VB x4_4, VP gL4_1 11, VI x4_1_11, VB t4001, VB t4001, VB t4001, VP gL4_1 12, VI x4_1_12, VB t4002, VB t4002, VB t4002, VP gL4_1 16, VI x4_1_16, VB t4003, VB t4003, VB t4003, VP gL4_1 19, VI x4_1_19, VB t4004, VB t4004, VB t4004, VU, VU, VU, VB false, VB false, VU, VU, VU, VB false]) (by kernel_rfl) ?_ ?_ rfl hS ⟨hBwL4_w, hBwL4_wL4⟩ ?_ ?_
          · exact fun x y hI hb => ⟨below_step hI.1 hb, below_step hI.2 hb⟩
          · exact .v (.v (.v (.v (.v (.v (.v (.v (.v (.v (.v (.v (.v (.v (.v (.v (.v (.v (.v (.v (.v (.v (.v (.v (.v (.v (.v (.v (.v (.v (.v (.nil)))))))))))))))))))))))))))))))
          · refine .ms 2 rfl rfl rfl ?_
            refine .mv 0 rfl rfl rfl rfl ?_
            refine .oy 1 73 rfl rfl rfl rfl rfl c3 (fun a w hS hI hp => does_val (x_fieldE (b := 0) rfl (hS.get 0 rfl) Try.underlying29 rfl rfl (by kernel_rfl)) rfl) ?_
            refine .oy 1 73 rfl rfl rfl rfl rfl c3 (fun a w hS hI hp => does_val (x_load1 (d := .int .i64) rfl (hp.V 2 rfl rfl) (by kernel_rfl) rfl ((blk_cell (((hI.2).block gL4_1 (blk_lt hbxLgL4_1)).trans hbxLgL4_1) 11).trans rfl)) rfl) ?_
            refine .oy 1 73 rfl rfl rfl rfl rfl c3 (fun a w hS hI hp => does_call (by kernel_rfl) (ar3 (hp.V 3 rfl rfl) (rfl) (rfl)) ((carillonref05_In.calls x4_1_11 (-32768) 32767 t4001 _  At4001).mono fun _ _ h => ⟨_, h.1, h.2.below, rfl⟩)) ?_
            refine .pt 1 4 rfl rfl rfl rfl c3 rfl rfl ?_
            refine .mv 5 rfl rfl rfl rfl ?_
            refine .oy 6 78 rfl rfl rfl rfl rfl c4 (fun a w hS hI hp => does_val (x_fieldE (b := 0) rfl (hS.get 0 rfl) Try.underlying29 rfl rfl (by kernel_rfl)) rfl) ?_
            refine .oy 6 78 rfl rfl rfl rfl rfl c4 (fun a w hS hI hp => does_val (x_load1 (d := .int .i64) rfl (hp.V 7 rfl rfl) (by kernel_rfl) rfl ((blk_cell (((hI.2).block gL4_1 (blk_lt hbxLgL4_1)).trans hbxLgL4_1) 12).trans rfl)) rfl) ?_
            refine .oy 6 78 rfl rfl rfl rfl rfl c4 (fun a w hS hI hp => does_call (by kernel_rfl) (ar3 (hp.V 8 rfl rfl) (rfl) (rfl)) ((carillonref05_In.calls x4_1_12 0 255 t4002 _  At4002).mono fun _ _ h => ⟨_, h.1, h.2.below, rfl⟩)) ?_
            refine .pt 6 9 rfl rfl rfl rfl c4 rfl rfl ?_
            refine .mv 10 rfl rfl rfl rfl ?_
            refine .oy 11 83 rfl rfl rfl rfl rfl c5 (fun a w hS hI hp => does_val (x_fieldE (b := 0) rfl (hS.get 0 rfl) Try.underlying29 rfl rfl (by kernel_rfl)) rfl) ?_
            refine .oy 11 83 rfl rfl rfl rfl rfl c5 (fun a w hS hI hp => does_val (x_load1 (d := .int .i64) rfl (hp.V 12 rfl rfl) (by kernel_rfl) rfl ((blk_cell (((hI.2).block gL4_1 (blk_lt hbxLgL4_1)).trans hbxLgL4_1) 16).trans rfl)) rfl) ?_
            refine .oy 11 83 rfl rfl rfl rfl rfl c5 (fun a w hS hI hp => does_call (by kernel_rfl) (ar3 (hp.V 13 rfl rfl) (rfl) (rfl)) ((carillonref05_In.calls x4_1_16 0 255 t4003 _  At4003).mono fun _ _ h => ⟨_, h.1, h.2.below, rfl⟩)) ?_
            refine .pt 11 14 rfl rfl rfl rfl c5 rfl rfl ?_
            refine .mv 15 rfl rfl rfl rfl ?_
            refine .oy 16 88 rfl rfl rfl rfl rfl c6 (fun a w hS hI hp => does_val (x_fieldE (b := 0) rfl (hS.get 0 rfl) Try.underlying29 rfl rfl (by kernel_rfl)) rfl) ?_
            refine .oy 16 88 rfl rfl rfl rfl rfl c6 (fun a w hS hI hp => does_val (x_load1 (d := .int .i64) rfl (hp.V 17 rfl rfl) (by kernel_rfl) rfl ((blk_cell (((hI.2).block gL4_1 (blk_lt hbxLgL4_1)).trans hbxLgL4_1) 19).trans rfl)) rfl) ?_
            refine .oy 16 88 rfl rfl rfl rfl rfl c6 (fun a w hS hI hp => does_call (by kernel_rfl) (ar3 (hp.V 18 rfl rfl) (rfl) (rfl)) ((carillonref05_In.calls x4_1_19 0 255 t4004 _  At4004).mono fun _ _ h => ⟨_, h.1, h.2.below, rfl⟩)) ?_
            refine .pt 16 19 rfl rfl rfl rfl c6 rfl rfl ?_
            refine .mv 20 rfl rfl rfl rfl ?_
            iterate 3 refine .sn 21 93 rfl rfl rfl rfl rfl ((Bool.eq_false_iff.2 c7)) ?_
            refine .pf 21 rfl rfl rfl rfl ((Bool.eq_false_iff.2 c7)) (fun _ => rfl) ?_
            refine .mv 25 rfl rfl rfl rfl ?_
            iterate 3 refine .sn 26 98 rfl rfl rfl rfl rfl rfl ?_
            refine .pf 26 rfl rfl rfl rfl rfl (fun _ => rfl) ?_
            exact .nil
          clear hS
          intro at4005 w4006 hS hI hp
          have hBw4006_w := hI.1
          have hBw4006_wL4 := hI.2
          have hv102 : sl _ 102 = .bool false := hp 30 (by decide)
          have hBw4006_w4006 := Below.refl w4006.heap.size w4006
          have hS := hS.cons hv102
          clear hp hI hv102
          show wpList _ _ _ [_] _ _
          refine list_step rfl (R := fun v w' => Below _ _ w' ∧ (VB false) v w') (does_val (x_assign rfl (hS.get 0 rfl)) rfl) ?_
          rintro vw4007 w4007 ⟨hb, he⟩
          have hBw4007_w := below_step hBw4006_w hb
          have hBw4007_wL4 := below_step hBw4006_wL4 hb
          have hBw4007_w4006 := below_step hBw4006_w4006 hb
          have hBw4007_w4007 := Below.refl w4007.heap.size w4007
          obtain rfl : vw4007 = .bool false := he
          replace hS := (((hS.nil).cons (hS.get 2 rfl)).cons (hS.get 1 rfl)).cons (hS.get 0 rfl)
          refine hS.next (v := .bool false) (d := 4) rfl (by decide) (by rfl) ?_
          clear hS
          intro at4008 hS
          refine wpList_nil ?_
          replace hS := (((hS.nil).cons (hS.get 0 rfl)).cons (hS.get 3 rfl)).cons (hS.get 2 rfl)
          (try simp only [Exit.then, Exit.inBlock])
          exact J3 _ _ x4_1_0 x4_1_1 x4_1_2 x4_1_3 x4_1_4 x4_1_5 x4_1_6 x4_1_7 x4_1_8 x4_1_9 x4_1_10 x4_1_11 x4_1_12 x4_1_13 x4_1_14 x4_1_15 x4_1_16 x4_1_17 x4_1_18 x4_1_19 x4_1_20 x4_1_21 x4_1_22 gL4_1 x4_3_0 x4_3_1 x4_3_2 x4_3_3 x4_3_4 x4_3_5 x4_3_6 x4_3_7 x4_3_8 x4_3_9 x4_3_10 x4_3_11 x4_3_12 x4_3_13 x4_3_14 x4_3_15 x4_3_16 x4_3_17 x4_3_18 x4_3_19 x4_3_20 x4_3_21 x4_3_22 gL4_3 false H hS hBw4007_w hgeLgL4_1 ((hBw4007_wL4.block gL4_1 (blk_lt hbxLgL4_1)).trans hbxLgL4_1) hgeLgL4_3 ((hBw4007_wL4.block gL4_3 (blk_lt hbxLgL4_3)).trans hbxLgL4_3) hneL4_3_1
        rw [if_pos c7] at H
        obtain ⟨t4005, At4005, H⟩ := Option.bind_eq_some_iff.mp H
        by_cases c8 : t4005 = true
        rotate_left
        · rw [if_neg c8] at H
          have hBwL4_wL4 := Below.refl wL4.heap.size wL4
          refine hK2008 _ _ ?_
          (try clear hK2008 K2008)
          refine reg_seq_tail 31 (N := 136) (bs := [(1, .pointer (some ⟨gL4_1, 0, none⟩)), (3, .pointer (some ⟨gL4_3, 0, none⟩)), (4, .bool x4_4)]) (I := fun x => Below w.heap.size w x ∧ Below wL4.heap.size wL4 x) (ps := [VB x4_4, VB x4_4, VP gL4_1 11, VI x4_1_11, VB t4001, VB t4001, VB t4001, VP gL4_1 12, VI x4_1_12, VB t4002, VB t4002, VB t4002, VP gL4_1 16, VI x4_1_16, VB t4003, VB t4003, VB t4003, VP gL4_1 19, VI x4_1_19, VB t4004, VB t4004, VB t4004, VP gL4_1 13, IsV (.agg #[.int .i64 x4_1_13, .int .i64 x4_1_14, .int .i64 x4_1_15]), VB t4005, VB t4005, VB t4005, VU, VU, VU, VB false]) (by kernel_rfl) ?_ ?_ rfl hS ⟨hBwL4_w, hBwL4_wL4⟩ ?_ ?_
          · exact fun x y hI hb => ⟨below_step hI.1 hb, below_step hI.2 hb⟩
          · exact .v (.v (.v (.v (.v (.v (.v (.v (.v (.v (.v (.v (.v (.v (.v (.v (.v (.v (.v (.v (.v (.v (.v (.v (.v (.v (.v (.v (.v (.v (.v (.nil)))))))))))))))))))))))))))))))
          · refine .ms 2 rfl rfl rfl ?_
            refine .mv 0 rfl rfl rfl rfl ?_
            refine .oy 1 73 rfl rfl rfl rfl rfl c3 (fun a w hS hI hp => does_val (x_fieldE (b := 0) rfl (hS.get 0 rfl) Try.underlying29 rfl rfl (by kernel_rfl)) rfl) ?_
            refine .oy 1 73 rfl rfl rfl rfl rfl c3 (fun a w hS hI hp => does_val (x_load1 (d := .int .i64) rfl (hp.V 2 rfl rfl) (by kernel_rfl) rfl ((blk_cell (((hI.2).block gL4_1 (blk_lt hbxLgL4_1)).trans hbxLgL4_1) 11).trans rfl)) rfl) ?_
            refine .oy 1 73 rfl rfl rfl rfl rfl c3 (fun a w hS hI hp => does_call (by kernel_rfl) (ar3 (hp.V 3 rfl rfl) (rfl) (rfl)) ((carillonref05_In.calls x4_1_11 (-32768) 32767 t4001 _  At4001).mono fun _ _ h => ⟨_, h.1, h.2.below, rfl⟩)) ?_
            refine .pt 1 4 rfl rfl rfl rfl c3 rfl rfl ?_
            refine .mv 5 rfl rfl rfl rfl ?_
            refine .oy 6 78 rfl rfl rfl rfl rfl c4 (fun a w hS hI hp => does_val (x_fieldE (b := 0) rfl (hS.get 0 rfl) Try.underlying29 rfl rfl (by kernel_rfl)) rfl) ?_
            refine .oy 6 78 rfl rfl rfl rfl rfl c4 (fun a w hS hI hp => does_val (x_load1 (d := .int .i64) rfl (hp.V 7 rfl rfl) (by kernel_rfl) rfl ((blk_cell (((hI.2).block gL4_1 (blk_lt hbxLgL4_1)).trans hbxLgL4_1) 12).trans rfl)) rfl) ?_
            refine .oy 6 78 rfl rfl rfl rfl rfl c4 (fun a w hS hI hp => does_call (by kernel_rfl) (ar3 (hp.V 8 rfl rfl) (rfl) (rfl)) ((carillonref05_In.calls x4_1_12 0 255 t4002 _  At4002).mono fun _ _ h => ⟨_, h.1, h.2.below, rfl⟩)) ?_
            refine .pt 6 9 rfl rfl rfl rfl c4 rfl rfl ?_
            refine .mv 10 rfl rfl rfl rfl ?_
            refine .oy 11 83 rfl rfl rfl rfl rfl c5 (fun a w hS hI hp => does_val (x_fieldE (b := 0) rfl (hS.get 0 rfl) Try.underlying29 rfl rfl (by kernel_rfl)) rfl) ?_
            refine .oy 11 83 rfl rfl rfl rfl rfl c5 (fun a w hS hI hp => does_val (x_load1 (d := .int .i64) rfl (hp.V 12 rfl rfl) (by kernel_rfl) rfl ((blk_cell (((hI.2).block gL4_1 (blk_lt hbxLgL4_1)).trans hbxLgL4_1) 16).trans rfl)) rfl) ?_
            refine .oy 11 83 rfl rfl rfl rfl rfl c5 (fun a w hS hI hp => does_call (by kernel_rfl) (ar3 (hp.V 13 rfl rfl) (rfl) (rfl)) ((carillonref05_In.calls x4_1_16 0 255 t4003 _  At4003).mono fun _ _ h => ⟨_, h.1, h.2.below, rfl⟩)) ?_
            refine .pt 11 14 rfl rfl rfl rfl c5 rfl rfl ?_
            refine .mv 15 rfl rfl rfl rfl ?_
            refine .oy 16 88 rfl rfl rfl rfl rfl c6 (fun a w hS hI hp => does_val (x_fieldE (b := 0) rfl (hS.get 0 rfl) Try.underlying29 rfl rfl (by kernel_rfl)) rfl) ?_
            refine .oy 16 88 rfl rfl rfl rfl rfl c6 (fun a w hS hI hp => does_val (x_load1 (d := .int .i64) rfl (hp.V 17 rfl rfl) (by kernel_rfl) rfl ((blk_cell (((hI.2).block gL4_1 (blk_lt hbxLgL4_1)).trans hbxLgL4_1) 19).trans rfl)) rfl) ?_
            refine .oy 16 88 rfl rfl rfl rfl rfl c6 (fun a w hS hI hp => does_call (by kernel_rfl) (ar3 (hp.V 18 rfl rfl) (rfl) (rfl)) ((carillonref05_In.calls x4_1_19 0 255 t4004 _  At4004).mono fun _ _ h => ⟨_, h.1, h.2.below, rfl⟩)) ?_
            refine .pt 16 19 rfl rfl rfl rfl c6 rfl rfl ?_
            refine .mv 20 rfl rfl rfl rfl ?_
            refine .oy 21 93 rfl rfl rfl rfl rfl c7 (fun a w hS hI hp => does_val (x_fieldE (b := 0) rfl (hS.get 0 rfl) Try.underlying29 rfl rfl (by kernel_rfl)) rfl) ?_
            refine .oy 21 93 rfl rfl rfl rfl rfl c7 (fun a w hS hI hp => does_loadmid (cs := [.int .i64 x4_1_13, .int .i64 x4_1_14, .int .i64 x4_1_15]) rfl (hp.V 22 rfl rfl) (((hI.2).block gL4_1 (blk_lt hbxLgL4_1)).trans hbxLgL4_1) rfl Try.underlying27 rfl (by kernel_rfl) rfl) ?_
            refine .oy 21 93 rfl rfl rfl rfl rfl c7 (fun a w hS hI hp => does_call (by kernel_rfl) (ar1 (hp.V 23 rfl rfl)) ((carillonref05_May.calls x4_1_13 x4_1_14 x4_1_15 t4005 _  At4005).mono fun _ _ h => ⟨_, h.1, h.2, rfl⟩)) ?_
            refine .pt 21 24 rfl rfl rfl rfl c7 rfl rfl ?_
            refine .mv 25 rfl rfl rfl rfl ?_
            iterate 3 refine .sn 26 98 rfl rfl rfl rfl rfl ((Bool.eq_false_iff.2 c8)) ?_
            refine .pf 26 rfl rfl rfl rfl ((Bool.eq_false_iff.2 c8)) (fun _ => rfl) ?_
            exact .nil
          clear hS
          intro at4006 w4007 hS hI hp
          have hBw4007_w := hI.1
          have hBw4007_wL4 := hI.2
          have hv102 : sl _ 102 = .bool false := hp 30 (by decide)
          have hBw4007_w4007 := Below.refl w4007.heap.size w4007
          have hS := hS.cons hv102
          clear hp hI hv102
          show wpList _ _ _ [_] _ _
          refine list_step rfl (R := fun v w' => Below _ _ w' ∧ (VB false) v w') (does_val (x_assign rfl (hS.get 0 rfl)) rfl) ?_
          rintro vw4008 w4008 ⟨hb, he⟩
          have hBw4008_w := below_step hBw4007_w hb
          have hBw4008_wL4 := below_step hBw4007_wL4 hb
          have hBw4008_w4007 := below_step hBw4007_w4007 hb
          have hBw4008_w4008 := Below.refl w4008.heap.size w4008
          obtain rfl : vw4008 = .bool false := he
          replace hS := (((hS.nil).cons (hS.get 2 rfl)).cons (hS.get 1 rfl)).cons (hS.get 0 rfl)
          refine hS.next (v := .bool false) (d := 4) rfl (by decide) (by rfl) ?_
          clear hS
          intro at4009 hS
          refine wpList_nil ?_
          replace hS := (((hS.nil).cons (hS.get 0 rfl)).cons (hS.get 3 rfl)).cons (hS.get 2 rfl)
          (try simp only [Exit.then, Exit.inBlock])
          exact J3 _ _ x4_1_0 x4_1_1 x4_1_2 x4_1_3 x4_1_4 x4_1_5 x4_1_6 x4_1_7 x4_1_8 x4_1_9 x4_1_10 x4_1_11 x4_1_12 x4_1_13 x4_1_14 x4_1_15 x4_1_16 x4_1_17 x4_1_18 x4_1_19 x4_1_20 x4_1_21 x4_1_22 gL4_1 x4_3_0 x4_3_1 x4_3_2 x4_3_3 x4_3_4 x4_3_5 x4_3_6 x4_3_7 x4_3_8 x4_3_9 x4_3_10 x4_3_11 x4_3_12 x4_3_13 x4_3_14 x4_3_15 x4_3_16 x4_3_17 x4_3_18 x4_3_19 x4_3_20 x4_3_21 x4_3_22 gL4_3 false H hS hBw4008_w hgeLgL4_1 ((hBw4008_wL4.block gL4_1 (blk_lt hbxLgL4_1)).trans hbxLgL4_1) hgeLgL4_3 ((hBw4008_wL4.block gL4_3 (blk_lt hbxLgL4_3)).trans hbxLgL4_3) hneL4_3_1
        rw [if_pos c8] at H
        obtain ⟨t4006, At4006, H⟩ := Option.bind_eq_some_iff.mp H
        have hBwL4_wL4 := Below.refl wL4.heap.size wL4
        refine hK2008 _ _ ?_
        (try clear hK2008 K2008)
        refine reg_seq_tail 31 (N := 136) (bs := [(1, .pointer (some ⟨gL4_1, 0, none⟩)), (3, .pointer (some ⟨gL4_3, 0, none⟩)), (4, .bool x4_4)]) (I := fun x => Below w.heap.size w x ∧ Below wL4.heap.size wL4 x) (ps := [VB x4_4, VB x4_4, VP gL4_1 11, VI x4_1_11, VB t4001, VB t4001, VB t4001, VP gL4_1 12, VI x4_1_12, VB t4002, VB t4002, VB t4002, VP gL4_1 16, VI x4_1_16, VB t4003, VB t4003, VB t4003, VP gL4_1 19, VI x4_1_19, VB t4004, VB t4004, VB t4004, VP gL4_1 13, IsV (.agg #[.int .i64 x4_1_13, .int .i64 x4_1_14, .int .i64 x4_1_15]), VB t4005, VB t4005, VB t4005, VP gL4_1 18, VI x4_1_18, VB t4006, VB t4006]) (by kernel_rfl) ?_ ?_ rfl hS ⟨hBwL4_w, hBwL4_wL4⟩ ?_ ?_
        · exact fun x y hI hb => ⟨below_step hI.1 hb, below_step hI.2 hb⟩
        · exact .v (.v (.v (.v (.v (.v (.v (.v (.v (.v (.v (.v (.v (.v (.v (.v (.v (.v (.v (.v (.v (.v (.v (.v (.v (.v (.v (.v (.v (.v (.v (.nil)))))))))))))))))))))))))))))))
        · refine .ms 2 rfl rfl rfl ?_
          refine .mv 0 rfl rfl rfl rfl ?_
          refine .oy 1 73 rfl rfl rfl rfl rfl c3 (fun a w hS hI hp => does_val (x_fieldE (b := 0) rfl (hS.get 0 rfl) Try.underlying29 rfl rfl (by kernel_rfl)) rfl) ?_
          refine .oy 1 73 rfl rfl rfl rfl rfl c3 (fun a w hS hI hp => does_val (x_load1 (d := .int .i64) rfl (hp.V 2 rfl rfl) (by kernel_rfl) rfl ((blk_cell (((hI.2).block gL4_1 (blk_lt hbxLgL4_1)).trans hbxLgL4_1) 11).trans rfl)) rfl) ?_
          refine .oy 1 73 rfl rfl rfl rfl rfl c3 (fun a w hS hI hp => does_call (by kernel_rfl) (ar3 (hp.V 3 rfl rfl) (rfl) (rfl)) ((carillonref05_In.calls x4_1_11 (-32768) 32767 t4001 _  At4001).mono fun _ _ h => ⟨_, h.1, h.2.below, rfl⟩)) ?_
          refine .pt 1 4 rfl rfl rfl rfl c3 rfl rfl ?_
          refine .mv 5 rfl rfl rfl rfl ?_
          refine .oy 6 78 rfl rfl rfl rfl rfl c4 (fun a w hS hI hp => does_val (x_fieldE (b := 0) rfl (hS.get 0 rfl) Try.underlying29 rfl rfl (by kernel_rfl)) rfl) ?_
          refine .oy 6 78 rfl rfl rfl rfl rfl c4 (fun a w hS hI hp => does_val (x_load1 (d := .int .i64) rfl (hp.V 7 rfl rfl) (by kernel_rfl) rfl ((blk_cell (((hI.2).block gL4_1 (blk_lt hbxLgL4_1)).trans hbxLgL4_1) 12).trans rfl)) rfl) ?_
          refine .oy 6 78 rfl rfl rfl rfl rfl c4 (fun a w hS hI hp => does_call (by kernel_rfl) (ar3 (hp.V 8 rfl rfl) (rfl) (rfl)) ((carillonref05_In.calls x4_1_12 0 255 t4002 _  At4002).mono fun _ _ h => ⟨_, h.1, h.2.below, rfl⟩)) ?_
          refine .pt 6 9 rfl rfl rfl rfl c4 rfl rfl ?_
          refine .mv 10 rfl rfl rfl rfl ?_
          refine .oy 11 83 rfl rfl rfl rfl rfl c5 (fun a w hS hI hp => does_val (x_fieldE (b := 0) rfl (hS.get 0 rfl) Try.underlying29 rfl rfl (by kernel_rfl)) rfl) ?_
          refine .oy 11 83 rfl rfl rfl rfl rfl c5 (fun a w hS hI hp => does_val (x_load1 (d := .int .i64) rfl (hp.V 12 rfl rfl) (by kernel_rfl) rfl ((blk_cell (((hI.2).block gL4_1 (blk_lt hbxLgL4_1)).trans hbxLgL4_1) 16).trans rfl)) rfl) ?_
          refine .oy 11 83 rfl rfl rfl rfl rfl c5 (fun a w hS hI hp => does_call (by kernel_rfl) (ar3 (hp.V 13 rfl rfl) (rfl) (rfl)) ((carillonref05_In.calls x4_1_16 0 255 t4003 _  At4003).mono fun _ _ h => ⟨_, h.1, h.2.below, rfl⟩)) ?_
          refine .pt 11 14 rfl rfl rfl rfl c5 rfl rfl ?_
          refine .mv 15 rfl rfl rfl rfl ?_
          refine .oy 16 88 rfl rfl rfl rfl rfl c6 (fun a w hS hI hp => does_val (x_fieldE (b := 0) rfl (hS.get 0 rfl) Try.underlying29 rfl rfl (by kernel_rfl)) rfl) ?_
          refine .oy 16 88 rfl rfl rfl rfl rfl c6 (fun a w hS hI hp => does_val (x_load1 (d := .int .i64) rfl (hp.V 17 rfl rfl) (by kernel_rfl) rfl ((blk_cell (((hI.2).block gL4_1 (blk_lt hbxLgL4_1)).trans hbxLgL4_1) 19).trans rfl)) rfl) ?_
          refine .oy 16 88 rfl rfl rfl rfl rfl c6 (fun a w hS hI hp => does_call (by kernel_rfl) (ar3 (hp.V 18 rfl rfl) (rfl) (rfl)) ((carillonref05_In.calls x4_1_19 0 255 t4004 _  At4004).mono fun _ _ h => ⟨_, h.1, h.2.below, rfl⟩)) ?_
          refine .pt 16 19 rfl rfl rfl rfl c6 rfl rfl ?_
          refine .mv 20 rfl rfl rfl rfl ?_
          refine .oy 21 93 rfl rfl rfl rfl rfl c7 (fun a w hS hI hp => does_val (x_fieldE (b := 0) rfl (hS.get 0 rfl) Try.underlying29 rfl rfl (by kernel_rfl)) rfl) ?_
          refine .oy 21 93 rfl rfl rfl rfl rfl c7 (fun a w hS hI hp => does_loadmid (cs := [.int .i64 x4_1_13, .int .i64 x4_1_14, .int .i64 x4_1_15]) rfl (hp.V 22 rfl rfl) (((hI.2).block gL4_1 (blk_lt hbxLgL4_1)).trans hbxLgL4_1) rfl Try.underlying27 rfl (by kernel_rfl) rfl) ?_
          refine .oy 21 93 rfl rfl rfl rfl rfl c7 (fun a w hS hI hp => does_call (by kernel_rfl) (ar1 (hp.V 23 rfl rfl)) ((carillonref05_May.calls x4_1_13 x4_1_14 x4_1_15 t4005 _  At4005).mono fun _ _ h => ⟨_, h.1, h.2, rfl⟩)) ?_
          refine .pt 21 24 rfl rfl rfl rfl c7 rfl rfl ?_
          refine .mv 25 rfl rfl rfl rfl ?_
          refine .oy 26 98 rfl rfl rfl rfl rfl c8 (fun a w hS hI hp => does_val (x_fieldE (b := 0) rfl (hS.get 0 rfl) Try.underlying29 rfl rfl (by kernel_rfl)) rfl) ?_
          refine .oy 26 98 rfl rfl rfl rfl rfl c8 (fun a w hS hI hp => does_val (x_load1 (d := .int .i64) rfl (hp.V 27 rfl rfl) (by kernel_rfl) rfl ((blk_cell (((hI.2).block gL4_1 (blk_lt hbxLgL4_1)).trans hbxLgL4_1) 18).trans rfl)) rfl) ?_
          refine .oy 26 98 rfl rfl rfl rfl rfl c8 (fun a w hS hI hp => does_call (by kernel_rfl) (ar3 (hp.V 28 rfl rfl) (rfl) (rfl)) ((carillonref05_In.calls x4_1_18 0 65535 t4006 _  At4006).mono fun _ _ h => ⟨_, h.1, h.2.below, rfl⟩)) ?_
          refine .pt 26 29 rfl rfl rfl rfl c8 rfl rfl ?_
          exact .nil
        clear hS
        intro at4007 w4008 hS hI hp
        have hBw4008_w := hI.1
        have hBw4008_wL4 := hI.2
        have hv102 : sl _ 102 = .bool t4006 := hp 30 (by decide)
        have hBw4008_w4008 := Below.refl w4008.heap.size w4008
        have hS := hS.cons hv102
        clear hp hI hv102
        show wpList _ _ _ [_] _ _
        refine list_step rfl (R := fun v w' => Below _ _ w' ∧ (VB t4006) v w') (does_val (x_assign rfl (hS.get 0 rfl)) rfl) ?_
        rintro vw4009 w4009 ⟨hb, he⟩
        have hBw4009_w := below_step hBw4008_w hb
        have hBw4009_wL4 := below_step hBw4008_wL4 hb
        have hBw4009_w4008 := below_step hBw4008_w4008 hb
        have hBw4009_w4009 := Below.refl w4009.heap.size w4009
        obtain rfl : vw4009 = .bool t4006 := he
        replace hS := (((hS.nil).cons (hS.get 2 rfl)).cons (hS.get 1 rfl)).cons (hS.get 0 rfl)
        refine hS.next (v := .bool t4006) (d := 4) rfl (by decide) (by rfl) ?_
        clear hS
        intro at4010 hS
        refine wpList_nil ?_
        replace hS := (((hS.nil).cons (hS.get 0 rfl)).cons (hS.get 3 rfl)).cons (hS.get 2 rfl)
        (try simp only [Exit.then, Exit.inBlock])
        exact J3 _ _ x4_1_0 x4_1_1 x4_1_2 x4_1_3 x4_1_4 x4_1_5 x4_1_6 x4_1_7 x4_1_8 x4_1_9 x4_1_10 x4_1_11 x4_1_12 x4_1_13 x4_1_14 x4_1_15 x4_1_16 x4_1_17 x4_1_18 x4_1_19 x4_1_20 x4_1_21 x4_1_22 gL4_1 x4_3_0 x4_3_1 x4_3_2 x4_3_3 x4_3_4 x4_3_5 x4_3_6 x4_3_7 x4_3_8 x4_3_9 x4_3_10 x4_3_11 x4_3_12 x4_3_13 x4_3_14 x4_3_15 x4_3_16 x4_3_17 x4_3_18 x4_3_19 x4_3_20 x4_3_21 x4_3_22 gL4_3 t4006 H hS hBw4009_w hgeLgL4_1 ((hBw4009_wL4.block gL4_1 (blk_lt hbxLgL4_1)).trans hbxLgL4_1) hgeLgL4_3 ((hBw4009_wL4.block gL4_3 (blk_lt hbxLgL4_3)).trans hbxLgL4_3) hneL4_3_1
      refine reg_float (N := 136) (bs := [(49, .bool (decide (x2_1_0 = 11))), (48, .int .i64 x2_1_0), (1, .pointer (some ⟨gL2_1, 0, none⟩)), (3, .pointer (some ⟨gL2_3, 0, none⟩)), (4, .bool x2_4)]) (I := fun x => Below w.heap.size w x ∧ Below wL2.heap.size wL2 x ∧ Below w2007.heap.size w2007 x) (C := fun x => x.heap[gL2_1]? = some (.cells (carillonref07_Check.c1 x2_1_0 x2_1_1 x2_1_2 x2_1_3 x2_1_4 x2_1_5 x2_1_6 x2_1_7 x2_1_8 x2_1_9 x2_1_10 x2_1_11 x2_1_12 x2_1_13 x2_1_14 x2_1_15 x2_1_16 x2_1_17 x2_1_18 x2_1_19 x2_1_20 x2_1_21 x2_1_22) 29 (0, 0))) [true, true, true, true, true, true, true, true, true, true, true, true, true, true, true, false, false, false, false, false, false, false, false, false, false, false, false, false] [.pointer (some ⟨gL2_1, 11, none⟩), .int .i64 x2_1_11, .pointer (some ⟨gL2_1, 12, none⟩), .int .i64 x2_1_12, .pointer (some ⟨gL2_1, 13, none⟩), .agg #[.int .i64 x2_1_13, .int .i64 x2_1_14, .int .i64 x2_1_15], .pointer (some ⟨gL2_1, 16, none⟩), .int .i64 x2_1_16, .pointer (some ⟨gL2_1, 17, none⟩), .int .u64 x2_1_17, .pointer (some ⟨gL2_1, 18, none⟩), .int .i64 x2_1_18, .pointer (some ⟨gL2_1, 19, none⟩), .int .i64 x2_1_19, .pointer (some ⟨gL2_3, 11, none⟩), undef, undef, undef, undef, undef, undef, undef, undef, undef, undef, undef, undef, undef] [0, 1, 0, 4, 0, 16, 0, 64, 0, 256, 0, 1024, 0, 4096, 3, 16387, 49167, 114703, 245823, 507967, 1032447, 2081023, 4178943, 8373247, 16764927, 33542143, 67108863, 134217727] (by kernel_rfl) (by kernel_rfl) rfl ?_ ?_ hS ⟨hBw2007_w, hBw2007_wL2, hBw2007_w2007⟩ ?_ ?_
      · exact fun x y hI hb => ⟨below_step hI.1 hb, below_step hI.2.1 hb, below_step hI.2.2 hb⟩
      · exact fun x hI => ((hI.2.1.block gL2_1 (blk_lt hbxLgL2_1)).trans hbxLgL2_1)
      · intro a hS hp
        refine .g (fun w hC => GRun.on rfl (x_fieldE (b := 0) rfl (hS.get 2 rfl) Try.underlying29 rfl rfl (by kernel_rfl))) ?_
        refine .g (fun w hC => GRun.on rfl (x_load1 (d := .int .i64) rfl ((hp.get 0 rfl rfl rfl)) (by kernel_rfl) rfl ((blk_cell ((((Below.refl _ _)).block gL2_1 (blk_lt hC)).trans hC) 11).trans rfl))) ?_
        refine .g (fun w hC => GRun.on rfl (x_fieldE (b := 0) rfl (hS.get 2 rfl) Try.underlying29 rfl rfl (by kernel_rfl))) ?_
        refine .g (fun w hC => GRun.on rfl (x_load1 (d := .int .i64) rfl ((hp.get 2 rfl rfl rfl)) (by kernel_rfl) rfl ((blk_cell ((((Below.refl _ _)).block gL2_1 (blk_lt hC)).trans hC) 12).trans rfl))) ?_
        refine .g (fun w hC => GRun.on rfl (x_fieldE (b := 0) rfl (hS.get 2 rfl) Try.underlying29 rfl rfl (by kernel_rfl))) ?_
        refine .g (fun w hC => GRun.on rfl (x_loadmid (cs := [.int .i64 x2_1_13, .int .i64 x2_1_14, .int .i64 x2_1_15]) rfl ((hp.get 4 rfl rfl rfl)) ((((Below.refl _ _)).block gL2_1 (blk_lt hC)).trans hC) rfl Try.underlying27 rfl (by kernel_rfl))) ?_
        refine .g (fun w hC => GRun.on rfl (x_fieldE (b := 0) rfl (hS.get 2 rfl) Try.underlying29 rfl rfl (by kernel_rfl))) ?_
        refine .g (fun w hC => GRun.on rfl (x_load1 (d := .int .i64) rfl ((hp.get 6 rfl rfl rfl)) (by kernel_rfl) rfl ((blk_cell ((((Below.refl _ _)).block gL2_1 (blk_lt hC)).trans hC) 16).trans rfl))) ?_
        refine .g (fun w hC => GRun.on rfl (x_fieldE (b := 0) rfl (hS.get 2 rfl) Try.underlying29 rfl rfl (by kernel_rfl))) ?_
        refine .g (fun w hC => GRun.on rfl (x_load1 (d := .int .u64) rfl ((hp.get 8 rfl rfl rfl)) (by kernel_rfl) rfl ((blk_cell ((((Below.refl _ _)).block gL2_1 (blk_lt hC)).trans hC) 17).trans rfl))) ?_
        refine .g (fun w hC => GRun.on rfl (x_fieldE (b := 0) rfl (hS.get 2 rfl) Try.underlying29 rfl rfl (by kernel_rfl))) ?_
        refine .g (fun w hC => GRun.on rfl (x_load1 (d := .int .i64) rfl ((hp.get 10 rfl rfl rfl)) (by kernel_rfl) rfl ((blk_cell ((((Below.refl _ _)).block gL2_1 (blk_lt hC)).trans hC) 18).trans rfl))) ?_
        refine .g (fun w hC => GRun.on rfl (x_fieldE (b := 0) rfl (hS.get 2 rfl) Try.underlying29 rfl rfl (by kernel_rfl))) ?_
        refine .g (fun w hC => GRun.on rfl (x_load1 (d := .int .i64) rfl ((hp.get 12 rfl rfl rfl)) (by kernel_rfl) rfl ((blk_cell ((((Below.refl _ _)).block gL2_1 (blk_lt hC)).trans hC) 19).trans rfl))) ?_
        refine .g (fun w hC => GRun.on rfl (x_fieldE (b := 0) rfl (hS.get 3 rfl) Try.underlying29 rfl rfl (by kernel_rfl))) ?_
        iterate 13 refine .t ?_
        exact .nil
      clear hS
      intro at2009 w2010 hS hp hI
      have hBw2010_w := hI.1
      have hBw2010_wL2 := hI.2.1
      have hBw2010_w2007 := hI.2.2
      have hBw2010_w2010 := Below.refl w2010.heap.size w2010
      have hS := hS.cons (show sl _ 52 = .int .i64 x2_1_11 from hp.get 1 rfl rfl rfl)
      have hS := hS.cons (show sl _ 54 = .int .i64 x2_1_12 from hp.get 3 rfl rfl rfl)
      have hS := hS.cons (show sl _ 56 = .agg #[.int .i64 x2_1_13, .int .i64 x2_1_14, .int .i64 x2_1_15] from hp.get 5 rfl rfl rfl)
      have hS := hS.cons (show sl _ 58 = .int .i64 x2_1_16 from hp.get 7 rfl rfl rfl)
      have hS := hS.cons (show sl _ 60 = .int .u64 x2_1_17 from hp.get 9 rfl rfl rfl)
      have hS := hS.cons (show sl _ 62 = .int .i64 x2_1_18 from hp.get 11 rfl rfl rfl)
      have hS := hS.cons (show sl _ 64 = .int .i64 x2_1_19 from hp.get 13 rfl rfl rfl)
      have hS := hS.cons (show sl _ 65 = .pointer (some ⟨gL2_3, 11, none⟩) from hp.get 14 rfl rfl rfl)
      clear hp hI
      show ListC _ _ _ _ [_, _, _, _, _, _, _, _, _, _, _, _, _] _ _
      refine lc_step rfl (does_store (g := gL2_3) (off := 11) (v := .int .i64 x2_1_11) (new := (carillonref07_Check.c1 x2_3_0 x2_3_1 x2_3_2 x2_3_3 x2_3_4 x2_3_5 x2_3_6 x2_3_7 x2_3_8 x2_3_9 x2_3_10 x2_1_11 x2_3_12 x2_3_13 x2_3_14 x2_3_15 x2_3_16 x2_3_17 x2_3_18 x2_3_19 x2_3_20 x2_3_21 x2_3_22)) rfl (hS.get 0 rfl) (hS.get 7 rfl) ((hBw2010_wL2.block gL2_3 (blk_lt hbxLgL2_3)).trans hbxLgL2_3) (by kernel_rfl) (by kernel_rfl) (by kernel_rfl) (by kernel_rfl)) ?_
      rintro vw2011 w2011 ⟨rfl, hbxw2011, hT⟩
      have hn2012 := hT.blk ((hBw2010_wL2.block gL2_1 (blk_lt hbxLgL2_1)).trans hbxLgL2_1) (Ne.symm hneL2_3_1)
      have hBw2011_w := hT.below hBw2010_w hgeLgL2_3 (hBw2010_w).size
      have hBw2011_w2011 := Below.refl w2011.heap.size w2011
      clear hT
      refine ⟨((hBw2011_w2011.block gL2_1 (blk_lt hn2012)).trans hn2012), ?_⟩
      refine lc_step rfl (R := fun v w' => Below _ _ w' ∧ (VP gL2_3 12) v w') (does_val (x_fieldE (b := 0) rfl (hS.get 11 rfl) Try.underlying29 rfl rfl (by kernel_rfl)) rfl) ?_
      rintro vw2013 w2013 ⟨hb, he⟩
      have hBw2013_w := below_step hBw2011_w hb
      have hBw2013_w2011 := below_step hBw2011_w2011 hb
      have hBw2013_w2013 := Below.refl w2013.heap.size w2013
      obtain rfl : vw2013 = .pointer (some ⟨gL2_3, 12, none⟩) := he
      refine ⟨((hBw2013_w2011.block gL2_1 (blk_lt hn2012)).trans hn2012), ?_⟩
      refine hS.nextC (v := .pointer (some ⟨gL2_3, 12, none⟩)) (d := 66) rfl (by decide) (by rfl) ?_
      clear hS
      intro at2014 hS
      refine lc_step rfl (does_store (g := gL2_3) (off := 12) (v := .int .i64 x2_1_12) (new := (carillonref07_Check.c1 x2_3_0 x2_3_1 x2_3_2 x2_3_3 x2_3_4 x2_3_5 x2_3_6 x2_3_7 x2_3_8 x2_3_9 x2_3_10 x2_1_11 x2_1_12 x2_3_13 x2_3_14 x2_3_15 x2_3_16 x2_3_17 x2_3_18 x2_3_19 x2_3_20 x2_3_21 x2_3_22)) rfl (hS.get 0 rfl) (hS.get 7 rfl) ((hBw2013_w2011.block gL2_3 (blk_lt hbxw2011)).trans hbxw2011) (by kernel_rfl) (by kernel_rfl) (by kernel_rfl) (by kernel_rfl)) ?_
      rintro vw2015 w2015 ⟨rfl, hbxw2015, hT⟩
      have hn2016 := hT.blk ((hBw2013_w2011.block gL2_1 (blk_lt hn2012)).trans hn2012) (Ne.symm hneL2_3_1)
      have hBw2015_w := hT.below hBw2013_w hgeLgL2_3 (hBw2013_w).size
      have hBw2015_w2015 := Below.refl w2015.heap.size w2015
      clear hT
      refine ⟨((hBw2015_w2015.block gL2_1 (blk_lt hn2016)).trans hn2016), ?_⟩
      refine lc_step rfl (R := fun v w' => Below _ _ w' ∧ (VP gL2_3 13) v w') (does_val (x_fieldE (b := 0) rfl (hS.get 12 rfl) Try.underlying29 rfl rfl (by kernel_rfl)) rfl) ?_
      rintro vw2017 w2017 ⟨hb, he⟩
      have hBw2017_w := below_step hBw2015_w hb
      have hBw2017_w2015 := below_step hBw2015_w2015 hb
      have hBw2017_w2017 := Below.refl w2017.heap.size w2017
      obtain rfl : vw2017 = .pointer (some ⟨gL2_3, 13, none⟩) := he
      refine ⟨((hBw2017_w2015.block gL2_1 (blk_lt hn2016)).trans hn2016), ?_⟩
      refine hS.nextC (v := .pointer (some ⟨gL2_3, 13, none⟩)) (d := 67) rfl (by decide) (by rfl) ?_
      clear hS
      intro at2018 hS
      refine lc_step rfl (does_store (g := gL2_3) (off := 13) (v := .agg #[.int .i64 x2_1_13, .int .i64 x2_1_14, .int .i64 x2_1_15]) (new := (carillonref07_Check.c1 x2_3_0 x2_3_1 x2_3_2 x2_3_3 x2_3_4 x2_3_5 x2_3_6 x2_3_7 x2_3_8 x2_3_9 x2_3_10 x2_1_11 x2_1_12 x2_1_13 x2_1_14 x2_1_15 x2_3_16 x2_3_17 x2_3_18 x2_3_19 x2_3_20 x2_3_21 x2_3_22)) rfl (hS.get 0 rfl) (hS.get 7 rfl) ((hBw2017_w2015.block gL2_3 (blk_lt hbxw2015)).trans hbxw2015) (by kernel_rfl) (by kernel_rfl) (by kernel_rfl) (by kernel_rfl)) ?_
      rintro vw2019 w2019 ⟨rfl, hbxw2019, hT⟩
      have hn2020 := hT.blk ((hBw2017_w2015.block gL2_1 (blk_lt hn2016)).trans hn2016) (Ne.symm hneL2_3_1)
      have hBw2019_w := hT.below hBw2017_w hgeLgL2_3 (hBw2017_w).size
      have hBw2019_w2019 := Below.refl w2019.heap.size w2019
      clear hT
      refine ⟨((hBw2019_w2019.block gL2_1 (blk_lt hn2020)).trans hn2020), ?_⟩
      refine lc_step rfl (R := fun v w' => Below _ _ w' ∧ (VP gL2_3 16) v w') (does_val (x_fieldE (b := 0) rfl (hS.get 13 rfl) Try.underlying29 rfl rfl (by kernel_rfl)) rfl) ?_
      rintro vw2021 w2021 ⟨hb, he⟩
      have hBw2021_w := below_step hBw2019_w hb
      have hBw2021_w2019 := below_step hBw2019_w2019 hb
      have hBw2021_w2021 := Below.refl w2021.heap.size w2021
      obtain rfl : vw2021 = .pointer (some ⟨gL2_3, 16, none⟩) := he
      refine ⟨((hBw2021_w2019.block gL2_1 (blk_lt hn2020)).trans hn2020), ?_⟩
      refine hS.nextC (v := .pointer (some ⟨gL2_3, 16, none⟩)) (d := 68) rfl (by decide) (by rfl) ?_
      clear hS
      intro at2022 hS
      refine lc_step rfl (does_store (g := gL2_3) (off := 16) (v := .int .i64 x2_1_16) (new := (carillonref07_Check.c1 x2_3_0 x2_3_1 x2_3_2 x2_3_3 x2_3_4 x2_3_5 x2_3_6 x2_3_7 x2_3_8 x2_3_9 x2_3_10 x2_1_11 x2_1_12 x2_1_13 x2_1_14 x2_1_15 x2_1_16 x2_3_17 x2_3_18 x2_3_19 x2_3_20 x2_3_21 x2_3_22)) rfl (hS.get 0 rfl) (hS.get 7 rfl) ((hBw2021_w2019.block gL2_3 (blk_lt hbxw2019)).trans hbxw2019) (by kernel_rfl) (by kernel_rfl) (by kernel_rfl) (by kernel_rfl)) ?_
      rintro vw2023 w2023 ⟨rfl, hbxw2023, hT⟩
      have hn2024 := hT.blk ((hBw2021_w2019.block gL2_1 (blk_lt hn2020)).trans hn2020) (Ne.symm hneL2_3_1)
      have hBw2023_w := hT.below hBw2021_w hgeLgL2_3 (hBw2021_w).size
      have hBw2023_w2023 := Below.refl w2023.heap.size w2023
      clear hT
      refine ⟨((hBw2023_w2023.block gL2_1 (blk_lt hn2024)).trans hn2024), ?_⟩
      refine lc_step rfl (R := fun v w' => Below _ _ w' ∧ (VP gL2_3 17) v w') (does_val (x_fieldE (b := 0) rfl (hS.get 14 rfl) Try.underlying29 rfl rfl (by kernel_rfl)) rfl) ?_
      rintro vw2025 w2025 ⟨hb, he⟩
      have hBw2025_w := below_step hBw2023_w hb
      have hBw2025_w2023 := below_step hBw2023_w2023 hb
      have hBw2025_w2025 := Below.refl w2025.heap.size w2025
      obtain rfl : vw2025 = .pointer (some ⟨gL2_3, 17, none⟩) := he
      refine ⟨((hBw2025_w2023.block gL2_1 (blk_lt hn2024)).trans hn2024), ?_⟩
      refine hS.nextC (v := .pointer (some ⟨gL2_3, 17, none⟩)) (d := 69) rfl (by decide) (by rfl) ?_
      clear hS
      intro at2026 hS
      refine lc_step rfl (does_store (g := gL2_3) (off := 17) (v := .int .u64 x2_1_17) (new := (carillonref07_Check.c1 x2_3_0 x2_3_1 x2_3_2 x2_3_3 x2_3_4 x2_3_5 x2_3_6 x2_3_7 x2_3_8 x2_3_9 x2_3_10 x2_1_11 x2_1_12 x2_1_13 x2_1_14 x2_1_15 x2_1_16 x2_1_17 x2_3_18 x2_3_19 x2_3_20 x2_3_21 x2_3_22)) rfl (hS.get 0 rfl) (hS.get 7 rfl) ((hBw2025_w2023.block gL2_3 (blk_lt hbxw2023)).trans hbxw2023) (by kernel_rfl) (by kernel_rfl) (by kernel_rfl) (by kernel_rfl)) ?_
      rintro vw2027 w2027 ⟨rfl, hbxw2027, hT⟩
      have hn2028 := hT.blk ((hBw2025_w2023.block gL2_1 (blk_lt hn2024)).trans hn2024) (Ne.symm hneL2_3_1)
      have hBw2027_w := hT.below hBw2025_w hgeLgL2_3 (hBw2025_w).size
      have hBw2027_w2027 := Below.refl w2027.heap.size w2027
      clear hT
      refine ⟨((hBw2027_w2027.block gL2_1 (blk_lt hn2028)).trans hn2028), ?_⟩
      refine lc_step rfl (R := fun v w' => Below _ _ w' ∧ (VP gL2_3 18) v w') (does_val (x_fieldE (b := 0) rfl (hS.get 15 rfl) Try.underlying29 rfl rfl (by kernel_rfl)) rfl) ?_
      rintro vw2029 w2029 ⟨hb, he⟩
      have hBw2029_w := below_step hBw2027_w hb
      have hBw2029_w2027 := below_step hBw2027_w2027 hb
      have hBw2029_w2029 := Below.refl w2029.heap.size w2029
      obtain rfl : vw2029 = .pointer (some ⟨gL2_3, 18, none⟩) := he
      refine ⟨((hBw2029_w2027.block gL2_1 (blk_lt hn2028)).trans hn2028), ?_⟩
      refine hS.nextC (v := .pointer (some ⟨gL2_3, 18, none⟩)) (d := 70) rfl (by decide) (by rfl) ?_
      clear hS
      intro at2030 hS
      refine lc_step rfl (does_store (g := gL2_3) (off := 18) (v := .int .i64 x2_1_18) (new := (carillonref07_Check.c1 x2_3_0 x2_3_1 x2_3_2 x2_3_3 x2_3_4 x2_3_5 x2_3_6 x2_3_7 x2_3_8 x2_3_9 x2_3_10 x2_1_11 x2_1_12 x2_1_13 x2_1_14 x2_1_15 x2_1_16 x2_1_17 x2_1_18 x2_3_19 x2_3_20 x2_3_21 x2_3_22)) rfl (hS.get 0 rfl) (hS.get 7 rfl) ((hBw2029_w2027.block gL2_3 (blk_lt hbxw2027)).trans hbxw2027) (by kernel_rfl) (by kernel_rfl) (by kernel_rfl) (by kernel_rfl)) ?_
      rintro vw2031 w2031 ⟨rfl, hbxw2031, hT⟩
      have hn2032 := hT.blk ((hBw2029_w2027.block gL2_1 (blk_lt hn2028)).trans hn2028) (Ne.symm hneL2_3_1)
      have hBw2031_w := hT.below hBw2029_w hgeLgL2_3 (hBw2029_w).size
      have hBw2031_w2031 := Below.refl w2031.heap.size w2031
      clear hT
      refine ⟨((hBw2031_w2031.block gL2_1 (blk_lt hn2032)).trans hn2032), ?_⟩
      refine lc_step rfl (R := fun v w' => Below _ _ w' ∧ (VP gL2_3 19) v w') (does_val (x_fieldE (b := 0) rfl (hS.get 16 rfl) Try.underlying29 rfl rfl (by kernel_rfl)) rfl) ?_
      rintro vw2033 w2033 ⟨hb, he⟩
      have hBw2033_w := below_step hBw2031_w hb
      have hBw2033_w2031 := below_step hBw2031_w2031 hb
      have hBw2033_w2033 := Below.refl w2033.heap.size w2033
      obtain rfl : vw2033 = .pointer (some ⟨gL2_3, 19, none⟩) := he
      refine ⟨((hBw2033_w2031.block gL2_1 (blk_lt hn2032)).trans hn2032), ?_⟩
      refine hS.nextC (v := .pointer (some ⟨gL2_3, 19, none⟩)) (d := 71) rfl (by decide) (by rfl) ?_
      clear hS
      intro at2034 hS
      refine lc_step rfl (does_store (g := gL2_3) (off := 19) (v := .int .i64 x2_1_19) (new := (carillonref07_Check.c1 x2_3_0 x2_3_1 x2_3_2 x2_3_3 x2_3_4 x2_3_5 x2_3_6 x2_3_7 x2_3_8 x2_3_9 x2_3_10 x2_1_11 x2_1_12 x2_1_13 x2_1_14 x2_1_15 x2_1_16 x2_1_17 x2_1_18 x2_1_19 x2_3_20 x2_3_21 x2_3_22)) rfl (hS.get 0 rfl) (hS.get 7 rfl) ((hBw2033_w2031.block gL2_3 (blk_lt hbxw2031)).trans hbxw2031) (by kernel_rfl) (by kernel_rfl) (by kernel_rfl) (by kernel_rfl)) ?_
      rintro vw2035 w2035 ⟨rfl, hbxw2035, hT⟩
      have hn2036 := hT.blk ((hBw2033_w2031.block gL2_1 (blk_lt hn2032)).trans hn2032) (Ne.symm hneL2_3_1)
      have hBw2035_w := hT.below hBw2033_w hgeLgL2_3 (hBw2033_w).size
      have hBw2035_w2035 := Below.refl w2035.heap.size w2035
      clear hT
      refine ⟨((hBw2035_w2035.block gL2_1 (blk_lt hn2036)).trans hn2036), ?_⟩
      refine lc_nil ?_
      replace hS := (((hS.nil).cons (hS.get 18 rfl)).cons (hS.get 17 rfl)).cons (hS.get 16 rfl)
      (try simp only [Exit.then, Exit.inBlock])
      exact J4 _ _ x2_1_0 x2_1_1 x2_1_2 x2_1_3 x2_1_4 x2_1_5 x2_1_6 x2_1_7 x2_1_8 x2_1_9 x2_1_10 x2_1_11 x2_1_12 x2_1_13 x2_1_14 x2_1_15 x2_1_16 x2_1_17 x2_1_18 x2_1_19 x2_1_20 x2_1_21 x2_1_22 gL2_1 x2_3_0 x2_3_1 x2_3_2 x2_3_3 x2_3_4 x2_3_5 x2_3_6 x2_3_7 x2_3_8 x2_3_9 x2_3_10 x2_1_11 x2_1_12 x2_1_13 x2_1_14 x2_1_15 x2_1_16 x2_1_17 x2_1_18 x2_1_19 x2_3_20 x2_3_21 x2_3_22 gL2_3 x2_4 H hS hBw2035_w hgeLgL2_1 ((hBw2035_w2035.block gL2_1 (blk_lt hn2036)).trans hn2036) hgeLgL2_3 ((hBw2035_w2035.block gL2_3 (blk_lt hbxw2035)).trans hbxw2035) hneL2_3_1
    obtain ⟨t1003, At1003, H⟩ := Option.bind_eq_some_iff.mp H
    by_cases c2 : t1003 = true
    rotate_left
    · rw [if_neg c2] at H
      refine wp_seq_k (fun K1002 hK1002 => ?_)
      refine reg_seq (N := 136) (bs := [(1, .pointer (some ⟨gL1_1, 0, none⟩)), (3, .pointer (some ⟨gL1_3, 0, none⟩)), (4, .bool x1_4)]) (I := fun x => Below w.heap.size w x ∧ Below wL1.heap.size wL1 x) (ps := [VP gL1_1 0, VI x1_1_0, VB t1003]) (by kernel_rfl) ?_ ?_ rfl hS ⟨hBwL1_w, hBwL1_wL1⟩ ?_ ?_
      · exact fun x y hI hb => ⟨below_step hI.1 hb, below_step hI.2 hb⟩
      · exact .v (.v (.v (.nil)))
      · refine .on rfl (fun a w hS hI hp => does_val (x_fieldE (b := 0) rfl (hS.get 0 rfl) Try.underlying29 rfl rfl (by kernel_rfl)) rfl) ?_
        refine .on rfl (fun a w hS hI hp => does_val (x_load1 (d := .int .i64) rfl (hp.V 0 rfl rfl) (by kernel_rfl) rfl ((blk_cell (((hI.2).block gL1_1 (blk_lt hbxLgL1_1)).trans hbxLgL1_1) 0).trans rfl)) rfl) ?_
        refine .on rfl (fun a w hS hI hp => does_call (by kernel_rfl) (ar1 (hp.V 1 rfl rfl)) ((carillonref07_targeted.calls x1_1_0 t1003 _  At1003).mono fun _ _ h => ⟨_, h.1, h.2.below, rfl⟩)) ?_
        exact .nil
      clear hS
      intro at1004 w1005 hS hI hp
      have hBw1005_w := hI.1
      have hBw1005_wL1 := hI.2
      have hv37 : sl _ 37 = .bool t1003 := hp 2 (by decide)
      have hBw1005_w1005 := Below.refl w1005.heap.size w1005
      have hS := hS.cons hv37
      clear hp hI hv37
      refine hK1002 _ _ ?_
      (try clear hK1002 K1002)
      refine wp_cond_false ((hS.get 0 rfl).trans (bF (Bool.eq_false_iff.2 c2))) ?_
      refine wp_skip ?_
      replace hS := (((hS.nil).cons (hS.get 3 rfl)).cons (hS.get 2 rfl)).cons (hS.get 1 rfl)
      (try simp only [Exit.then, Exit.inBlock])
      exact J2 _ _ x1_1_0 x1_1_1 x1_1_2 x1_1_3 x1_1_4 x1_1_5 x1_1_6 x1_1_7 x1_1_8 x1_1_9 x1_1_10 x1_1_11 x1_1_12 x1_1_13 x1_1_14 x1_1_15 x1_1_16 x1_1_17 x1_1_18 x1_1_19 x1_1_20 x1_1_21 x1_1_22 gL1_1 x1_3_0 x1_3_1 x1_3_2 x1_3_3 x1_3_4 x1_3_5 x1_3_6 x1_3_7 x1_3_8 x1_3_9 x1_3_10 x1_3_11 x1_3_12 x1_3_13 x1_3_14 x1_3_15 x1_3_16 x1_3_17 x1_3_18 x1_3_19 x1_3_20 x1_3_21 x1_3_22 gL1_3 x1_4 H hS hBw1005_w hgeLgL1_1 ((hBw1005_wL1.block gL1_1 (blk_lt hbxLgL1_1)).trans hbxLgL1_1) hgeLgL1_3 ((hBw1005_wL1.block gL1_3 (blk_lt hbxLgL1_3)).trans hbxLgL1_3) hneL1_3_1
    rw [if_pos c2] at H
    by_cases c3 : x1_4 = true
    rotate_left
    · rw [if_neg c3] at H
      refine wp_seq_k (fun K1002 hK1002 => ?_)
      refine reg_seq (N := 136) (bs := [(1, .pointer (some ⟨gL1_1, 0, none⟩)), (3, .pointer (some ⟨gL1_3, 0, none⟩)), (4, .bool x1_4)]) (I := fun x => Below w.heap.size w x ∧ Below wL1.heap.size wL1 x) (ps := [VP gL1_1 0, VI x1_1_0, VB t1003]) (by kernel_rfl) ?_ ?_ rfl hS ⟨hBwL1_w, hBwL1_wL1⟩ ?_ ?_
      · exact fun x y hI hb => ⟨below_step hI.1 hb, below_step hI.2 hb⟩
      · exact .v (.v (.v (.nil)))
      · refine .on rfl (fun a w hS hI hp => does_val (x_fieldE (b := 0) rfl (hS.get 0 rfl) Try.underlying29 rfl rfl (by kernel_rfl)) rfl) ?_
        refine .on rfl (fun a w hS hI hp => does_val (x_load1 (d := .int .i64) rfl (hp.V 0 rfl rfl) (by kernel_rfl) rfl ((blk_cell (((hI.2).block gL1_1 (blk_lt hbxLgL1_1)).trans hbxLgL1_1) 0).trans rfl)) rfl) ?_
        refine .on rfl (fun a w hS hI hp => does_call (by kernel_rfl) (ar1 (hp.V 1 rfl rfl)) ((carillonref07_targeted.calls x1_1_0 t1003 _  At1003).mono fun _ _ h => ⟨_, h.1, h.2.below, rfl⟩)) ?_
        exact .nil
      clear hS
      intro at1004 w1005 hS hI hp
      have hBw1005_w := hI.1
      have hBw1005_wL1 := hI.2
      have hv37 : sl _ 37 = .bool t1003 := hp 2 (by decide)
      have hBw1005_w1005 := Below.refl w1005.heap.size w1005
      have hS := hS.cons hv37
      clear hp hI hv37
      refine hK1002 _ _ ?_
      (try clear hK1002 K1002)
      refine wp_cond_true ((hS.get 0 rfl).trans (bT c2)) ?_
      refine wp_seq_k (fun K1006 hK1006 => ?_)
      refine reg_seq_tail 3 (N := 136) (bs := [(37, .bool t1003), (1, .pointer (some ⟨gL1_1, 0, none⟩)), (3, .pointer (some ⟨gL1_3, 0, none⟩)), (4, .bool x1_4)]) (I := fun x => Below w.heap.size w x ∧ Below wL1.heap.size wL1 x ∧ Below w1005.heap.size w1005 x) (ps := [VP gL1_1 9, IsV (.agg #[.int .u64 x1_1_9, .int .i64 x1_1_10]), VP gL1_3 9]) (by kernel_rfl) ?_ ?_ rfl hS ⟨hBw1005_w, hBw1005_wL1, hBw1005_w1005⟩ ?_ ?_
      · exact fun x y hI hb => ⟨below_step hI.1 hb, below_step hI.2.1 hb, below_step hI.2.2 hb⟩
      · exact .v (.v (.v (.nil)))
      · refine .on rfl (fun a w hS hI hp => does_val (x_fieldE (b := 0) rfl (hS.get 1 rfl) Try.underlying29 rfl rfl (by kernel_rfl)) rfl) ?_
        refine .on rfl (fun a w hS hI hp => does_loadmid (cs := [.int .u64 x1_1_9, .int .i64 x1_1_10]) rfl (hp.V 0 rfl rfl) (((hI.2.1).block gL1_1 (blk_lt hbxLgL1_1)).trans hbxLgL1_1) rfl Try.underlying25 rfl (by kernel_rfl) rfl) ?_
        refine .on rfl (fun a w hS hI hp => does_val (x_fieldE (b := 0) rfl (hS.get 2 rfl) Try.underlying29 rfl rfl (by kernel_rfl)) rfl) ?_
        exact .nil
      clear hS
      intro at1007 w1008 hS hI hp
      have hBw1008_w := hI.1
      have hBw1008_wL1 := hI.2.1
      have hBw1008_w1005 := hI.2.2
      replace hS := (((hS.nil).cons (hS.get 3 rfl)).cons (hS.get 2 rfl)).cons (hS.get 1 rfl)
      have hv39 : sl _ 39 = .agg #[.int .u64 x1_1_9, .int .i64 x1_1_10] := hp 1 (by decide)
      have hv40 : sl _ 40 = .pointer (some ⟨gL1_3, 9, none⟩) := hp 2 (by decide)
      have hBw1008_w1008 := Below.refl w1008.heap.size w1008
      have hS := hS.cons hv39
      have hS := hS.cons hv40
      clear hp hI hv39 hv40
      show wpList _ _ _ [_] _ _
      refine list_step rfl (does_store (g := gL1_3) (off := 9) (v := .agg #[.int .u64 x1_1_9, .int .i64 x1_1_10]) (new := (carillonref07_Check.c1 x1_3_0 x1_3_1 x1_3_2 x1_3_3 x1_3_4 x1_3_5 x1_3_6 x1_3_7 x1_3_8 x1_1_9 x1_1_10 x1_3_11 x1_3_12 x1_3_13 x1_3_14 x1_3_15 x1_3_16 x1_3_17 x1_3_18 x1_3_19 x1_3_20 x1_3_21 x1_3_22)) rfl (hS.get 0 rfl) (hS.get 1 rfl) ((hBw1008_wL1.block gL1_3 (blk_lt hbxLgL1_3)).trans hbxLgL1_3) (by kernel_rfl) (by kernel_rfl) (by kernel_rfl) (by kernel_rfl)) ?_
      rintro vw1009 w1009 ⟨rfl, hbxw1009, hT⟩
      have hn1010 := hT.blk ((hBw1008_wL1.block gL1_1 (blk_lt hbxLgL1_1)).trans hbxLgL1_1) (Ne.symm hneL1_3_1)
      have hBw1009_w := hT.below hBw1008_w hgeLgL1_3 (hBw1008_w).size
      have hBw1009_w1009 := Below.refl w1009.heap.size w1009
      clear hT
      refine wpList_nil ?_
      refine hK1006 _ _ ?_
      (try clear hK1006 K1006)
      refine reg_seq_tail 6 (N := 136) (bs := [(40, .pointer (some ⟨gL1_3, 9, none⟩)), (39, .agg #[.int .u64 x1_1_9, .int .i64 x1_1_10]), (1, .pointer (some ⟨gL1_1, 0, none⟩)), (3, .pointer (some ⟨gL1_3, 0, none⟩)), (4, .bool x1_4)]) (I := fun x => Below w.heap.size w x ∧ Below w1009.heap.size w1009 x) (ps := [VB x1_4, VB x1_4, VU, VU, VU, VB false]) (by kernel_rfl) ?_ ?_ rfl hS ⟨hBw1009_w, hBw1009_w1009⟩ ?_ ?_
      · exact fun x y hI hb => ⟨below_step hI.1 hb, below_step hI.2 hb⟩
      · exact .v (.v (.v (.v (.v (.v (.nil))))))
      · refine .ms 4 rfl rfl rfl ?_
        refine .mv 0 rfl rfl rfl rfl ?_
        iterate 3 refine .sn 1 42 rfl rfl rfl rfl rfl ((Bool.eq_false_iff.2 c3)) ?_
        refine .pf 1 rfl rfl rfl rfl ((Bool.eq_false_iff.2 c3)) (fun _ => rfl) ?_
        exact .nil
      clear hS
      intro at1011 w1012 hS hI hp
      have hBw1012_w := hI.1
      have hBw1012_w1009 := hI.2
      replace hS := (((hS.nil).cons (hS.get 4 rfl)).cons (hS.get 3 rfl)).cons (hS.get 2 rfl)
      have hv46 : sl _ 46 = .bool false := hp 5 (by decide)
      have hBw1012_w1012 := Below.refl w1012.heap.size w1012
      have hS := hS.cons hv46
      clear hp hI hv46
      show wpList _ _ _ [_] _ _
      refine list_step rfl (R := fun v w' => Below _ _ w' ∧ (VB false) v w') (does_val (x_assign rfl (hS.get 0 rfl)) rfl) ?_
      rintro vw1013 w1013 ⟨hb, he⟩
      have hBw1013_w := below_step hBw1012_w hb
      have hBw1013_w1009 := below_step hBw1012_w1009 hb
      have hBw1013_w1012 := below_step hBw1012_w1012 hb
      have hBw1013_w1013 := Below.refl w1013.heap.size w1013
      obtain rfl : vw1013 = .bool false := he
      replace hS := (((hS.nil).cons (hS.get 2 rfl)).cons (hS.get 1 rfl)).cons (hS.get 0 rfl)
      refine hS.next (v := .bool false) (d := 4) rfl (by decide) (by rfl) ?_
      clear hS
      intro at1014 hS
      refine wpList_nil ?_
      replace hS := (((hS.nil).cons (hS.get 0 rfl)).cons (hS.get 3 rfl)).cons (hS.get 2 rfl)
      (try simp only [Exit.then, Exit.inBlock])
      exact J2 _ _ x1_1_0 x1_1_1 x1_1_2 x1_1_3 x1_1_4 x1_1_5 x1_1_6 x1_1_7 x1_1_8 x1_1_9 x1_1_10 x1_1_11 x1_1_12 x1_1_13 x1_1_14 x1_1_15 x1_1_16 x1_1_17 x1_1_18 x1_1_19 x1_1_20 x1_1_21 x1_1_22 gL1_1 x1_3_0 x1_3_1 x1_3_2 x1_3_3 x1_3_4 x1_3_5 x1_3_6 x1_3_7 x1_3_8 x1_1_9 x1_1_10 x1_3_11 x1_3_12 x1_3_13 x1_3_14 x1_3_15 x1_3_16 x1_3_17 x1_3_18 x1_3_19 x1_3_20 x1_3_21 x1_3_22 gL1_3 false H hS hBw1013_w hgeLgL1_1 ((hBw1013_w1009.block gL1_1 (blk_lt hn1010)).trans hn1010) hgeLgL1_3 ((hBw1013_w1009.block gL1_3 (blk_lt hbxw1009)).trans hbxw1009) hneL1_3_1
    rw [if_pos c3] at H
    obtain ⟨t1011, At1011, H⟩ := Option.bind_eq_some_iff.mp H
    refine wp_seq_k (fun K1002 hK1002 => ?_)
    refine reg_seq (N := 136) (bs := [(1, .pointer (some ⟨gL1_1, 0, none⟩)), (3, .pointer (some ⟨gL1_3, 0, none⟩)), (4, .bool x1_4)]) (I := fun x => Below w.heap.size w x ∧ Below wL1.heap.size wL1 x) (ps := [VP gL1_1 0, VI x1_1_0, VB t1003]) (by kernel_rfl) ?_ ?_ rfl hS ⟨hBwL1_w, hBwL1_wL1⟩ ?_ ?_
    · exact fun x y hI hb => ⟨below_step hI.1 hb, below_step hI.2 hb⟩
    · exact .v (.v (.v (.nil)))
    · refine .on rfl (fun a w hS hI hp => does_val (x_fieldE (b := 0) rfl (hS.get 0 rfl) Try.underlying29 rfl rfl (by kernel_rfl)) rfl) ?_
      refine .on rfl (fun a w hS hI hp => does_val (x_load1 (d := .int .i64) rfl (hp.V 0 rfl rfl) (by kernel_rfl) rfl ((blk_cell (((hI.2).block gL1_1 (blk_lt hbxLgL1_1)).trans hbxLgL1_1) 0).trans rfl)) rfl) ?_
      refine .on rfl (fun a w hS hI hp => does_call (by kernel_rfl) (ar1 (hp.V 1 rfl rfl)) ((carillonref07_targeted.calls x1_1_0 t1003 _  At1003).mono fun _ _ h => ⟨_, h.1, h.2.below, rfl⟩)) ?_
      exact .nil
    clear hS
    intro at1004 w1005 hS hI hp
    have hBw1005_w := hI.1
    have hBw1005_wL1 := hI.2
    have hv37 : sl _ 37 = .bool t1003 := hp 2 (by decide)
    have hBw1005_w1005 := Below.refl w1005.heap.size w1005
    have hS := hS.cons hv37
    clear hp hI hv37
    refine hK1002 _ _ ?_
    (try clear hK1002 K1002)
    refine wp_cond_true ((hS.get 0 rfl).trans (bT c2)) ?_
    refine wp_seq_k (fun K1006 hK1006 => ?_)
    refine reg_seq_tail 3 (N := 136) (bs := [(37, .bool t1003), (1, .pointer (some ⟨gL1_1, 0, none⟩)), (3, .pointer (some ⟨gL1_3, 0, none⟩)), (4, .bool x1_4)]) (I := fun x => Below w.heap.size w x ∧ Below wL1.heap.size wL1 x ∧ Below w1005.heap.size w1005 x) (ps := [VP gL1_1 9, IsV (.agg #[.int .u64 x1_1_9, .int .i64 x1_1_10]), VP gL1_3 9]) (by kernel_rfl) ?_ ?_ rfl hS ⟨hBw1005_w, hBw1005_wL1, hBw1005_w1005⟩ ?_ ?_
    · exact fun x y hI hb => ⟨below_step hI.1 hb, below_step hI.2.1 hb, below_step hI.2.2 hb⟩
    · exact .v (.v (.v (.nil)))
    · refine .on rfl (fun a w hS hI hp => does_val (x_fieldE (b := 0) rfl (hS.get 1 rfl) Try.underlying29 rfl rfl (by kernel_rfl)) rfl) ?_
      refine .on rfl (fun a w hS hI hp => does_loadmid (cs := [.int .u64 x1_1_9, .int .i64 x1_1_10]) rfl (hp.V 0 rfl rfl) (((hI.2.1).block gL1_1 (blk_lt hbxLgL1_1)).trans hbxLgL1_1) rfl Try.underlying25 rfl (by kernel_rfl) rfl) ?_
      refine .on rfl (fun a w hS hI hp => does_val (x_fieldE (b := 0) rfl (hS.get 2 rfl) Try.underlying29 rfl rfl (by kernel_rfl)) rfl) ?_
      exact .nil
    clear hS
    intro at1007 w1008 hS hI hp
    have hBw1008_w := hI.1
    have hBw1008_wL1 := hI.2.1
    have hBw1008_w1005 := hI.2.2
    replace hS := (((hS.nil).cons (hS.get 3 rfl)).cons (hS.get 2 rfl)).cons (hS.get 1 rfl)
    have hv39 : sl _ 39 = .agg #[.int .u64 x1_1_9, .int .i64 x1_1_10] := hp 1 (by decide)
    have hv40 : sl _ 40 = .pointer (some ⟨gL1_3, 9, none⟩) := hp 2 (by decide)
    have hBw1008_w1008 := Below.refl w1008.heap.size w1008
    have hS := hS.cons hv39
    have hS := hS.cons hv40
    clear hp hI hv39 hv40
    show wpList _ _ _ [_] _ _
    refine list_step rfl (does_store (g := gL1_3) (off := 9) (v := .agg #[.int .u64 x1_1_9, .int .i64 x1_1_10]) (new := (carillonref07_Check.c1 x1_3_0 x1_3_1 x1_3_2 x1_3_3 x1_3_4 x1_3_5 x1_3_6 x1_3_7 x1_3_8 x1_1_9 x1_1_10 x1_3_11 x1_3_12 x1_3_13 x1_3_14 x1_3_15 x1_3_16 x1_3_17 x1_3_18 x1_3_19 x1_3_20 x1_3_21 x1_3_22)) rfl (hS.get 0 rfl) (hS.get 1 rfl) ((hBw1008_wL1.block gL1_3 (blk_lt hbxLgL1_3)).trans hbxLgL1_3) (by kernel_rfl) (by kernel_rfl) (by kernel_rfl) (by kernel_rfl)) ?_
    rintro vw1009 w1009 ⟨rfl, hbxw1009, hT⟩
    have hn1010 := hT.blk ((hBw1008_wL1.block gL1_1 (blk_lt hbxLgL1_1)).trans hbxLgL1_1) (Ne.symm hneL1_3_1)
    have hBw1009_w := hT.below hBw1008_w hgeLgL1_3 (hBw1008_w).size
    have hBw1009_w1009 := Below.refl w1009.heap.size w1009
    clear hT
    refine wpList_nil ?_
    refine hK1006 _ _ ?_
    (try clear hK1006 K1006)
    refine reg_seq_tail 6 (N := 136) (bs := [(40, .pointer (some ⟨gL1_3, 9, none⟩)), (39, .agg #[.int .u64 x1_1_9, .int .i64 x1_1_10]), (1, .pointer (some ⟨gL1_1, 0, none⟩)), (3, .pointer (some ⟨gL1_3, 0, none⟩)), (4, .bool x1_4)]) (I := fun x => Below w.heap.size w x ∧ Below w1009.heap.size w1009 x) (ps := [VB x1_4, VB x1_4, VP gL1_1 9, IsV (.agg #[.int .u64 x1_1_9, .int .i64 x1_1_10]), VB t1011, VB t1011]) (by kernel_rfl) ?_ ?_ rfl hS ⟨hBw1009_w, hBw1009_w1009⟩ ?_ ?_
    · exact fun x y hI hb => ⟨below_step hI.1 hb, below_step hI.2 hb⟩
    · exact .v (.v (.v (.v (.v (.v (.nil))))))
    · refine .ms 4 rfl rfl rfl ?_
      refine .mv 0 rfl rfl rfl rfl ?_
      refine .oy 1 42 rfl rfl rfl rfl rfl c3 (fun a w hS hI hp => does_val (x_fieldE (b := 0) rfl (hS.get 2 rfl) Try.underlying29 rfl rfl (by kernel_rfl)) rfl) ?_
      refine .oy 1 42 rfl rfl rfl rfl rfl c3 (fun a w hS hI hp => does_loadmid (cs := [.int .u64 x1_1_9, .int .i64 x1_1_10]) rfl (hp.V 2 rfl rfl) (((hI.2).block gL1_1 (blk_lt hn1010)).trans hn1010) rfl Try.underlying25 rfl (by kernel_rfl) rfl) ?_
      refine .oy 1 42 rfl rfl rfl rfl rfl c3 (fun a w hS hI hp => does_call (by kernel_rfl) (ar1 (hp.V 3 rfl rfl)) ((carillonref04_May.calls x1_1_9 x1_1_10 t1011 _  At1011).mono fun _ _ h => ⟨_, h.1, h.2, rfl⟩)) ?_
      refine .pt 1 4 rfl rfl rfl rfl c3 rfl rfl ?_
      exact .nil
    clear hS
    intro at1012 w1013 hS hI hp
    have hBw1013_w := hI.1
    have hBw1013_w1009 := hI.2
    replace hS := (((hS.nil).cons (hS.get 4 rfl)).cons (hS.get 3 rfl)).cons (hS.get 2 rfl)
    have hv46 : sl _ 46 = .bool t1011 := hp 5 (by decide)
    have hBw1013_w1013 := Below.refl w1013.heap.size w1013
    have hS := hS.cons hv46
    clear hp hI hv46
    show wpList _ _ _ [_] _ _
    refine list_step rfl (R := fun v w' => Below _ _ w' ∧ (VB t1011) v w') (does_val (x_assign rfl (hS.get 0 rfl)) rfl) ?_
    rintro vw1014 w1014 ⟨hb, he⟩
    have hBw1014_w := below_step hBw1013_w hb
    have hBw1014_w1009 := below_step hBw1013_w1009 hb
    have hBw1014_w1013 := below_step hBw1013_w1013 hb
    have hBw1014_w1014 := Below.refl w1014.heap.size w1014
    obtain rfl : vw1014 = .bool t1011 := he
    replace hS := (((hS.nil).cons (hS.get 2 rfl)).cons (hS.get 1 rfl)).cons (hS.get 0 rfl)
    refine hS.next (v := .bool t1011) (d := 4) rfl (by decide) (by rfl) ?_
    clear hS
    intro at1015 hS
    refine wpList_nil ?_
    replace hS := (((hS.nil).cons (hS.get 0 rfl)).cons (hS.get 3 rfl)).cons (hS.get 2 rfl)
    (try simp only [Exit.then, Exit.inBlock])
    exact J2 _ _ x1_1_0 x1_1_1 x1_1_2 x1_1_3 x1_1_4 x1_1_5 x1_1_6 x1_1_7 x1_1_8 x1_1_9 x1_1_10 x1_1_11 x1_1_12 x1_1_13 x1_1_14 x1_1_15 x1_1_16 x1_1_17 x1_1_18 x1_1_19 x1_1_20 x1_1_21 x1_1_22 gL1_1 x1_3_0 x1_3_1 x1_3_2 x1_3_3 x1_3_4 x1_3_5 x1_3_6 x1_3_7 x1_3_8 x1_1_9 x1_1_10 x1_3_11 x1_3_12 x1_3_13 x1_3_14 x1_3_15 x1_3_16 x1_3_17 x1_3_18 x1_3_19 x1_3_20 x1_3_21 x1_3_22 gL1_3 t1011 H hS hBw1014_w hgeLgL1_1 ((hBw1014_w1009.block gL1_1 (blk_lt hn1010)).trans hn1010) hgeLgL1_3 ((hBw1014_w1009.block gL1_3 (blk_lt hbxw1009)).trans hbxw1009) hneL1_3_1
  obtain ⟨t21, At21, H⟩ := Option.bind_eq_some_iff.mp H
  by_cases c2 : t21 = true
  rotate_left
  · rw [if_neg c2] at H
    refine wp_seq_k (fun K20 hK20 => ?_)
    refine reg_seq (N := 136) (bs := [(4, .bool true), (3, .pointer (some ⟨g13, 0, none⟩)), (1, .pointer (some ⟨g4, 0, none⟩))]) (I := fun x => Below w.heap.size w x ∧ Below w3.heap.size w3 x ∧ Below w9.heap.size w9 x ∧ Below w15.heap.size w15 x ∧ Below w18.heap.size w18 x) (ps := [VP g4 0, VI a0_0, VB t21]) (by kernel_rfl) ?_ ?_ rfl hS ⟨hBw18_w, hBw18_w3, hBw18_w9, hBw18_w15, hBw18_w18⟩ ?_ ?_
    · exact fun x y hI hb => ⟨below_step hI.1 hb, below_step hI.2.1 hb, below_step hI.2.2.1 hb, below_step hI.2.2.2.1 hb, below_step hI.2.2.2.2 hb⟩
    · exact .v (.v (.v (.nil)))
    · refine .on rfl (fun a w hS hI hp => does_val (x_fieldE (b := 0) rfl (hS.get 2 rfl) Try.underlying29 rfl rfl (by kernel_rfl)) rfl) ?_
      refine .on rfl (fun a w hS hI hp => does_val (x_load1 (d := .int .i64) rfl (hp.V 0 rfl rfl) (by kernel_rfl) rfl ((blk_cell (((hI.2.1).block g4 (blk_lt hbxg4)).trans hbxg4) 0).trans rfl)) rfl) ?_
      refine .on rfl (fun a w hS hI hp => does_call (by kernel_rfl) (ar1 (hp.V 1 rfl rfl)) ((carillonref07_stamped.calls a0_0 t21 _  At21).mono fun _ _ h => ⟨_, h.1, h.2.below, rfl⟩)) ?_
      exact .nil
    clear hS
    intro at22 w23 hS hI hp
    have hBw23_w := hI.1
    have hBw23_w3 := hI.2.1
    have hBw23_w9 := hI.2.2.1
    have hBw23_w15 := hI.2.2.2.1
    have hBw23_w18 := hI.2.2.2.2
    have hv25 : sl _ 25 = .bool t21 := hp 2 (by decide)
    have hBw23_w23 := Below.refl w23.heap.size w23
    have hS := hS.cons hv25
    clear hp hI hv25
    refine hK20 _ _ ?_
    (try clear hK20 K20)
    refine wp_cond_false ((hS.get 0 rfl).trans (bF (Bool.eq_false_iff.2 c2))) ?_
    refine wp_skip ?_
    replace hS := (((hS.nil).cons (hS.get 1 rfl)).cons (hS.get 2 rfl)).cons (hS.get 3 rfl)
    (try simp only [Exit.then, Exit.inBlock])
    exact J1 _ _ a0_0 a0_1 a0_2 a0_3 a0_4 a0_5 a0_6 a0_7 a0_8 a0_9 a0_10 a0_11 a0_12 a0_13 a0_14 a0_15 a0_16 a0_17 a0_18 a0_19 a0_20 a0_21 a0_22 g4 a0_0 a0_1 a0_2 a0_3 a0_4 a0_5 a0_6 a0_7 0 0 0 0 0 0 0 0 0 0 0 0 0 0 0 g13 true H hS hBw23_w hgeg4 ((hBw23_w3.block g4 (blk_lt hbxg4)).trans hbxg4) (Nat.le_trans (hBw9_w).size hgeg13) ((hBw23_w15.block g13 (blk_lt hbxw15)).trans hbxw15) hne14
  rw [if_pos c2] at H
  obtain ⟨t28, At28, H⟩ := Option.bind_eq_some_iff.mp H
  refine wp_seq_k (fun K20 hK20 => ?_)
  refine reg_seq (N := 136) (bs := [(4, .bool true), (3, .pointer (some ⟨g13, 0, none⟩)), (1, .pointer (some ⟨g4, 0, none⟩))]) (I := fun x => Below w.heap.size w x ∧ Below w3.heap.size w3 x ∧ Below w9.heap.size w9 x ∧ Below w15.heap.size w15 x ∧ Below w18.heap.size w18 x) (ps := [VP g4 0, VI a0_0, VB t21]) (by kernel_rfl) ?_ ?_ rfl hS ⟨hBw18_w, hBw18_w3, hBw18_w9, hBw18_w15, hBw18_w18⟩ ?_ ?_
  · exact fun x y hI hb => ⟨below_step hI.1 hb, below_step hI.2.1 hb, below_step hI.2.2.1 hb, below_step hI.2.2.2.1 hb, below_step hI.2.2.2.2 hb⟩
  · exact .v (.v (.v (.nil)))
  · refine .on rfl (fun a w hS hI hp => does_val (x_fieldE (b := 0) rfl (hS.get 2 rfl) Try.underlying29 rfl rfl (by kernel_rfl)) rfl) ?_
    refine .on rfl (fun a w hS hI hp => does_val (x_load1 (d := .int .i64) rfl (hp.V 0 rfl rfl) (by kernel_rfl) rfl ((blk_cell (((hI.2.1).block g4 (blk_lt hbxg4)).trans hbxg4) 0).trans rfl)) rfl) ?_
    refine .on rfl (fun a w hS hI hp => does_call (by kernel_rfl) (ar1 (hp.V 1 rfl rfl)) ((carillonref07_stamped.calls a0_0 t21 _  At21).mono fun _ _ h => ⟨_, h.1, h.2.below, rfl⟩)) ?_
    exact .nil
  clear hS
  intro at22 w23 hS hI hp
  have hBw23_w := hI.1
  have hBw23_w3 := hI.2.1
  have hBw23_w9 := hI.2.2.1
  have hBw23_w15 := hI.2.2.2.1
  have hBw23_w18 := hI.2.2.2.2
  have hv25 : sl _ 25 = .bool t21 := hp 2 (by decide)
  have hBw23_w23 := Below.refl w23.heap.size w23
  have hS := hS.cons hv25
  clear hp hI hv25
  refine hK20 _ _ ?_
  (try clear hK20 K20)
  refine wp_cond_true ((hS.get 0 rfl).trans (bT c2)) ?_
  refine wp_seq_k (fun K24 hK24 => ?_)
  refine reg_seq_tail 3 (N := 136) (bs := [(25, .bool t21), (4, .bool true), (3, .pointer (some ⟨g13, 0, none⟩)), (1, .pointer (some ⟨g4, 0, none⟩))]) (I := fun x => Below w.heap.size w x ∧ Below w3.heap.size w3 x ∧ Below w9.heap.size w9 x ∧ Below w15.heap.size w15 x ∧ Below w23.heap.size w23 x) (ps := [VP g4 8, VI a0_8, VP g13 8]) (by kernel_rfl) ?_ ?_ rfl hS ⟨hBw23_w, hBw23_w3, hBw23_w9, hBw23_w15, hBw23_w23⟩ ?_ ?_
  · exact fun x y hI hb => ⟨below_step hI.1 hb, below_step hI.2.1 hb, below_step hI.2.2.1 hb, below_step hI.2.2.2.1 hb, below_step hI.2.2.2.2 hb⟩
  · exact .v (.v (.v (.nil)))
  · refine .on rfl (fun a w hS hI hp => does_val (x_fieldE (b := 0) rfl (hS.get 3 rfl) Try.underlying29 rfl rfl (by kernel_rfl)) rfl) ?_
    refine .on rfl (fun a w hS hI hp => does_val (x_load1 (d := .int .i64) rfl (hp.V 0 rfl rfl) (by kernel_rfl) rfl ((blk_cell (((hI.2.1).block g4 (blk_lt hbxg4)).trans hbxg4) 8).trans rfl)) rfl) ?_
    refine .on rfl (fun a w hS hI hp => does_val (x_fieldE (b := 0) rfl (hS.get 2 rfl) Try.underlying29 rfl rfl (by kernel_rfl)) rfl) ?_
    exact .nil
  clear hS
  intro at25 w26 hS hI hp
  have hBw26_w := hI.1
  have hBw26_w3 := hI.2.1
  have hBw26_w9 := hI.2.2.1
  have hBw26_w15 := hI.2.2.2.1
  have hBw26_w23 := hI.2.2.2.2
  replace hS := (((hS.nil).cons (hS.get 3 rfl)).cons (hS.get 2 rfl)).cons (hS.get 1 rfl)
  have hv27 : sl _ 27 = .int .i64 a0_8 := hp 1 (by decide)
  have hv28 : sl _ 28 = .pointer (some ⟨g13, 8, none⟩) := hp 2 (by decide)
  have hBw26_w26 := Below.refl w26.heap.size w26
  have hS := hS.cons hv27
  have hS := hS.cons hv28
  clear hp hI hv27 hv28
  show wpList _ _ _ [_] _ _
  refine list_step rfl (does_store (g := g13) (off := 8) (v := .int .i64 a0_8) (new := (carillonref07_Check.c1 a0_0 a0_1 a0_2 a0_3 a0_4 a0_5 a0_6 a0_7 a0_8 0 0 0 0 0 0 0 0 0 0 0 0 0 0)) rfl (hS.get 0 rfl) (hS.get 1 rfl) ((hBw26_w15.block g13 (blk_lt hbxw15)).trans hbxw15) (by kernel_rfl) (by kernel_rfl) (by kernel_rfl) (by kernel_rfl)) ?_
  rintro vw27 w27 ⟨rfl, hbxw27, hT⟩
  have hBw27_w := hT.below hBw26_w (Nat.le_trans (hBw9_w).size hgeg13) (hBw26_w).size
  have hBw27_w3 := hT.below hBw26_w3 (Nat.le_trans (hBw9_w3).size hgeg13) (hBw26_w3).size
  have hBw27_w9 := hT.below hBw26_w9 hgeg13 (hBw26_w9).size
  have hBw27_w27 := Below.refl w27.heap.size w27
  clear hT
  refine wpList_nil ?_
  refine hK24 _ _ ?_
  (try clear hK24 K24)
  refine reg_seq_tail 6 (N := 136) (bs := [(28, .pointer (some ⟨g13, 8, none⟩)), (27, .int .i64 a0_8), (4, .bool true), (3, .pointer (some ⟨g13, 0, none⟩)), (1, .pointer (some ⟨g4, 0, none⟩))]) (I := fun x => Below w.heap.size w x ∧ Below w3.heap.size w3 x ∧ Below w9.heap.size w9 x ∧ Below w27.heap.size w27 x) (ps := [VB true, VB true, VP g4 8, VI a0_8, VB t28, VB t28]) (by kernel_rfl) ?_ ?_ rfl hS ⟨hBw27_w, hBw27_w3, hBw27_w9, hBw27_w27⟩ ?_ ?_
  · exact fun x y hI hb => ⟨below_step hI.1 hb, below_step hI.2.1 hb, below_step hI.2.2.1 hb, below_step hI.2.2.2 hb⟩
  · exact .v (.v (.v (.v (.v (.v (.nil))))))
  · refine .ms 2 rfl rfl rfl ?_
    refine .mv 0 rfl rfl rfl rfl ?_
    refine .oy 1 30 rfl rfl rfl rfl rfl rfl (fun a w hS hI hp => does_val (x_fieldE (b := 0) rfl (hS.get 4 rfl) Try.underlying29 rfl rfl (by kernel_rfl)) rfl) ?_
    refine .oy 1 30 rfl rfl rfl rfl rfl rfl (fun a w hS hI hp => does_val (x_load1 (d := .int .i64) rfl (hp.V 2 rfl rfl) (by kernel_rfl) rfl ((blk_cell (((hI.2.1).block g4 (blk_lt hbxg4)).trans hbxg4) 8).trans rfl)) rfl) ?_
    refine .oy 1 30 rfl rfl rfl rfl rfl rfl (fun a w hS hI hp => does_call (by kernel_rfl) (ar1 (hp.V 3 rfl rfl)) ((carillonref02_May.calls a0_8 t28 _  At28).mono fun _ _ h => ⟨_, h.1, h.2.below, rfl⟩)) ?_
    refine .pt 1 4 rfl rfl rfl rfl rfl rfl rfl ?_
    exact .nil
  clear hS
  intro at29 w30 hS hI hp
  have hBw30_w := hI.1
  have hBw30_w3 := hI.2.1
  have hBw30_w9 := hI.2.2.1
  have hBw30_w27 := hI.2.2.2
  replace hS := (((hS.nil).cons (hS.get 4 rfl)).cons (hS.get 3 rfl)).cons (hS.get 2 rfl)
  have hv34 : sl _ 34 = .bool t28 := hp 5 (by decide)
  have hBw30_w30 := Below.refl w30.heap.size w30
  have hS := hS.cons hv34
  clear hp hI hv34
  show wpList _ _ _ [_] _ _
  refine list_step rfl (R := fun v w' => Below _ _ w' ∧ (VB t28) v w') (does_val (x_assign rfl (hS.get 0 rfl)) rfl) ?_
  rintro vw31 w31 ⟨hb, he⟩
  have hBw31_w := below_step hBw30_w hb
  have hBw31_w3 := below_step hBw30_w3 hb
  have hBw31_w9 := below_step hBw30_w9 hb
  have hBw31_w27 := below_step hBw30_w27 hb
  have hBw31_w30 := below_step hBw30_w30 hb
  have hBw31_w31 := Below.refl w31.heap.size w31
  obtain rfl : vw31 = .bool t28 := he
  replace hS := (((hS.nil).cons (hS.get 3 rfl)).cons (hS.get 2 rfl)).cons (hS.get 0 rfl)
  refine hS.next (v := .bool t28) (d := 4) rfl (by decide) (by rfl) ?_
  clear hS
  intro at32 hS
  refine wpList_nil ?_
  replace hS := (((hS.nil).cons (hS.get 0 rfl)).cons (hS.get 2 rfl)).cons (hS.get 3 rfl)
  (try simp only [Exit.then, Exit.inBlock])
  exact J1 _ _ a0_0 a0_1 a0_2 a0_3 a0_4 a0_5 a0_6 a0_7 a0_8 a0_9 a0_10 a0_11 a0_12 a0_13 a0_14 a0_15 a0_16 a0_17 a0_18 a0_19 a0_20 a0_21 a0_22 g4 a0_0 a0_1 a0_2 a0_3 a0_4 a0_5 a0_6 a0_7 a0_8 0 0 0 0 0 0 0 0 0 0 0 0 0 0 g13 t28 H hS hBw31_w hgeg4 ((hBw31_w3.block g4 (blk_lt hbxg4)).trans hbxg4) (Nat.le_trans (hBw9_w).size hgeg13) ((hBw31_w27.block g13 (blk_lt hbxw27)).trans hbxw27) hne14
end Go.Proofs.Ytpoocfapmgmfkaa.P
