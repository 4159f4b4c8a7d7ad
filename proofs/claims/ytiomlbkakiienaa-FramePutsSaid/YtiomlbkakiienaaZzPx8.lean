/- Functions and loops of the given program as Lean functions, and that the code comes to what they say: written by this session's own program; Lean checks it. -/
import Derived.Test.YtiomlbkakiienaaZzPx0
import Derived.Test.YtiomlbkakiienaaZzPx7
namespace Go.Proofs.Ytiomlbkakiienaa.P
open Go.RowKit Go.Proofs.YtiomlbkakiienaaW.PrintWords Go.Proofs.YtiomlbkakiienaaW.PrintLast Go.Proofs.YtiomlbkakiienaaW.PrintMore
attribute [local go_sem] max2_int min2_int max_two min_two max_three min_three max_four min_four   -- for this text's walks alone
set_option linter.unusedVariables false
set_option linter.unusedSimpArgs false
def carillonref07_Check.j3 (k : Nat) (x3_1_0 x3_1_1 x3_1_2 x3_1_3 x3_1_4 x3_1_5 x3_1_6 x3_1_7 x3_1_8 x3_1_9 x3_1_10 x3_1_11 x3_1_12 x3_1_13 x3_1_14 x3_1_15 x3_1_16 x3_1_17 x3_1_18 x3_1_19 x3_1_20 x3_1_21 x3_1_22 x3_3_0 x3_3_1 x3_3_2 x3_3_3 x3_3_4 x3_3_5 x3_3_6 x3_3_7 x3_3_8 x3_3_9 x3_3_10 x3_3_11 x3_3_12 x3_3_13 x3_3_14 x3_3_15 x3_3_16 x3_3_17 x3_3_18 x3_3_19 x3_3_20 x3_3_21 x3_3_22 : Int) (x3_4 : Bool) : Option (Bool) := if x3_4 = true then (some ((x3_3_0 == x3_1_0) && ((x3_3_1 == x3_1_1) && ((x3_3_2 == x3_1_2) && ((x3_3_3 == x3_1_3) && ((x3_3_4 == x3_1_4) && ((x3_3_5 == x3_1_5) && ((x3_3_6 == x3_1_6) && ((x3_3_7 == x3_1_7) && ((x3_3_8 == x3_1_8) && ((x3_3_9 == x3_1_9) && ((x3_3_10 == x3_1_10) && ((x3_3_11 == x3_1_11) && ((x3_3_12 == x3_1_12) && ((x3_3_13 == x3_1_13) && ((x3_3_14 == x3_1_14) && ((x3_3_15 == x3_1_15) && ((x3_3_16 == x3_1_16) && ((x3_3_17 == x3_1_17) && ((x3_3_18 == x3_1_18) && ((x3_3_19 == x3_1_19) && ((x3_3_20 == x3_1_20) && ((x3_3_21 == x3_1_21) && (x3_3_22 == x3_1_22)))))))))))))))))))))))) else (some false)
def carillonref07_Check.j4 (k : Nat) (x4_1_0 x4_1_1 x4_1_2 x4_1_3 x4_1_4 x4_1_5 x4_1_6 x4_1_7 x4_1_8 x4_1_9 x4_1_10 x4_1_11 x4_1_12 x4_1_13 x4_1_14 x4_1_15 x4_1_16 x4_1_17 x4_1_18 x4_1_19 x4_1_20 x4_1_21 x4_1_22 x4_3_0 x4_3_1 x4_3_2 x4_3_3 x4_3_4 x4_3_5 x4_3_6 x4_3_7 x4_3_8 x4_3_9 x4_3_10 x4_3_11 x4_3_12 x4_3_13 x4_3_14 x4_3_15 x4_3_16 x4_3_17 x4_3_18 x4_3_19 x4_3_20 x4_3_21 x4_3_22 : Int) (x4_4 : Bool) : Option (Bool) := if x4_4 = true then ((carillonref05_In.f x4_1_11 (-32768) 32767).bind fun t4001 => (if t4001 = true then ((carillonref05_In.f x4_1_12 0 255).bind fun t4002 => (if t4002 = true then ((carillonref05_In.f x4_1_16 0 255).bind fun t4003 => (if t4003 = true then ((carillonref05_In.f x4_1_19 0 255).bind fun t4004 => (if t4004 = true then ((carillonref05_May.f x4_1_13 x4_1_14 x4_1_15).bind fun t4005 => (if t4005 = true then ((carillonref05_In.f x4_1_18 0 65535).bind fun t4006 => (carillonref07_Check.j3 k x4_1_0 x4_1_1 x4_1_2 x4_1_3 x4_1_4 x4_1_5 x4_1_6 x4_1_7 x4_1_8 x4_1_9 x4_1_10 x4_1_11 x4_1_12 x4_1_13 x4_1_14 x4_1_15 x4_1_16 x4_1_17 x4_1_18 x4_1_19 x4_1_20 x4_1_21 x4_1_22 x4_3_0 x4_3_1 x4_3_2 x4_3_3 x4_3_4 x4_3_5 x4_3_6 x4_3_7 x4_3_8 x4_3_9 x4_3_10 x4_3_11 x4_3_12 x4_3_13 x4_3_14 x4_3_15 x4_3_16 x4_3_17 x4_3_18 x4_3_19 x4_3_20 x4_3_21 x4_3_22 t4006)) else (carillonref07_Check.j3 k x4_1_0 x4_1_1 x4_1_2 x4_1_3 x4_1_4 x4_1_5 x4_1_6 x4_1_7 x4_1_8 x4_1_9 x4_1_10 x4_1_11 x4_1_12 x4_1_13 x4_1_14 x4_1_15 x4_1_16 x4_1_17 x4_1_18 x4_1_19 x4_1_20 x4_1_21 x4_1_22 x4_3_0 x4_3_1 x4_3_2 x4_3_3 x4_3_4 x4_3_5 x4_3_6 x4_3_7 x4_3_8 x4_3_9 x4_3_10 x4_3_11 x4_3_12 x4_3_13 x4_3_14 x4_3_15 x4_3_16 x4_3_17 x4_3_18 x4_3_19 x4_3_20 x4_3_21 x4_3_22 false))) else (carillonref07_Check.j3 k x4_1_0 x4_1_1 x4_1_2 x4_1_3 x4_1_4 x4_1_5 x4_1_6 x4_1_7 x4_1_8 x4_1_9 x4_1_10 x4_1_11 x4_1_12 x4_1_13 x4_1_14 x4_1_15 x4_1_16 x4_1_17 x4_1_18 x4_1_19 x4_1_20 x4_1_21 x4_1_22 x4_3_0 x4_3_1 x4_3_2 x4_3_3 x4_3_4 x4_3_5 x4_3_6 x4_3_7 x4_3_8 x4_3_9 x4_3_10 x4_3_11 x4_3_12 x4_3_13 x4_3_14 x4_3_15 x4_3_16 x4_3_17 x4_3_18 x4_3_19 x4_3_20 x4_3_21 x4_3_22 false))) else (carillonref07_Check.j3 k x4_1_0 x4_1_1 x4_1_2 x4_1_3 x4_1_4 x4_1_5 x4_1_6 x4_1_7 x4_1_8 x4_1_9 x4_1_10 x4_1_11 x4_1_12 x4_1_13 x4_1_14 x4_1_15 x4_1_16 x4_1_17 x4_1_18 x4_1_19 x4_1_20 x4_1_21 x4_1_22 x4_3_0 x4_3_1 x4_3_2 x4_3_3 x4_3_4 x4_3_5 x4_3_6 x4_3_7 x4_3_8 x4_3_9 x4_3_10 x4_3_11 x4_3_12 x4_3_13 x4_3_14 x4_3_15 x4_3_16 x4_3_17 x4_3_18 x4_3_19 x4_3_20 x4_3_21 x4_3_22 false))) else (carillonref07_Check.j3 k x4_1_0 x4_1_1 x4_1_2 x4_1_3 x4_1_4 x4_1_5 x4_1_6 x4_1_7 x4_1_8 x4_1_9 x4_1_10 x4_1_11 x4_1_12 x4_1_13 x4_1_14 x4_1_15 x4_1_16 x4_1_17 x4_1_18 x4_1_19 x4_1_20 x4_1_21 x4_1_22 x4_3_0 x4_3_1 x4_3_2 x4_3_3 x4_3_4 x4_3_5 x4_3_6 x4_3_7 x4_3_8 x4_3_9 x4_3_10 x4_3_11 x4_3_12 x4_3_13 x4_3_14 x4_3_15 x4_3_16 x4_3_17 x4_3_18 x4_3_19 x4_3_20 x4_3_21 x4_3_22 false))) else (carillonref07_Check.j3 k x4_1_0 x4_1_1 x4_1_2 x4_1_3 x4_1_4 x4_1_5 x4_1_6 x4_1_7 x4_1_8 x4_1_9 x4_1_10 x4_1_11 x4_1_12 x4_1_13 x4_1_14 x4_1_15 x4_1_16 x4_1_17 x4_1_18 x4_1_19 x4_1_20 x4_1_21 x4_1_22 x4_3_0 x4_3_1 x4_3_2 x4_3_3 x4_3_4 x4_3_5 x4_3_6 x4_3_7 x4_3_8 x4_3_9 x4_3_10 x4_3_11 x4_3_12 x4_3_13 x4_3_14 x4_3_15 x4_3_16 x4_3_17 x4_3_18 x4_3_19 x4_3_20 x4_3_21 x4_3_22 false))) else (carillonref07_Check.j3 k x4_1_0 x4_1_1 x4_1_2 x4_1_3 x4_1_4 x4_1_5 x4_1_6 x4_1_7 x4_1_8 x4_1_9 x4_1_10 x4_1_11 x4_1_12 x4_1_13 x4_1_14 x4_1_15 x4_1_16 x4_1_17 x4_1_18 x4_1_19 x4_1_20 x4_1_21 x4_1_22 x4_3_0 x4_3_1 x4_3_2 x4_3_3 x4_3_4 x4_3_5 x4_3_6 x4_3_7 x4_3_8 x4_3_9 x4_3_10 x4_3_11 x4_3_12 x4_3_13 x4_3_14 x4_3_15 x4_3_16 x4_3_17 x4_3_18 x4_3_19 x4_3_20 x4_3_21 x4_3_22 false)
def carillonref07_Check.j5 (k : Nat) (x5_1_0 x5_1_1 x5_1_2 x5_1_3 x5_1_4 x5_1_5 x5_1_6 x5_1_7 x5_1_8 x5_1_9 x5_1_10 x5_1_11 x5_1_12 x5_1_13 x5_1_14 x5_1_15 x5_1_16 x5_1_17 x5_1_18 x5_1_19 x5_1_20 x5_1_21 x5_1_22 x5_3_0 x5_3_1 x5_3_2 x5_3_3 x5_3_4 x5_3_5 x5_3_6 x5_3_7 x5_3_8 x5_3_9 x5_3_10 x5_3_11 x5_3_12 x5_3_13 x5_3_14 x5_3_15 x5_3_16 x5_3_17 x5_3_18 x5_3_19 x5_3_20 x5_3_21 x5_3_22 : Int) (x5_4 : Bool) : Option (Bool) := if x5_4 = true then ((carillonref05_In.f x5_1_20 0 255).bind fun t5001 => (if t5001 = true then ((carillonref05_In.f x5_1_21 0 255).bind fun t5002 => (if t5002 = true then ((carillonref05_In.f x5_1_22 0 15).bind fun t5003 => (carillonref07_Check.j3 k x5_1_0 x5_1_1 x5_1_2 x5_1_3 x5_1_4 x5_1_5 x5_1_6 x5_1_7 x5_1_8 x5_1_9 x5_1_10 x5_1_11 x5_1_12 x5_1_13 x5_1_14 x5_1_15 x5_1_16 x5_1_17 x5_1_18 x5_1_19 x5_1_20 x5_1_21 x5_1_22 x5_3_0 x5_3_1 x5_3_2 x5_3_3 x5_3_4 x5_3_5 x5_3_6 x5_3_7 x5_3_8 x5_3_9 x5_3_10 x5_3_11 x5_3_12 x5_3_13 x5_3_14 x5_3_15 x5_3_16 x5_3_17 x5_3_18 x5_3_19 x5_3_20 x5_3_21 x5_3_22 t5003)) else (carillonref07_Check.j3 k x5_1_0 x5_1_1 x5_1_2 x5_1_3 x5_1_4 x5_1_5 x5_1_6 x5_1_7 x5_1_8 x5_1_9 x5_1_10 x5_1_11 x5_1_12 x5_1_13 x5_1_14 x5_1_15 x5_1_16 x5_1_17 x5_1_18 x5_1_19 x5_1_20 x5_1_21 x5_1_22 x5_3_0 x5_3_1 x5_3_2 x5_3_3 x5_3_4 x5_3_5 x5_3_6 x5_3_7 x5_3_8 x5_3_9 x5_3_10 x5_3_11 x5_3_12 x5_3_13 x5_3_14 x5_3_15 x5_3_16 x5_3_17 x5_3_18 x5_3_19 x5_3_20 x5_3_21 x5_3_22 false))) else (carillonref07_Check.j3 k x5_1_0 x5_1_1 x5_1_2 x5_1_3 x5_1_4 x5_1_5 x5_1_6 x5_1_7 x5_1_8 x5_1_9 x5_1_10 x5_1_11 x5_1_12 x5_1_13 x5_1_14 x5_1_15 x5_1_16 x5_1_17 x5_1_18 x5_1_19 x5_1_20 x5_1_21 x5_1_22 x5_3_0 x5_3_1 x5_3_2 x5_3_3 x5_3_4 x5_3_5 x5_3_6 x5_3_7 x5_3_8 x5_3_9 x5_3_10 x5_3_11 x5_3_12 x5_3_13 x5_3_14 x5_3_15 x5_3_16 x5_3_17 x5_3_18 x5_3_19 x5_3_20 x5_3_21 x5_3_22 false))) else (carillonref07_Check.j3 k x5_1_0 x5_1_1 x5_1_2 x5_1_3 x5_1_4 x5_1_5 x5_1_6 x5_1_7 x5_1_8 x5_1_9 x5_1_10 x5_1_11 x5_1_12 x5_1_13 x5_1_14 x5_1_15 x5_1_16 x5_1_17 x5_1_18 x5_1_19 x5_1_20 x5_1_21 x5_1_22 x5_3_0 x5_3_1 x5_3_2 x5_3_3 x5_3_4 x5_3_5 x5_3_6 x5_3_7 x5_3_8 x5_3_9 x5_3_10 x5_3_11 x5_3_12 x5_3_13 x5_3_14 x5_3_15 x5_3_16 x5_3_17 x5_3_18 x5_3_19 x5_3_20 x5_3_21 x5_3_22 false)
def carillonref07_Check.j2 (k : Nat) (x2_1_0 x2_1_1 x2_1_2 x2_1_3 x2_1_4 x2_1_5 x2_1_6 x2_1_7 x2_1_8 x2_1_9 x2_1_10 x2_1_11 x2_1_12 x2_1_13 x2_1_14 x2_1_15 x2_1_16 x2_1_17 x2_1_18 x2_1_19 x2_1_20 x2_1_21 x2_1_22 x2_3_0 x2_3_1 x2_3_2 x2_3_3 x2_3_4 x2_3_5 x2_3_6 x2_3_7 x2_3_8 x2_3_9 x2_3_10 x2_3_11 x2_3_12 x2_3_13 x2_3_14 x2_3_15 x2_3_16 x2_3_17 x2_3_18 x2_3_19 x2_3_20 x2_3_21 x2_3_22 : Int) (x2_4 : Bool) : Option (Bool) := if x2_1_0 = 11 then (carillonref07_Check.j4 k x2_1_0 x2_1_1 x2_1_2 x2_1_3 x2_1_4 x2_1_5 x2_1_6 x2_1_7 x2_1_8 x2_1_9 x2_1_10 x2_1_11 x2_1_12 x2_1_13 x2_1_14 x2_1_15 x2_1_16 x2_1_17 x2_1_18 x2_1_19 x2_1_20 x2_1_21 x2_1_22 x2_3_0 x2_3_1 x2_3_2 x2_3_3 x2_3_4 x2_3_5 x2_3_6 x2_3_7 x2_3_8 x2_3_9 x2_3_10 x2_1_11 x2_1_12 x2_1_13 x2_1_14 x2_1_15 x2_1_16 x2_1_17 x2_1_18 x2_1_19 x2_3_20 x2_3_21 x2_3_22 x2_4) else (if x2_1_0 = 13 then (carillonref07_Check.j5 k x2_1_0 x2_1_1 x2_1_2 x2_1_3 x2_1_4 x2_1_5 x2_1_6 x2_1_7 x2_1_8 x2_1_9 x2_1_10 x2_1_11 x2_1_12 x2_1_13 x2_1_14 x2_1_15 x2_1_16 x2_1_17 x2_1_18 x2_1_19 x2_1_20 x2_1_21 x2_1_22 x2_3_0 x2_3_1 x2_3_2 x2_3_3 x2_3_4 x2_3_5 x2_3_6 x2_3_7 x2_3_8 x2_3_9 x2_3_10 x2_3_11 x2_3_12 x2_3_13 x2_3_14 x2_3_15 x2_3_16 x2_3_17 x2_3_18 x2_3_19 x2_1_20 x2_1_21 x2_1_22 x2_4) else (carillonref07_Check.j3 k x2_1_0 x2_1_1 x2_1_2 x2_1_3 x2_1_4 x2_1_5 x2_1_6 x2_1_7 x2_1_8 x2_1_9 x2_1_10 x2_1_11 x2_1_12 x2_1_13 x2_1_14 x2_1_15 x2_1_16 x2_1_17 x2_1_18 x2_1_19 x2_1_20 x2_1_21 x2_1_22 x2_3_0 x2_3_1 x2_3_2 x2_3_3 x2_3_4 x2_3_5 x2_3_6 x2_3_7 x2_3_8 x2_3_9 x2_3_10 x2_3_11 x2_3_12 x2_3_13 x2_3_14 x2_3_15 x2_3_16 x2_3_17 x2_3_18 x2_3_19 x2_3_20 x2_3_21 x2_3_22 x2_4))
def carillonref07_Check.j1 (k : Nat) (x1_1_0 x1_1_1 x1_1_2 x1_1_3 x1_1_4 x1_1_5 x1_1_6 x1_1_7 x1_1_8 x1_1_9 x1_1_10 x1_1_11 x1_1_12 x1_1_13 x1_1_14 x1_1_15 x1_1_16 x1_1_17 x1_1_18 x1_1_19 x1_1_20 x1_1_21 x1_1_22 x1_3_0 x1_3_1 x1_3_2 x1_3_3 x1_3_4 x1_3_5 x1_3_6 x1_3_7 x1_3_8 x1_3_9 x1_3_10 x1_3_11 x1_3_12 x1_3_13 x1_3_14 x1_3_15 x1_3_16 x1_3_17 x1_3_18 x1_3_19 x1_3_20 x1_3_21 x1_3_22 : Int) (x1_4 : Bool) : Option (Bool) := (carillonref07_targeted.f x1_1_0).bind fun t1003 => (if t1003 = true then (if x1_4 = true then ((carillonref04_May.f x1_1_9 x1_1_10).bind fun t1011 => (carillonref07_Check.j2 k x1_1_0 x1_1_1 x1_1_2 x1_1_3 x1_1_4 x1_1_5 x1_1_6 x1_1_7 x1_1_8 x1_1_9 x1_1_10 x1_1_11 x1_1_12 x1_1_13 x1_1_14 x1_1_15 x1_1_16 x1_1_17 x1_1_18 x1_1_19 x1_1_20 x1_1_21 x1_1_22 x1_3_0 x1_3_1 x1_3_2 x1_3_3 x1_3_4 x1_3_5 x1_3_6 x1_3_7 x1_3_8 x1_1_9 x1_1_10 x1_3_11 x1_3_12 x1_3_13 x1_3_14 x1_3_15 x1_3_16 x1_3_17 x1_3_18 x1_3_19 x1_3_20 x1_3_21 x1_3_22 t1011)) else (carillonref07_Check.j2 k x1_1_0 x1_1_1 x1_1_2 x1_1_3 x1_1_4 x1_1_5 x1_1_6 x1_1_7 x1_1_8 x1_1_9 x1_1_10 x1_1_11 x1_1_12 x1_1_13 x1_1_14 x1_1_15 x1_1_16 x1_1_17 x1_1_18 x1_1_19 x1_1_20 x1_1_21 x1_1_22 x1_3_0 x1_3_1 x1_3_2 x1_3_3 x1_3_4 x1_3_5 x1_3_6 x1_3_7 x1_3_8 x1_1_9 x1_1_10 x1_3_11 x1_3_12 x1_3_13 x1_3_14 x1_3_15 x1_3_16 x1_3_17 x1_3_18 x1_3_19 x1_3_20 x1_3_21 x1_3_22 false)) else (carillonref07_Check.j2 k x1_1_0 x1_1_1 x1_1_2 x1_1_3 x1_1_4 x1_1_5 x1_1_6 x1_1_7 x1_1_8 x1_1_9 x1_1_10 x1_1_11 x1_1_12 x1_1_13 x1_1_14 x1_1_15 x1_1_16 x1_1_17 x1_1_18 x1_1_19 x1_1_20 x1_1_21 x1_1_22 x1_3_0 x1_3_1 x1_3_2 x1_3_3 x1_3_4 x1_3_5 x1_3_6 x1_3_7 x1_3_8 x1_3_9 x1_3_10 x1_3_11 x1_3_12 x1_3_13 x1_3_14 x1_3_15 x1_3_16 x1_3_17 x1_3_18 x1_3_19 x1_3_20 x1_3_21 x1_3_22 x1_4))
def carillonref07_Check.f (k : Nat) (a0_0 a0_1 a0_2 a0_3 a0_4 a0_5 a0_6 a0_7 a0_8 a0_9 a0_10 a0_11 a0_12 a0_13 a0_14 a0_15 a0_16 a0_17 a0_18 a0_19 a0_20 a0_21 a0_22 : Int) : Option (Bool) := (carillonref06_Check.f a0_0 a0_1 a0_2 a0_3 a0_4 a0_5 a0_6 a0_7 a0_8 a0_9 a0_10 a0_11 a0_12 a0_13 a0_14 a0_15 a0_16 a0_17 a0_18 a0_19 a0_20 a0_21 a0_22).bind fun t7 => (if t7 = true then ((carillonref07_stamped.f a0_0).bind fun t21 => (if t21 = true then ((carillonref02_May.f a0_8).bind fun t28 => (carillonref07_Check.j1 k a0_0 a0_1 a0_2 a0_3 a0_4 a0_5 a0_6 a0_7 a0_8 a0_9 a0_10 a0_11 a0_12 a0_13 a0_14 a0_15 a0_16 a0_17 a0_18 a0_19 a0_20 a0_21 a0_22 a0_0 a0_1 a0_2 a0_3 a0_4 a0_5 a0_6 a0_7 a0_8 0 0 0 0 0 0 0 0 0 0 0 0 0 0 t28)) else (carillonref07_Check.j1 k a0_0 a0_1 a0_2 a0_3 a0_4 a0_5 a0_6 a0_7 a0_8 a0_9 a0_10 a0_11 a0_12 a0_13 a0_14 a0_15 a0_16 a0_17 a0_18 a0_19 a0_20 a0_21 a0_22 a0_0 a0_1 a0_2 a0_3 a0_4 a0_5 a0_6 a0_7 0 0 0 0 0 0 0 0 0 0 0 0 0 0 0 true))) else (some false))
open Go.Proofs.Ytiomlbkakiienaa.E in
set_option maxRecDepth 100000 in
theorem carillonref07_Check.eql28 (x y : Operand) (w : World) (a0 a1 a2 a3 a4 a5 a6 a7 a8 a9 a10 a11 a12 a13 a14 a15 a16 a17 a18 a19 a20 a21 a22 b0 b1 b2 b3 b4 b5 b6 b7 b8 b9 b10 b11 b12 b13 b14 b15 b16 b17 b18 b19 b20 b21 b22 : Int) : (do eqGuard .eql 28 x y (.agg #[.int .i64 a0, .int .i64 a1, .int .i64 a2, .int .i64 a3, .int .u64 a4, .int .i64 a5, .int .i64 a6, .int .i64 a7, .int .i64 a8, .int .u64 a9, .int .i64 a10, .int .i64 a11, .int .i64 a12, .int .i64 a13, .int .i64 a14, .int .i64 a15, .int .i64 a16, .int .u64 a17, .int .i64 a18, .int .i64 a19, .int .i64 a20, .int .i64 a21, .int .i64 a22]) (.agg #[.int .i64 b0, .int .i64 b1, .int .i64 b2, .int .i64 b3, .int .u64 b4, .int .i64 b5, .int .i64 b6, .int .i64 b7, .int .i64 b8, .int .u64 b9, .int .i64 b10, .int .i64 b11, .int .i64 b12, .int .i64 b13, .int .i64 b14, .int .i64 b15, .int .i64 b16, .int .u64 b17, .int .i64 b18, .int .i64 b19, .int .i64 b20, .int .i64 b21, .int .i64 b22]); binOp .eql 28 (.agg #[.int .i64 a0, .int .i64 a1, .int .i64 a2, .int .i64 a3, .int .u64 a4, .int .i64 a5, .int .i64 a6, .int .i64 a7, .int .i64 a8, .int .u64 a9, .int .i64 a10, .int .i64 a11, .int .i64 a12, .int .i64 a13, .int .i64 a14, .int .i64 a15, .int .i64 a16, .int .u64 a17, .int .i64 a18, .int .i64 a19, .int .i64 a20, .int .i64 a21, .int .i64 a22]) (.agg #[.int .i64 b0, .int .i64 b1, .int .i64 b2, .int .i64 b3, .int .u64 b4, .int .i64 b5, .int .i64 b6, .int .i64 b7, .int .i64 b8, .int .u64 b9, .int .i64 b10, .int .i64 b11, .int .i64 b12, .int .i64 b13, .int .i64 b14, .int .i64 b15, .int .i64 b16, .int .u64 b17, .int .i64 b18, .int .i64 b19, .int .i64 b20, .int .i64 b21, .int .i64 b22]) : Sem Value).run Try.prog w = .ok (.bool ((a0 == b0) && ((a1 == b1) && ((a2 == b2) && ((a3 == b3) && ((a4 == b4) && ((a5 == b5) && ((a6 == b6) && ((a7 == b7) && ((a8 == b8) && ((a9 == b9) && ((a10 == b10) && ((a11 == b11) && ((a12 == b12) && ((a13 == b13) && ((a14 == b14) && ((a15 == b15) && ((a16 == b16) && ((a17 == b17) && ((a18 == b18) && ((a19 == b19) && ((a20 == b20) && ((a21 == b21) && (a22 == b22)))))))))))))))))))))))) w := by
  have hu3 := Try.underlying3
  have hu22 := Try.underlying22
  have hu24 := Try.underlying24
  have hu26 := Try.underlying26
  have hu28 := Try.underlying28
  conv => lhs; simp [eqGuard, go_sem, hu3, hu22, hu24, hu26, hu28]
  exact ite_and (ite_and (ite_and (ite_and (ite_and (ite_and (ite_and (ite_and (ite_and (ite_and (ite_and (ite_and (ite_and (ite_and (ite_and (ite_and (ite_and (ite_and (ite_and (ite_and (ite_and (ite_and (ite_last))))))))))))))))))))))
abbrev carillonref07_Check.v0 (x0 x1 x2 x3 x4 x5 x6 x7 x8 x9 x10 x11 x12 x13 x14 x15 x16 x17 x18 x19 x20 x21 x22 : Int) : Value := .agg #[.int .i64 x0, .int .i64 x1, .int .i64 x2, .int .i64 x3, .int .u64 x4, .int .i64 x5, .int .i64 x6, .int .i64 x7, .int .i64 x8, .int .u64 x9, .int .i64 x10, .int .i64 x11, .int .i64 x12, .int .i64 x13, .int .i64 x14, .int .i64 x15, .int .i64 x16, .int .u64 x17, .int .i64 x18, .int .i64 x19, .int .i64 x20, .int .i64 x21, .int .i64 x22]
abbrev carillonref07_Check.c1 (x0 x1 x2 x3 x4 x5 x6 x7 x8 x9 x10 x11 x12 x13 x14 x15 x16 x17 x18 x19 x20 x21 x22 : Int) : Array Value := #[.int .i64 x0, .int .i64 x1, .int .i64 x2, .int .i64 x3, .int .u64 x4, .int .i64 x5, .int .i64 x6, .int .i64 x7, .int .i64 x8, .int .u64 x9, .int .i64 x10, .int .i64 x11, .int .i64 x12, .int .i64 x13, .int .i64 x14, .int .i64 x15, .int .i64 x16, .int .u64 x17, .int .i64 x18, .int .i64 x19, .int .i64 x20, .int .i64 x21, .int .i64 x22]
open Go.Proofs.Ytiomlbkakiienaa.E in
set_option maxHeartbeats 60000000 in
set_option maxRecDepth 100000 in
theorem carillonref07_Check.calls (k : Nat) (bk cr ct cu co cp cv cw cH f0 eL eM eN eO eP eQ eR eS eT eU eV eW eX : Int) (r : Bool) (w : World) (h : carillonref07_Check.f k bk cr ct cu co cp cv cw cH f0 eL eM eN eO eP eQ eR eS eT eU eV eW eX = some r) :
    Calls Try.prog 24 #[.agg #[.int .i64 bk, .int .i64 cr, .int .i64 ct, .int .i64 cu, .int .u64 co, .int .i64 cp, .int .i64 cv, .int .i64 cw, .int .i64 cH, .int .u64 f0, .int .i64 eL, .int .i64 eM, .int .i64 eN, .int .i64 eO, .int .i64 eP, .int .i64 eQ, .int .i64 eR, .int .u64 eS, .int .i64 eT, .int .i64 eU, .int .i64 eV, .int .i64 eW, .int .i64 eX]] w fun e w' => e = .returned (.bool r) ∧ Below w.heap.size w w' := by
 have H := h
 clear h
 unfold carillonref07_Check.f at H
 obtain ⟨t7, kf, H⟩ := Option.bind_eq_some_iff.mp H
 by_cases c1 : t7 = true
 rotate_left
 ·rw [if_neg c1] at H
  obtain rfl := Option.some.inj H
  refine calls_of_wp (fn := Try.f24) (by kernel_rfl) rfl ?_
  have hS := St.enter #[(carillonref07_Check.v0 bk cr ct cu co cp cv cw cH f0 eL eM eN eO eP eQ eR eS eT eU eV eW eX)] 136 (by simp) [(0, (carillonref07_Check.v0 bk cr ct cu co cp cv cw cH f0 eL eM eN eO eP eQ eR eS eT eU eV eW eX))] (by simp)
  have jh := Below.refl w.heap.size w
  refine wp_seq_k (fun K1 ju => ?_)
  refine reg_seq (I := I1_ w) (ps := [IsB (carillonref07_Check.c1 bk cr ct cu co cp cv cw cH f0 eL eM eN eO eP eQ eR eS eT eU eV eW eX) 28 w.heap.size, VB false]) (by kernel_rfl) ?_ ?_ rfl hS jh ?_ ?_
  ·exact bs1
  ·exact .cons (Stays.b _ _ _) (.v (.nil))
  ·refine .on rfl (fun a w hS hI hp => does_var (x_box rfl (congrArg Value.cells (hS.get 0 rfl))) (hI).size) ?_
   refine .on rfl (fun a w hS hI hp => does_val (x_assign rfl (rfl)) rfl) ?_
   exact .nil
  clear hS
  intro kE w3 hS jB hp
  replace hS := hS.nil
  obtain ⟨g4, h9, ht, ag⟩ := (show IsB _ 28 _ (sl _ 1) _ from hp 0 (by decide))
  have hS := hS.cons h9
  clear hp h9
  refine ju _ _ ?_
  refine wp_seq_k (fun K5 kh => ?_)
  refine wp_seq_k (fun K6 jw => ?_)
  refine reg_seq (I := I2_ w w3) (ps := [IsV ((carillonref07_Check.v0 bk cr ct cu co cp cv cw cH f0 eL eM eN eO eP eQ eR eS eT eU eV eW eX)), VB t7, VB (!t7)]) (by kernel_rfl) ?_ ?_ rfl hS ⟨jB, (bR w3)⟩ ?_ ?_
  ·exact bs2
  ·exact .v (.v (.v (.nil)))
  ·refine .on rfl (fun a w hS hI hp => does_loadrow rfl (hS.get 0 rfl) (((hI.2).block g4 (blk_lt ag)).trans ag) Try.underlying28 rfl (by kernel_rfl) rfl) ?_
   refine .on rfl (fun a w hS hI hp => does_call (by kernel_rfl) (ar1 (hp.V 0 rfl rfl)) ((carillonref06_Check.calls (w := _) (h := kf)).mono fun _ _ h => ⟨_, h.1, h.2, rfl⟩)) ?_
   refine .on rfl (fun a w hS hI hp => does_val (x_not rfl (hp.V 1 rfl rfl)) rfl) ?_
   exact .nil
  clear hS
  intro k0 w9 hS f4 hp
  have ia : sl _ 7 = .bool (!t7) := hp 2 (by decide)
  have hS := hS.cons ia
  clear hp ia
  refine jw _ _ ?_
  refine wp_cond_true ((hS.get 0 rfl).trans (bT (congrArg (!·) (Bool.eq_false_iff.2 c1)))) ?_
  refine wp_seq_k (fun kx iy => ?_)
  refine reg_seq (I := I3_ w w3 w9) (ps := [VB false]) (by kernel_rfl) ?_ ?_ rfl hS ⟨f4.1, f4.2, (bR w9)⟩ ?_ ?_
  ·exact bs3
  ·exact .v (.nil)
  ·refine .on rfl (fun a w hS hI hp => does_val (x_assign rfl (rfl)) rfl) ?_
   exact .nil
  clear hS
  intro kq kn hS gg hp
  replace hS := hS.nil
  have gY : sl _ 2 = .bool false := hp 0 (by decide)
  have hS := hS.cons gY
  clear hp gY
  refine iy _ _ ?_
  refine wp_ret ?_
  (try simp only [Exit.then, Exit.inBlock, Exit.jump, Exit.noGoto])
  exact bodyPost_ret (v := .bool false) (results_single rfl (Vals.at (hS.get 0 rfl) .nil)) hS.nodef ⟨rfl, gg.1⟩
 rw [if_pos c1] at H
 refine calls_of_wp (fn := Try.f24) (by kernel_rfl) rfl ?_
 have hS := St.enter #[(carillonref07_Check.v0 bk cr ct cu co cp cv cw cH f0 eL eM eN eO eP eQ eR eS eT eU eV eW eX)] 136 (by simp) [(0, (carillonref07_Check.v0 bk cr ct cu co cp cv cw cH f0 eL eM eN eO eP eQ eR eS eT eU eV eW eX))] (by simp)
 have jh := Below.refl w.heap.size w
 refine wp_seq_k (fun K1 ju => ?_)
 refine reg_seq (I := I1_ w) (ps := [IsB (carillonref07_Check.c1 bk cr ct cu co cp cv cw cH f0 eL eM eN eO eP eQ eR eS eT eU eV eW eX) 28 w.heap.size, VB false]) (by kernel_rfl) ?_ ?_ rfl hS jh ?_ ?_
 ·exact bs1
 ·exact .cons (Stays.b _ _ _) (.v (.nil))
 ·refine .on rfl (fun a w hS hI hp => does_var (x_box rfl (congrArg Value.cells (hS.get 0 rfl))) (hI).size) ?_
  refine .on rfl (fun a w hS hI hp => does_val (x_assign rfl (rfl)) rfl) ?_
  exact .nil
 clear hS
 intro kE w3 hS jB hp
 replace hS := hS.nil
 obtain ⟨g4, h9, ht, ag⟩ := (show IsB _ 28 _ (sl _ 1) _ from hp 0 (by decide))
 have hS := hS.cons h9
 clear hp h9
 refine ju _ _ ?_
 refine wp_seq_k (fun K5 kh => ?_)
 refine wp_seq_k (fun K6 jw => ?_)
 refine reg_seq (I := I2_ w w3) (ps := [IsV ((carillonref07_Check.v0 bk cr ct cu co cp cv cw cH f0 eL eM eN eO eP eQ eR eS eT eU eV eW eX)), VB t7, VB (!t7)]) (by kernel_rfl) ?_ ?_ rfl hS ⟨jB, (bR w3)⟩ ?_ ?_
 ·exact bs2
 ·exact .v (.v (.v (.nil)))
 ·refine .on rfl (fun a w hS hI hp => does_loadrow rfl (hS.get 0 rfl) (((hI.2).block g4 (blk_lt ag)).trans ag) Try.underlying28 rfl (by kernel_rfl) rfl) ?_
  refine .on rfl (fun a w hS hI hp => does_call (by kernel_rfl) (ar1 (hp.V 0 rfl rfl)) ((carillonref06_Check.calls (w := _) (h := kf)).mono fun _ _ h => ⟨_, h.1, h.2, rfl⟩)) ?_
  refine .on rfl (fun a w hS hI hp => does_val (x_not rfl (hp.V 1 rfl rfl)) rfl) ?_
  exact .nil
 clear hS
 intro k0 w9 hS f4 hp
 have ia : sl _ 7 = .bool (!t7) := hp 2 (by decide)
 have hS := hS.cons ia
 clear hp ia
 refine jw _ _ ?_
 refine wp_cond_false ((hS.get 0 rfl).trans (bF (congrArg (!·) c1))) ?_
 refine wp_skip ?_
 refine kh _ _ ?_
 refine wp_seq_k (fun kx iy => ?_)
 refine reg_seq_tail 16 (I := I3_ w w3 w9) (ps := [VP g4 0, VI bk, VP g4 1, VI cr, VP g4 2, VI ct, VP g4 3, VI cu, VP g4 4, IsV (.agg #[.int .u64 co, .int .i64 cp]), VP g4 6, VI cv, VP g4 7, VI cw, IsV ((carillonref07_Check.v0 bk cr ct cu co cp cv cw 0 0 0 0 0 0 0 0 0 0 0 0 0 0 0)), IsB (carillonref07_Check.c1 0 0 0 0 0 0 0 0 0 0 0 0 0 0 0 0 0 0 0 0 0 0 0) 28 w9.heap.size]) (by kernel_rfl) ?_ ?_ rfl hS ⟨f4.1, f4.2, (bR w9)⟩ ?_ ?_
 ·exact bs3
 ·exact .v (.v (.v (.v (.v (.v (.v (.v (.v (.v (.v (.v (.v (.v (.v (.cons (Stays.b _ _ _) (.nil))))))))))))))))
 ·refine .on rfl (fun a w hS hI hp => does_val (x_fieldE (b := 0) rfl (hS.get 1 rfl) Try.underlying28 rfl rfl (by kernel_rfl)) rfl) ?_
  refine .on rfl (fun a w hS hI hp => does_val (x_load1 (d := .int .i64) rfl (hp.V 0 rfl rfl) (by kernel_rfl) rfl ((blk_cell (((hI.2.1).block g4 (blk_lt ag)).trans ag) 0).trans rfl)) rfl) ?_
  refine .on rfl (fun a w hS hI hp => does_val (x_fieldE (b := 0) rfl (hS.get 1 rfl) Try.underlying28 rfl rfl (by kernel_rfl)) rfl) ?_
  refine .on rfl (fun a w hS hI hp => does_val (x_load1 (d := .int .i64) rfl (hp.V 2 rfl rfl) (by kernel_rfl) rfl ((blk_cell (((hI.2.1).block g4 (blk_lt ag)).trans ag) 1).trans rfl)) rfl) ?_
  refine .on rfl (fun a w hS hI hp => does_val (x_fieldE (b := 0) rfl (hS.get 1 rfl) Try.underlying28 rfl rfl (by kernel_rfl)) rfl) ?_
  refine .on rfl (fun a w hS hI hp => does_val (x_load1 (d := .int .i64) rfl (hp.V 4 rfl rfl) (by kernel_rfl) rfl ((blk_cell (((hI.2.1).block g4 (blk_lt ag)).trans ag) 2).trans rfl)) rfl) ?_
  refine .on rfl (fun a w hS hI hp => does_val (x_fieldE (b := 0) rfl (hS.get 1 rfl) Try.underlying28 rfl rfl (by kernel_rfl)) rfl) ?_
  refine .on rfl (fun a w hS hI hp => does_val (x_load1 (d := .int .i64) rfl (hp.V 6 rfl rfl) (by kernel_rfl) rfl ((blk_cell (((hI.2.1).block g4 (blk_lt ag)).trans ag) 3).trans rfl)) rfl) ?_
  refine .on rfl (fun a w hS hI hp => does_val (x_fieldE (b := 0) rfl (hS.get 1 rfl) Try.underlying28 rfl rfl (by kernel_rfl)) rfl) ?_
  refine .on rfl (fun a w hS hI hp => does_loadmid (cs := [.int .u64 co, .int .i64 cp]) rfl (hp.V 8 rfl rfl) (((hI.2.1).block g4 (blk_lt ag)).trans ag) (by kernel_rfl) Try.underlying24 rfl (by kernel_rfl) rfl) ?_
  refine .on rfl (fun a w hS hI hp => does_val (x_fieldE (b := 0) rfl (hS.get 1 rfl) Try.underlying28 rfl rfl (by kernel_rfl)) rfl) ?_
  refine .on rfl (fun a w hS hI hp => does_val (x_load1 (d := .int .i64) rfl (hp.V 10 rfl rfl) (by kernel_rfl) rfl ((blk_cell (((hI.2.1).block g4 (blk_lt ag)).trans ag) 6).trans rfl)) rfl) ?_
  refine .on rfl (fun a w hS hI hp => does_val (x_fieldE (b := 0) rfl (hS.get 1 rfl) Try.underlying28 rfl rfl (by kernel_rfl)) rfl) ?_
  refine .on rfl (fun a w hS hI hp => does_val (x_load1 (d := .int .i64) rfl (hp.V 12 rfl rfl) (by kernel_rfl) rfl ((blk_cell (((hI.2.1).block g4 (blk_lt ag)).trans ag) 7).trans rfl)) rfl) ?_
  refine .on rfl (fun a w hS hI hp => does_val (x_build (vs := [(0, .int .i64 bk), (1, .int .i64 cr), (2, .int .i64 ct), (3, .int .i64 cu), (4, .agg #[.int .u64 co, .int .i64 cp]), (5, .int .i64 cv), (6, .int .i64 cw)]) rfl (by rw [Array.toList_map]; exact (show [(0, a.eval (.tmp 9)), (1, a.eval (.tmp 11)), (2, a.eval (.tmp 13)), (3, a.eval (.tmp 15)), (4, a.eval (.tmp 17)), (5, a.eval (.tmp 19)), (6, a.eval (.tmp 21))] = _ from (li_cons (hp.V 1 rfl rfl) (li_cons (hp.V 3 rfl rfl) (li_cons (hp.V 5 rfl rfl) (li_cons (hp.V 7 rfl rfl) (li_cons (hp.V 9 rfl rfl) (li_cons (hp.V 11 rfl rfl) (li_cons (hp.V 13 rfl rfl) rfl))))))))) (by kernel_rfl)) rfl) ?_
  refine .on rfl (fun a w hS hI hp => does_var (x_alloc rfl (by kernel_rfl)) (hI.2.2).size) ?_
  exact .nil
 clear hS
 intro kq kn hS gg hp
 replace hS := (hS.nil).cons (hS.get 1 rfl)
 have jx : sl _ 22 = (carillonref07_Check.v0 bk cr ct cu co cp cv cw 0 0 0 0 0 0 0 0 0 0 0 0 0 0 0) := hp 14 (by decide)
 obtain ⟨f6, kl, dL, h7⟩ := (show IsB _ 28 _ (sl _ 3) _ from hp 15 (by decide))
 have iD : f6 ≠ g4 := Nat.ne_of_gt (Nat.lt_of_lt_of_le (blk_lt ((f4.2.block g4 (blk_lt ag)).trans ag)) dL)
 have hS := hS.cons jx
 have hS := hS.cons kl
 clear hp jx kl
 show wpList _ _ _ [_] _ _
 refine list_step rfl (does_storeAll (g := f6) (cs := (carillonref07_Check.c1 bk cr ct cu co cp cv cw 0 0 0 0 0 0 0 0 0 0 0 0 0 0 0)) rfl (hS.get 0 rfl) (hS.get 1 rfl) (((bR kn).block f6 (blk_lt h7)).trans h7) (by kernel_rfl) (by kernel_rfl) (by kernel_rfl)) ?_
 rintro lq ir ⟨rfl, gD, hT⟩
 have iX := hT.below gg.1 (Nat.le_trans (f4.1).size dL) (gg.1).size
 have it := hT.below gg.2.1 (Nat.le_trans (f4.2).size dL) (gg.2.1).size
 have iu := hT.below gg.2.2 dL (gg.2.2).size
 clear hT
 refine wpList_nil ?_
 refine iy _ _ ?_
 refine wp_seq_k (fun ls kt => ?_)
 refine reg_seq (I := I4_ w w3 w9 ir) (ps := [VB true]) (by kernel_rfl) ?_ ?_ rfl hS ⟨iX, it, iu, (bR ir)⟩ ?_ ?_
 ·exact bs4
 ·exact .v (.nil)
 ·refine .on rfl (fun a w hS hI hp => does_val (x_assign rfl (rfl)) rfl) ?_
  exact .nil
 clear hS
 intro lm iF hS gh hp
 replace hS := ((hS.nil).cons (hS.get 2 rfl)).cons (hS.get 0 rfl)
 have km : sl _ 4 = .bool true := hp 0 (by decide)
 have hS := hS.cons km
 clear hp km
 refine kt _ _ ?_
 refine wp_seq_k (fun ky ku => ?_)
 have J1 : ∀ (ji : Act) (fQ : World) (bo fS fT fU fV fW fX fY fZ av ai e0 e1 e2 e3 e4 e5 e6 e7 e8 e9 fa fb : Int) (aw : Nat) (ek el em en eo ep eq er es gK go dx dy dz dA dB dC dD dE dF dG dH dI : Int) (aZ : Nat) (f1 : Bool), carillonref07_Check.j1 k bo fS fT fU fV fW fX fY fZ av ai e0 e1 e2 e3 e4 e5 e6 e7 e8 e9 fa fb ek el em en eo ep eq er es gK go dx dy dz dA dB dC dD dE dF dG dH dI f1 = some r → St 136 [(1, .pointer (some ⟨aw, 0, none⟩)), (3, .pointer (some ⟨aZ, 0, none⟩)), (4, .bool f1)] ji → Below w.heap.size w fQ → w.heap.size ≤ aw → fQ.heap[aw]? = some (.cells (carillonref07_Check.c1 bo fS fT fU fV fW fX fY fZ av ai e0 e1 e2 e3 e4 e5 e6 e7 e8 e9 fa fb) 28 (0, 0)) → w.heap.size ≤ aZ → fQ.heap[aZ]? = some (.cells (carillonref07_Check.c1 ek el em en eo ep eq er es gK go dx dy dz dA dB dC dD dE dF dG dH dI) 28 (0, 0)) → aZ ≠ aw → ky ji fQ := by
  intro ji fQ bo fS fT fU fV fW fX fY fZ av ai e0 e1 e2 e3 e4 e5 e6 e7 e8 e9 fa fb aw ek el em en eo ep eq er es gK go dx dy dz dA dB dC dD dE dF dG dH dI aZ f1 H hS gL gb aj eg dv eh
  unfold carillonref07_Check.j1 at H
  (try dsimp only at H)
  refine ku _ _ ?_
  refine wp_seq_k (fun jZ jv => ?_)
  have J2 : ∀ (jj : Act) (dQ : World) (ae et eu ev ew ex ey ez eA eB dJ am ao ap aq ar aB aH aL bb aI aM bc : Int) (ab : Nat) (aP aQ aR aS aT aU aV aW aX aY aC dK cF bp bq br bl bg bd aN bh be aO : Int) (ad : Nat) (gN : Bool), carillonref07_Check.j2 k ae et eu ev ew ex ey ez eA eB dJ am ao ap aq ar aB aH aL bb aI aM bc aP aQ aR aS aT aU aV aW aX aY aC dK cF bp bq br bl bg bd aN bh be aO gN = some r → St 136 [(1, .pointer (some ⟨ab, 0, none⟩)), (3, .pointer (some ⟨ad, 0, none⟩)), (4, .bool gN)] jj → Below w.heap.size w dQ → w.heap.size ≤ ab → dQ.heap[ab]? = some (.cells (carillonref07_Check.c1 ae et eu ev ew ex ey ez eA eB dJ am ao ap aq ar aB aH aL bb aI aM bc) 28 (0, 0)) → w.heap.size ≤ ad → dQ.heap[ad]? = some (.cells (carillonref07_Check.c1 aP aQ aR aS aT aU aV aW aX aY aC dK cF bp bq br bl bg bd aN bh be aO) 28 (0, 0)) → ad ≠ ab → jZ jj dQ := by
   intro jj dQ ae et eu ev ew ex ey ez eA eB dJ am ao ap aq ar aB aH aL bb aI aM bc ab aP aQ aR aS aT aU aV aW aX aY aC dK cF bp bq br bl bg bd aN bh be aO ad gN H hS gM gc ak az dw aA
   unfold carillonref07_Check.j2 at H
   (try dsimp only at H)
   refine jv _ _ ?_
   refine wp_seq_k (fun j6 h6 => ?_)
   have J3 : ∀ (jk : Act) (gJ : World) (cI cJ cK cL cM cN cO cP cQ cR bs bt bu bv bw bx bz bA bB bC bD bE bG : Int) (gk : Nat) (cS cT cU cV cW cX cY cZ c0 c9 bH bI bJ bK bL bM bN bO bP bQ bS bU bV : Int) (gl : Nat) (gj : Bool), carillonref07_Check.j3 k cI cJ cK cL cM cN cO cP cQ cR bs bt bu bv bw bx bz bA bB bC bD bE bG cS cT cU cV cW cX cY cZ c0 c9 bH bI bJ bK bL bM bN bO bP bQ bS bU bV gj = some r → St 136 [(1, .pointer (some ⟨gk, 0, none⟩)), (3, .pointer (some ⟨gl, 0, none⟩)), (4, .bool gj)] jk → Below w.heap.size w gJ → w.heap.size ≤ gk → gJ.heap[gk]? = some (.cells (carillonref07_Check.c1 cI cJ cK cL cM cN cO cP cQ cR bs bt bu bv bw bx bz bA bB bC bD bE bG) 28 (0, 0)) → w.heap.size ≤ gl → gJ.heap[gl]? = some (.cells (carillonref07_Check.c1 cS cT cU cV cW cX cY cZ c0 c9 bH bI bJ bK bL bM bN bO bP bQ bS bU bV) 28 (0, 0)) → gl ≠ gk → j6 jk gJ := by
    intro jk gJ cI cJ cK cL cM cN cO cP cQ cR bs bt bu bv bw bx bz bA bB bC bD bE bG gk cS cT cU cV cW cX cY cZ c0 c9 bH bI bJ bK bL bM bN bO bP bQ bS bU bV gl gj H hS hr ki gW kj gX kk
    unfold carillonref07_Check.j3 at H
    (try dsimp only at H)
    by_cases c2 : gj = true
    ·rw [if_pos c2] at H
     obtain rfl := Option.some.inj H
     refine h6 _ _ ?_
     refine wp_seq_k (fun j8 g6 => ?_)
     refine reg_seq (I := I2_ w gJ) (ps := [VB gj, VB gj, IsV ((carillonref07_Check.v0 cS cT cU cV cW cX cY cZ c0 c9 bH bI bJ bK bL bM bN bO bP bQ bS bU bV)), IsV ((carillonref07_Check.v0 cI cJ cK cL cM cN cO cP cQ cR bs bt bu bv bw bx bz bA bB bC bD bE bG)), VB ((cS == cI) && ((cT == cJ) && ((cU == cK) && ((cV == cL) && ((cW == cM) && ((cX == cN) && ((cY == cO) && ((cZ == cP) && ((c0 == cQ) && ((c9 == cR) && ((bH == bs) && ((bI == bt) && ((bJ == bu) && ((bK == bv) && ((bL == bw) && ((bM == bx) && ((bN == bz) && ((bO == bA) && ((bP == bB) && ((bQ == bC) && ((bS == bD) && ((bU == bE) && (bV == bG))))))))))))))))))))))), VB ((cS == cI) && ((cT == cJ) && ((cU == cK) && ((cV == cL) && ((cW == cM) && ((cX == cN) && ((cY == cO) && ((cZ == cP) && ((c0 == cQ) && ((c9 == cR) && ((bH == bs) && ((bI == bt) && ((bJ == bu) && ((bK == bv) && ((bL == bw) && ((bM == bx) && ((bN == bz) && ((bO == bA) && ((bP == bB) && ((bQ == bC) && ((bS == bD) && ((bU == bE) && (bV == bG))))))))))))))))))))))), VB ((cS == cI) && ((cT == cJ) && ((cU == cK) && ((cV == cL) && ((cW == cM) && ((cX == cN) && ((cY == cO) && ((cZ == cP) && ((c0 == cQ) && ((c9 == cR) && ((bH == bs) && ((bI == bt) && ((bJ == bu) && ((bK == bv) && ((bL == bw) && ((bM == bx) && ((bN == bz) && ((bO == bA) && ((bP == bB) && ((bQ == bC) && ((bS == bD) && ((bU == bE) && (bV == bG)))))))))))))))))))))))]) (by kernel_rfl) ?_ ?_ rfl hS ⟨hr, (bR gJ)⟩ ?_ ?_
     ·exact bs2
     ·exact .v (.v (.v (.v (.v (.v (.v (.nil)))))))
     ·refine .ms 2 rfl rfl rfl ?_
      refine .mv 0 rfl rfl rfl ?_
      refine .oy 1 131 rfl rfl c2 (fun a w hS hI hp => does_loadrow rfl (hS.get 1 rfl) (((hI.2).block gl (blk_lt gX)).trans gX) Try.underlying28 rfl (by kernel_rfl) rfl) ?_
      refine .oy 1 131 rfl rfl c2 (fun a w hS hI hp => does_loadrow rfl (hS.get 0 rfl) (((hI.2).block gk (blk_lt gW)).trans gW) Try.underlying28 rfl (by kernel_rfl) rfl) ?_
      refine .oy 1 131 rfl rfl c2 (fun a w hS hI hp => does_val (x_bin rfl (hp.V 2 rfl rfl) (hp.V 3 rfl rfl) (carillonref07_Check.eql28 _ _ _ cS cT cU cV cW cX cY cZ c0 c9 bH bI bJ bK bL bM bN bO bP bQ bS bU bV cI cJ cK cL cM cN cO cP cQ cR bs bt bu bv bw bx bz bA bB bC bD bE bG)) rfl) ?_
      refine .pt 1 4 rfl rfl rfl c2 rfl ?_
      refine .asg 5 rfl rfl rfl ?_
      exact .nil
     clear hS
     intro jo kc hS ho hp
     replace hS := hS.nil
     have gY : sl _ 2 = .bool ((cS == cI) && ((cT == cJ) && ((cU == cK) && ((cV == cL) && ((cW == cM) && ((cX == cN) && ((cY == cO) && ((cZ == cP) && ((c0 == cQ) && ((c9 == cR) && ((bH == bs) && ((bI == bt) && ((bJ == bu) && ((bK == bv) && ((bL == bw) && ((bM == bx) && ((bN == bz) && ((bO == bA) && ((bP == bB) && ((bQ == bC) && ((bS == bD) && ((bU == bE) && (bV == bG))))))))))))))))))))))) := hp 6 (by decide)
     have hS := hS.cons gY
     clear hp gY
     refine g6 _ _ ?_
     refine wp_ret ?_
     (try simp only [Exit.then, Exit.inBlock, Exit.jump, Exit.noGoto])
     exact bodyPost_ret (v := .bool ((cS == cI) && ((cT == cJ) && ((cU == cK) && ((cV == cL) && ((cW == cM) && ((cX == cN) && ((cY == cO) && ((cZ == cP) && ((c0 == cQ) && ((c9 == cR) && ((bH == bs) && ((bI == bt) && ((bJ == bu) && ((bK == bv) && ((bL == bw) && ((bM == bx) && ((bN == bz) && ((bO == bA) && ((bP == bB) && ((bQ == bC) && ((bS == bD) && ((bU == bE) && (bV == bG)))))))))))))))))))))))) (results_single rfl (Vals.at (hS.get 0 rfl) .nil)) hS.nodef ⟨rfl, ho.1⟩
    rw [if_neg c2] at H
    obtain rfl := Option.some.inj H
    refine h6 _ _ ?_
    refine wp_seq_k (fun j8 g6 => ?_)
    refine reg_seq (I := I2_ w gJ) (ps := [VB gj, VB gj, VU, VU, VU, VB false, VB false]) (by kernel_rfl) ?_ ?_ rfl hS ⟨hr, (bR gJ)⟩ ?_ ?_
    ·exact bs2
    ·exact .v (.v (.v (.v (.v (.v (.v (.nil)))))))
    ·refine .ms 2 rfl rfl rfl ?_
     refine .mv 0 rfl rfl rfl ?_
     iterate 3 refine .sn 1 131 rfl rfl ((Bool.eq_false_iff.2 c2)) ?_
     refine .pf 1 rfl rfl rfl ((Bool.eq_false_iff.2 c2)) (fun _ => rfl) ?_
     refine .asg 5 rfl rfl rfl ?_
     exact .nil
    clear hS
    intro jo kc hS ho hp
    replace hS := hS.nil
    have gY : sl _ 2 = .bool false := hp 6 (by decide)
    have hS := hS.cons gY
    clear hp gY
    refine g6 _ _ ?_
    refine wp_ret ?_
    (try simp only [Exit.then, Exit.inBlock, Exit.jump, Exit.noGoto])
    exact bodyPost_ret (v := .bool false) (results_single rfl (Vals.at (hS.get 0 rfl) .nil)) hS.nodef ⟨rfl, ho.1⟩
   by_cases c2 : ae = 11
   rotate_left
   ·rw [if_neg c2] at H
    by_cases c3 : ae = 13
    rotate_left
    ·rw [if_neg c3] at H
     refine wp_seq_k (fun iB f9 => ?_)
     refine reg_seq (I := I2_ w dQ) (ps := [VP ab 0, VI ae]) (by kernel_rfl) ?_ ?_ rfl hS ⟨gM, (bR dQ)⟩ ?_ ?_
     ·exact bs2
     ·exact .v (.v (.nil))
     ·refine .on rfl (fun a w hS hI hp => does_val (x_fieldE (b := 0) rfl (hS.get 0 rfl) Try.underlying28 rfl rfl (by kernel_rfl)) rfl) ?_
      refine .on rfl (fun a w hS hI hp => does_val (x_load1 (d := .int .i64) rfl (hp.V 0 rfl rfl) (by kernel_rfl) rfl ((blk_cell (((hI.2).block ab (blk_lt ak)).trans ak) 0).trans rfl)) rfl) ?_
      exact .nil
     clear hS
     intro hB fF hS ei hp
     have ge : sl _ 48 = .int .i64 ae := hp 1 (by decide)
     have hS := hS.cons ge
     clear hp ge
     refine f9 _ _ ?_
     refine wp_block ?_
     refine wp_seq_k (fun iC ga => ?_)
     refine reg_seq (I := I3_ w dQ fF) (ps := [VB (decide (ae = 11)), VB (decide (ae = 11))]) (by kernel_rfl) ?_ ?_ rfl hS ⟨ei.1, ei.2, (bR fF)⟩ ?_ ?_
     ·exact bs3
     ·exact .v (.v (.nil))
     ·refine .on rfl (fun a w hS hI hp => does_val (x_bin rfl (hS.get 0 rfl) (rfl) (b_eql _ _ _ _ _ _)) rfl) ?_
      refine .asg 0 rfl rfl rfl ?_
      exact .nil
     clear hS
     intro hD fG hS ej hp
     have gf : sl _ 49 = .bool (decide (ae = 11)) := hp 1 (by decide)
     have hS := hS.cons gf
     clear hp gf
     refine ga _ _ ?_
     refine wp_cond_false ((hS.get 0 rfl).trans (bF (decide_eq_false c2))) ?_
     refine wp_seq_k (fun hs cx => ?_)
     refine reg_seq (I := I3_ w dQ fG) (ps := [VB (decide (ae = 13)), VB (decide (ae = 13))]) (by kernel_rfl) ?_ ?_ rfl hS ⟨ej.1, ej.2.1, (bR fG)⟩ ?_ ?_
     ·exact bs3
     ·exact .v (.v (.nil))
     ·refine .on rfl (fun a w hS hI hp => does_val (x_bin rfl (hS.get 1 rfl) (rfl) (b_eql _ _ _ _ _ _)) rfl) ?_
      refine .asg 0 rfl rfl rfl ?_
      exact .nil
     clear hS
     intro hE g0 hS cB hp
     replace hS := (((hS.nil).cons (hS.get 4 rfl)).cons (hS.get 3 rfl)).cons (hS.get 2 rfl)
     have gG : sl _ 103 = .bool (decide (ae = 13)) := hp 1 (by decide)
     have hS := hS.cons gG
     clear hp gG
     refine cx _ _ ?_
     refine wp_cond_false ((hS.get 0 rfl).trans (bF (decide_eq_false c3))) ?_
     refine wp_skip ?_
     replace hS := (((hS.nil).cons (hS.get 3 rfl)).cons (hS.get 2 rfl)).cons (hS.get 1 rfl)
     (try simp only [Exit.then, Exit.inBlock])
     exact J3 _ _ ae et eu ev ew ex ey ez eA eB dJ am ao ap aq ar aB aH aL bb aI aM bc ab aP aQ aR aS aT aU aV aW aX aY aC dK cF bp bq br bl bg bd aN bh be aO ad gN H hS cB.1 gc ((cB.2.1.block ab (blk_lt ak)).trans ak) az ((cB.2.1.block ad (blk_lt dw)).trans dw) aA
    rw [if_pos c3] at H
    refine wp_seq_k (fun iB f9 => ?_)
    refine reg_seq (I := I2_ w dQ) (ps := [VP ab 0, VI ae]) (by kernel_rfl) ?_ ?_ rfl hS ⟨gM, (bR dQ)⟩ ?_ ?_
    ·exact bs2
    ·exact .v (.v (.nil))
    ·refine .on rfl (fun a w hS hI hp => does_val (x_fieldE (b := 0) rfl (hS.get 0 rfl) Try.underlying28 rfl rfl (by kernel_rfl)) rfl) ?_
     refine .on rfl (fun a w hS hI hp => does_val (x_load1 (d := .int .i64) rfl (hp.V 0 rfl rfl) (by kernel_rfl) rfl ((blk_cell (((hI.2).block ab (blk_lt ak)).trans ak) 0).trans rfl)) rfl) ?_
     exact .nil
    clear hS
    intro hB fF hS ei hp
    have ge : sl _ 48 = .int .i64 ae := hp 1 (by decide)
    have hS := hS.cons ge
    clear hp ge
    refine f9 _ _ ?_
    refine wp_block ?_
    refine wp_seq_k (fun iC ga => ?_)
    refine reg_seq (I := I3_ w dQ fF) (ps := [VB (decide (ae = 11)), VB (decide (ae = 11))]) (by kernel_rfl) ?_ ?_ rfl hS ⟨ei.1, ei.2, (bR fF)⟩ ?_ ?_
    ·exact bs3
    ·exact .v (.v (.nil))
    ·refine .on rfl (fun a w hS hI hp => does_val (x_bin rfl (hS.get 0 rfl) (rfl) (b_eql _ _ _ _ _ _)) rfl) ?_
     refine .asg 0 rfl rfl rfl ?_
     exact .nil
    clear hS
    intro hD fG hS ej hp
    have gf : sl _ 49 = .bool (decide (ae = 11)) := hp 1 (by decide)
    have hS := hS.cons gf
    clear hp gf
    refine ga _ _ ?_
    refine wp_cond_false ((hS.get 0 rfl).trans (bF (decide_eq_false c2))) ?_
    refine wp_seq_k (fun hs cx => ?_)
    refine reg_seq (I := I3_ w dQ fG) (ps := [VB (decide (ae = 13)), VB (decide (ae = 13))]) (by kernel_rfl) ?_ ?_ rfl hS ⟨ej.1, ej.2.1, (bR fG)⟩ ?_ ?_
    ·exact bs3
    ·exact .v (.v (.nil))
    ·refine .on rfl (fun a w hS hI hp => does_val (x_bin rfl (hS.get 1 rfl) (rfl) (b_eql _ _ _ _ _ _)) rfl) ?_
     refine .asg 0 rfl rfl rfl ?_
     exact .nil
    clear hS
    intro hE g0 hS cB hp
    replace hS := (((hS.nil).cons (hS.get 4 rfl)).cons (hS.get 3 rfl)).cons (hS.get 2 rfl)
    have gG : sl _ 103 = .bool (decide (ae = 13)) := hp 1 (by decide)
    have hS := hS.cons gG
    clear hp gG
    refine cx _ _ ?_
    refine wp_cond_true ((hS.get 0 rfl).trans (bT (decide_eq_true c3))) ?_
    refine wp_seq_k (fun j7 gC => ?_)
    have J5 : ∀ (jm : Act) (fR : World) (fe ff fg fh fi fj fk fl fm fo dS dT dU dV dW dX dY dZ d0 d1 bf bm cG : Int) (ax : Nat) (fp fq fr fs ft fu fv fw fx fy d2 d3 d4 d5 d6 d7 d8 d9 ea eb ec ed ee : Int) (cC : Nat) (eK : Bool), carillonref07_Check.j5 k fe ff fg fh fi fj fk fl fm fo dS dT dU dV dW dX dY dZ d0 d1 bf bm cG fp fq fr fs ft fu fv fw fx fy d2 d3 d4 d5 d6 d7 d8 d9 ea eb ec ed ee eK = some r → St 136 [(1, .pointer (some ⟨ax, 0, none⟩)), (3, .pointer (some ⟨cC, 0, none⟩)), (4, .bool eK)] jm → Below w.heap.size w fR → w.heap.size ≤ ax → fR.heap[ax]? = some (.cells (carillonref07_Check.c1 fe ff fg fh fi fj fk fl fm fo dS dT dU dV dW dX dY dZ d0 d1 bf bm cG) 28 (0, 0)) → w.heap.size ≤ cC → fR.heap[cC]? = some (.cells (carillonref07_Check.c1 fp fq fr fs ft fu fv fw fx fy d2 d3 d4 d5 d6 d7 d8 d9 ea eb ec ed ee) 28 (0, 0)) → cC ≠ ax → j7 jm fR := by
     intro jm fR fe ff fg fh fi fj fk fl fm fo dS dT dU dV dW dX dY dZ d0 d1 bf bm cG ax fp fq fr fs ft fu fv fw fx fy d2 d3 d4 d5 d6 d7 d8 d9 ea eb ec ed ee cC eK H hS gm fz af fA bn fB
     unfold carillonref07_Check.j5 at H
     (try dsimp only at H)
     by_cases c4 : eK = true
     rotate_left
     ·rw [if_neg c4] at H
      refine gC _ _ ?_
      refine reg_seq_tail 16 (I := I2_ w fR) (ps := [VB eK, VB eK, VU, VU, VU, VB false, VB false, VU, VU, VU, VB false, VB false, VU, VU, VU, VB false]) (by kernel_rfl) ?_ ?_ rfl hS ⟨gm, (bR fR)⟩ ?_ ?_
      ·exact bs2
      ·exact .v (.v (.v (.v (.v (.v (.v (.v (.v (.v (.v (.v (.v (.v (.v (.v (.nil))))))))))))))))
      ·refine .ms 2 rfl rfl rfl ?_
       refine .mv 0 rfl rfl rfl ?_
       iterate 3 refine .sn 1 115 rfl rfl ((Bool.eq_false_iff.2 c4)) ?_
       refine .pf 1 rfl rfl rfl ((Bool.eq_false_iff.2 c4)) (fun _ => rfl) ?_
       refine .mv 5 rfl rfl rfl ?_
       iterate 3 refine .sn 6 120 rfl rfl rfl ?_
       refine .pf 6 rfl rfl rfl rfl (fun _ => rfl) ?_
       refine .mv 10 rfl rfl rfl ?_
       iterate 3 refine .sn 11 125 rfl rfl rfl ?_
       refine .pf 11 rfl rfl rfl rfl (fun _ => rfl) ?_
       exact .nil
      clear hS
      intro kU ke hS im hp
      have dM : sl _ 129 = .bool false := hp 15 (by decide)
      have hS := hS.cons dM
      clear hp dM
      show wpList _ _ _ [_] _ _
      refine list_step rfl (R := fun v w' => Below _ _ w' ∧ (VB false) v w') (does_val (x_assign rfl (hS.get 0 rfl)) rfl) ?_
      rintro jU iU ⟨hb, he⟩
      have h2 := below_step im.1 hb
      have gw := below_step im.2 hb
      have i9 := below_step (bR ke) hb
      obtain rfl : jU = .bool false := he
      replace hS := (((hS.nil).cons (hS.get 2 rfl)).cons (hS.get 1 rfl)).cons (hS.get 0 rfl)
      refine hS.next (v := .bool false) (d := 4) rfl (by decide) (by rfl) ?_
      clear hS
      intro jt hS
      refine wpList_nil ?_
      replace hS := (((hS.nil).cons (hS.get 0 rfl)).cons (hS.get 3 rfl)).cons (hS.get 2 rfl)
      (try simp only [Exit.then, Exit.inBlock])
      exact J3 _ _ fe ff fg fh fi fj fk fl fm fo dS dT dU dV dW dX dY dZ d0 d1 bf bm cG ax fp fq fr fs ft fu fv fw fx fy d2 d3 d4 d5 d6 d7 d8 d9 ea eb ec ed ee cC false H hS h2 fz ((gw.block ax (blk_lt af)).trans af) fA ((gw.block cC (blk_lt bn)).trans bn) fB
     rw [if_pos c4] at H
     obtain ⟨cE, g3, H⟩ := Option.bind_eq_some_iff.mp H
     by_cases c5 : cE = true
     rotate_left
     ·rw [if_neg c5] at H
      refine gC _ _ ?_
      refine reg_seq_tail 16 (I := I2_ w fR) (ps := [VB eK, VB eK, VP ax 20, VI bf, VB cE, VB cE, VB cE, VU, VU, VU, VB false, VB false, VU, VU, VU, VB false]) (by kernel_rfl) ?_ ?_ rfl hS ⟨gm, (bR fR)⟩ ?_ ?_
      ·exact bs2
      ·exact .v (.v (.v (.v (.v (.v (.v (.v (.v (.v (.v (.v (.v (.v (.v (.v (.nil))))))))))))))))
      ·refine .ms 2 rfl rfl rfl ?_
       refine .mv 0 rfl rfl rfl ?_
       refine .oy 1 115 rfl rfl c4 (fun a w hS hI hp => does_val (x_fieldE (b := 0) rfl (hS.get 0 rfl) Try.underlying28 rfl rfl (by kernel_rfl)) rfl) ?_
       refine .oy 1 115 rfl rfl c4 (fun a w hS hI hp => does_val (x_load1 (d := .int .i64) rfl (hp.V 2 rfl rfl) (by kernel_rfl) rfl ((blk_cell (((hI.2).block ax (blk_lt af)).trans af) 20).trans rfl)) rfl) ?_
       refine .oy 1 115 rfl rfl c4 (fun a w hS hI hp => does_call (by kernel_rfl) (ar3 (hp.V 3 rfl rfl) (rfl) (rfl)) ((carillonref05_In.calls bf 0 255 cE _  g3).mono fun _ _ h => ⟨_, h.1, h.2.below, rfl⟩)) ?_
       refine .pt 1 4 rfl rfl rfl c4 rfl ?_
       refine .mv 5 rfl rfl rfl ?_
       iterate 3 refine .sn 6 120 rfl rfl ((Bool.eq_false_iff.2 c5)) ?_
       refine .pf 6 rfl rfl rfl ((Bool.eq_false_iff.2 c5)) (fun _ => rfl) ?_
       refine .mv 10 rfl rfl rfl ?_
       iterate 3 refine .sn 11 125 rfl rfl rfl ?_
       refine .pf 11 rfl rfl rfl rfl (fun _ => rfl) ?_
       exact .nil
      clear hS
      intro kV iU hS io hp
      have dM : sl _ 129 = .bool false := hp 15 (by decide)
      have hS := hS.cons dM
      clear hp dM
      show wpList _ _ _ [_] _ _
      refine list_step rfl (R := fun v w' => Below _ _ w' ∧ (VB false) v w') (does_val (x_assign rfl (hS.get 0 rfl)) rfl) ?_
      rintro jV iV ⟨hb, he⟩
      have h3 := below_step io.1 hb
      have gx := below_step io.2 hb
      have ja := below_step (bR iU) hb
      obtain rfl : jV = .bool false := he
      replace hS := (((hS.nil).cons (hS.get 2 rfl)).cons (hS.get 1 rfl)).cons (hS.get 0 rfl)
      refine hS.next (v := .bool false) (d := 4) rfl (by decide) (by rfl) ?_
      clear hS
      intro kX hS
      refine wpList_nil ?_
      replace hS := (((hS.nil).cons (hS.get 0 rfl)).cons (hS.get 3 rfl)).cons (hS.get 2 rfl)
      (try simp only [Exit.then, Exit.inBlock])
      exact J3 _ _ fe ff fg fh fi fj fk fl fm fo dS dT dU dV dW dX dY dZ d0 d1 bf bm cG ax fp fq fr fs ft fu fv fw fx fy d2 d3 d4 d5 d6 d7 d8 d9 ea eb ec ed ee cC false H hS h3 fz ((gx.block ax (blk_lt af)).trans af) fA ((gx.block cC (blk_lt bn)).trans bn) fB
     rw [if_pos c5] at H
     obtain ⟨eZ, hz, H⟩ := Option.bind_eq_some_iff.mp H
     by_cases c6 : eZ = true
     rotate_left
     ·rw [if_neg c6] at H
      refine gC _ _ ?_
      refine reg_seq_tail 16 (I := I2_ w fR) (ps := [VB eK, VB eK, VP ax 20, VI bf, VB cE, VB cE, VB cE, VP ax 21, VI bm, VB eZ, VB eZ, VB eZ, VU, VU, VU, VB false]) (by kernel_rfl) ?_ ?_ rfl hS ⟨gm, (bR fR)⟩ ?_ ?_
      ·exact bs2
      ·exact .v (.v (.v (.v (.v (.v (.v (.v (.v (.v (.v (.v (.v (.v (.v (.v (.nil))))))))))))))))
      ·refine .ms 2 rfl rfl rfl ?_
       refine .mv 0 rfl rfl rfl ?_
       refine .oy 1 115 rfl rfl c4 (fun a w hS hI hp => does_val (x_fieldE (b := 0) rfl (hS.get 0 rfl) Try.underlying28 rfl rfl (by kernel_rfl)) rfl) ?_
       refine .oy 1 115 rfl rfl c4 (fun a w hS hI hp => does_val (x_load1 (d := .int .i64) rfl (hp.V 2 rfl rfl) (by kernel_rfl) rfl ((blk_cell (((hI.2).block ax (blk_lt af)).trans af) 20).trans rfl)) rfl) ?_
       refine .oy 1 115 rfl rfl c4 (fun a w hS hI hp => does_call (by kernel_rfl) (ar3 (hp.V 3 rfl rfl) (rfl) (rfl)) ((carillonref05_In.calls bf 0 255 cE _  g3).mono fun _ _ h => ⟨_, h.1, h.2.below, rfl⟩)) ?_
       refine .pt 1 4 rfl rfl rfl c4 rfl ?_
       refine .mv 5 rfl rfl rfl ?_
       refine .oy 6 120 rfl rfl c5 (fun a w hS hI hp => does_val (x_fieldE (b := 0) rfl (hS.get 0 rfl) Try.underlying28 rfl rfl (by kernel_rfl)) rfl) ?_
       refine .oy 6 120 rfl rfl c5 (fun a w hS hI hp => does_val (x_load1 (d := .int .i64) rfl (hp.V 7 rfl rfl) (by kernel_rfl) rfl ((blk_cell (((hI.2).block ax (blk_lt af)).trans af) 21).trans rfl)) rfl) ?_
       refine .oy 6 120 rfl rfl c5 (fun a w hS hI hp => does_call (by kernel_rfl) (ar3 (hp.V 8 rfl rfl) (rfl) (rfl)) ((carillonref05_In.calls bm 0 255 eZ _  hz).mono fun _ _ h => ⟨_, h.1, h.2.below, rfl⟩)) ?_
       refine .pt 6 9 rfl rfl rfl c5 rfl ?_
       refine .mv 10 rfl rfl rfl ?_
       iterate 3 refine .sn 11 125 rfl rfl ((Bool.eq_false_iff.2 c6)) ?_
       refine .pf 11 rfl rfl rfl ((Bool.eq_false_iff.2 c6)) (fun _ => rfl) ?_
       exact .nil
      clear hS
      intro kW iV hS ip hp
      have dM : sl _ 129 = .bool false := hp 15 (by decide)
      have hS := hS.cons dM
      clear hp dM
      show wpList _ _ _ [_] _ _
      refine list_step rfl (R := fun v w' => Below _ _ w' ∧ (VB false) v w') (does_val (x_assign rfl (hS.get 0 rfl)) rfl) ?_
      rintro jW iW ⟨hb, he⟩
      have h4 := below_step ip.1 hb
      have gy := below_step ip.2 hb
      have jb := below_step (bR iV) hb
      obtain rfl : jW = .bool false := he
      replace hS := (((hS.nil).cons (hS.get 2 rfl)).cons (hS.get 1 rfl)).cons (hS.get 0 rfl)
      refine hS.next (v := .bool false) (d := 4) rfl (by decide) (by rfl) ?_
      clear hS
      intro kY hS
      refine wpList_nil ?_
      replace hS := (((hS.nil).cons (hS.get 0 rfl)).cons (hS.get 3 rfl)).cons (hS.get 2 rfl)
      (try simp only [Exit.then, Exit.inBlock])
      exact J3 _ _ fe ff fg fh fi fj fk fl fm fo dS dT dU dV dW dX dY dZ d0 d1 bf bm cG ax fp fq fr fs ft fu fv fw fx fy d2 d3 d4 d5 d6 d7 d8 d9 ea eb ec ed ee cC false H hS h4 fz ((gy.block ax (blk_lt af)).trans af) fA ((gy.block cC (blk_lt bn)).trans bn) fB
     rw [if_pos c6] at H
     obtain ⟨fE, jg, H⟩ := Option.bind_eq_some_iff.mp H
     refine gC _ _ ?_
     refine reg_seq_tail 16 (I := I2_ w fR) (ps := [VB eK, VB eK, VP ax 20, VI bf, VB cE, VB cE, VB cE, VP ax 21, VI bm, VB eZ, VB eZ, VB eZ, VP ax 22, VI cG, VB fE, VB fE]) (by kernel_rfl) ?_ ?_ rfl hS ⟨gm, (bR fR)⟩ ?_ ?_
     ·exact bs2
     ·exact .v (.v (.v (.v (.v (.v (.v (.v (.v (.v (.v (.v (.v (.v (.v (.v (.nil))))))))))))))))
     ·refine .ms 2 rfl rfl rfl ?_
      refine .mv 0 rfl rfl rfl ?_
      refine .oy 1 115 rfl rfl c4 (fun a w hS hI hp => does_val (x_fieldE (b := 0) rfl (hS.get 0 rfl) Try.underlying28 rfl rfl (by kernel_rfl)) rfl) ?_
      refine .oy 1 115 rfl rfl c4 (fun a w hS hI hp => does_val (x_load1 (d := .int .i64) rfl (hp.V 2 rfl rfl) (by kernel_rfl) rfl ((blk_cell (((hI.2).block ax (blk_lt af)).trans af) 20).trans rfl)) rfl) ?_
      refine .oy 1 115 rfl rfl c4 (fun a w hS hI hp => does_call (by kernel_rfl) (ar3 (hp.V 3 rfl rfl) (rfl) (rfl)) ((carillonref05_In.calls bf 0 255 cE _  g3).mono fun _ _ h => ⟨_, h.1, h.2.below, rfl⟩)) ?_
      refine .pt 1 4 rfl rfl rfl c4 rfl ?_
      refine .mv 5 rfl rfl rfl ?_
      refine .oy 6 120 rfl rfl c5 (fun a w hS hI hp => does_val (x_fieldE (b := 0) rfl (hS.get 0 rfl) Try.underlying28 rfl rfl (by kernel_rfl)) rfl) ?_
      refine .oy 6 120 rfl rfl c5 (fun a w hS hI hp => does_val (x_load1 (d := .int .i64) rfl (hp.V 7 rfl rfl) (by kernel_rfl) rfl ((blk_cell (((hI.2).block ax (blk_lt af)).trans af) 21).trans rfl)) rfl) ?_
      refine .oy 6 120 rfl rfl c5 (fun a w hS hI hp => does_call (by kernel_rfl) (ar3 (hp.V 8 rfl rfl) (rfl) (rfl)) ((carillonref05_In.calls bm 0 255 eZ _  hz).mono fun _ _ h => ⟨_, h.1, h.2.below, rfl⟩)) ?_
      refine .pt 6 9 rfl rfl rfl c5 rfl ?_
      refine .mv 10 rfl rfl rfl ?_
      refine .oy 11 125 rfl rfl c6 (fun a w hS hI hp => does_val (x_fieldE (b := 0) rfl (hS.get 0 rfl) Try.underlying28 rfl rfl (by kernel_rfl)) rfl) ?_
      refine .oy 11 125 rfl rfl c6 (fun a w hS hI hp => does_val (x_load1 (d := .int .i64) rfl (hp.V 12 rfl rfl) (by kernel_rfl) rfl ((blk_cell (((hI.2).block ax (blk_lt af)).trans af) 22).trans rfl)) rfl) ?_
      refine .oy 11 125 rfl rfl c6 (fun a w hS hI hp => does_call (by kernel_rfl) (ar3 (hp.V 13 rfl rfl) (rfl) (rfl)) ((carillonref05_In.calls cG 0 15 fE _  jg).mono fun _ _ h => ⟨_, h.1, h.2.below, rfl⟩)) ?_
      refine .pt 11 14 rfl rfl rfl c6 rfl ?_
      exact .nil
     clear hS
     intro jt iW hS iq hp
     have dM : sl _ 129 = .bool fE := hp 15 (by decide)
     have hS := hS.cons dM
     clear hp dM
     show wpList _ _ _ [_] _ _
     refine list_step rfl (R := fun v w' => Below _ _ w' ∧ (VB fE) v w') (does_val (x_assign rfl (hS.get 0 rfl)) rfl) ?_
     rintro jX ll ⟨hb, he⟩
     have h5 := below_step iq.1 hb
     have gz := below_step iq.2 hb
     have jc := below_step (bR iW) hb
     obtain rfl : jX = .bool fE := he
     replace hS := (((hS.nil).cons (hS.get 2 rfl)).cons (hS.get 1 rfl)).cons (hS.get 0 rfl)
     refine hS.next (v := .bool fE) (d := 4) rfl (by decide) (by rfl) ?_
     clear hS
     intro kZ hS
     refine wpList_nil ?_
     replace hS := (((hS.nil).cons (hS.get 0 rfl)).cons (hS.get 3 rfl)).cons (hS.get 2 rfl)
     (try simp only [Exit.then, Exit.inBlock])
     exact J3 _ _ fe ff fg fh fi fj fk fl fm fo dS dT dU dV dW dX dY dZ d0 d1 bf bm cG ax fp fq fr fs ft fu fv fw fx fy d2 d3 d4 d5 d6 d7 d8 d9 ea eb ec ed ee cC fE H hS h5 fz ((gz.block ax (blk_lt af)).trans af) fA ((gz.block cC (blk_lt bn)).trans bn) fB
    refine reg_float (I := I3_ w dQ g0) (C := fun x => x.heap[ab]? = some (.cells (carillonref07_Check.c1 ae et eu ev ew ex ey ez eA eB dJ am ao ap aq ar aB aH aL bb aI aM bc) 28 (0, 0))) [true, true, true, true, true, true, true, false, false, false, false, false] [.pointer (some ⟨ab, 20, none⟩), .int .i64 aI, .pointer (some ⟨ab, 21, none⟩), .int .i64 aM, .pointer (some ⟨ab, 22, none⟩), .int .i64 bc, .pointer (some ⟨ad, 20, none⟩), undef, undef, undef, undef, undef] [0, 1, 0, 4, 0, 16, 3, 67, 207, 463, 1023, 2047] (by kernel_rfl) (by kernel_rfl) rfl ?_ ?_ hS ⟨cB.1, cB.2.1, (bR g0)⟩ ?_ ?_
    ·exact bs3
    ·exact fun x hI => ((hI.2.1.block ab (blk_lt ak)).trans ak)
    ·intro a hS hp
     refine .g (fun w hC => GRun.on rfl (x_fieldE (b := 0) rfl (hS.get 1 rfl) Try.underlying28 rfl rfl (by kernel_rfl))) ?_
     refine .g (fun w hC => GRun.on rfl (x_load1 (d := .int .i64) rfl ((hp.get 0 rfl rfl rfl)) (by kernel_rfl) rfl ((blk_cell ((((Below.refl _ _)).block ab (blk_lt hC)).trans hC) 20).trans rfl))) ?_
     refine .g (fun w hC => GRun.on rfl (x_fieldE (b := 0) rfl (hS.get 1 rfl) Try.underlying28 rfl rfl (by kernel_rfl))) ?_
     refine .g (fun w hC => GRun.on rfl (x_load1 (d := .int .i64) rfl ((hp.get 2 rfl rfl rfl)) (by kernel_rfl) rfl ((blk_cell ((((Below.refl _ _)).block ab (blk_lt hC)).trans hC) 21).trans rfl))) ?_
     refine .g (fun w hC => GRun.on rfl (x_fieldE (b := 0) rfl (hS.get 1 rfl) Try.underlying28 rfl rfl (by kernel_rfl))) ?_
     refine .g (fun w hC => GRun.on rfl (x_load1 (d := .int .i64) rfl ((hp.get 4 rfl rfl rfl)) (by kernel_rfl) rfl ((blk_cell ((((Below.refl _ _)).block ab (blk_lt hC)).trans hC) 22).trans rfl))) ?_
     refine .g (fun w hC => GRun.on rfl (x_fieldE (b := 0) rfl (hS.get 2 rfl) Try.underlying28 rfl rfl (by kernel_rfl))) ?_
     iterate 5 refine .t ?_
     exact .nil
    clear hS
    intro kF kb hS hp gH
    have hS := hS.cons (show sl _ 106 = .int .i64 aI from hp.get 1 rfl rfl rfl)
    have hS := hS.cons (show sl _ 108 = .int .i64 aM from hp.get 3 rfl rfl rfl)
    have hS := hS.cons (show sl _ 110 = .int .i64 bc from hp.get 5 rfl rfl rfl)
    have hS := hS.cons (show sl _ 111 = .pointer (some ⟨ad, 20, none⟩) from hp.get 6 rfl rfl rfl)
    clear hp
    show ListC _ _ _ _ [_, _, _, _, _] _ _
    refine lc_step rfl (does_store (g := ad) (off := 20) (v := .int .i64 aI) (new := (carillonref07_Check.c1 aP aQ aR aS aT aU aV aW aX aY aC dK cF bp bq br bl bg bd aN aI be aO)) rfl (hS.get 0 rfl) (hS.get 3 rfl) ((gH.2.1.block ad (blk_lt dw)).trans dw) (by kernel_rfl) (by kernel_rfl) (by kernel_rfl) (by kernel_rfl)) ?_
    rintro k2 iH ⟨rfl, g8, hT⟩
    have fJ := hT.blk ((gH.2.1.block ab (blk_lt ak)).trans ak) (Ne.symm aA)
    have hJ := hT.below gH.1 az (gH.1).size
    clear hT
    refine ⟨(((bR iH).block ab (blk_lt fJ)).trans fJ), ?_⟩
    refine lc_step rfl (R := fun v w' => Below _ _ w' ∧ (VP ad 21) v w') (does_val (x_fieldE (b := 0) rfl (hS.get 6 rfl) Try.underlying28 rfl rfl (by kernel_rfl)) rfl) ?_
    rintro jG ld ⟨hb, he⟩
    have gP := below_step hJ hb
    have eD := below_step (bR iH) hb
    obtain rfl : jG = .pointer (some ⟨ad, 21, none⟩) := he
    refine ⟨((eD.block ab (blk_lt fJ)).trans fJ), ?_⟩
    refine hS.nextC (v := .pointer (some ⟨ad, 21, none⟩)) (d := 112) rfl (by decide) (by rfl) ?_
    clear hS
    intro kH hS
    refine lc_step rfl (does_store (g := ad) (off := 21) (v := .int .i64 aM) (new := (carillonref07_Check.c1 aP aQ aR aS aT aU aV aW aX aY aC dK cF bp bq br bl bg bd aN aI aM aO)) rfl (hS.get 0 rfl) (hS.get 3 rfl) ((eD.block ad (blk_lt g8)).trans g8) (by kernel_rfl) (by kernel_rfl) (by kernel_rfl) (by kernel_rfl)) ?_
    rintro k4 iJ ⟨rfl, ha, hT⟩
    have fL := hT.blk ((eD.block ab (blk_lt fJ)).trans fJ) (Ne.symm aA)
    have hL := hT.below gP az (gP).size
    clear hT
    refine ⟨(((bR iJ).block ab (blk_lt fL)).trans fL), ?_⟩
    refine lc_step rfl (R := fun v w' => Below _ _ w' ∧ (VP ad 22) v w') (does_val (x_fieldE (b := 0) rfl (hS.get 7 rfl) Try.underlying28 rfl rfl (by kernel_rfl)) rfl) ?_
    rintro jI lf ⟨hb, he⟩
    have gR := below_step hL hb
    have eF := below_step (bR iJ) hb
    obtain rfl : jI = .pointer (some ⟨ad, 22, none⟩) := he
    refine ⟨((eF.block ab (blk_lt fL)).trans fL), ?_⟩
    refine hS.nextC (v := .pointer (some ⟨ad, 22, none⟩)) (d := 113) rfl (by decide) (by rfl) ?_
    clear hS
    intro kJ hS
    refine lc_step rfl (does_store (g := ad) (off := 22) (v := .int .i64 bc) (new := (carillonref07_Check.c1 aP aQ aR aS aT aU aV aW aX aY aC dK cF bp bq br bl bg bd aN aI aM bc)) rfl (hS.get 0 rfl) (hS.get 3 rfl) ((eF.block ad (blk_lt ha)).trans ha) (by kernel_rfl) (by kernel_rfl) (by kernel_rfl) (by kernel_rfl)) ?_
    rintro k6 hw ⟨rfl, hf, hT⟩
    have gE := hT.blk ((eF.block ab (blk_lt fL)).trans fL) (Ne.symm aA)
    have hN := hT.below gR az (gR).size
    clear hT
    refine ⟨(((bR hw).block ab (blk_lt gE)).trans gE), ?_⟩
    refine lc_nil ?_
    replace hS := (((hS.nil).cons (hS.get 9 rfl)).cons (hS.get 8 rfl)).cons (hS.get 7 rfl)
    (try simp only [Exit.then, Exit.inBlock])
    exact J5 _ _ ae et eu ev ew ex ey ez eA eB dJ am ao ap aq ar aB aH aL bb aI aM bc ab aP aQ aR aS aT aU aV aW aX aY aC dK cF bp bq br bl bg bd aN aI aM bc ad gN H hS hN gc (((bR hw).block ab (blk_lt gE)).trans gE) az (((bR hw).block ad (blk_lt hf)).trans hf) aA
   rw [if_pos c2] at H
   refine wp_seq_k (fun iB f9 => ?_)
   refine reg_seq (I := I2_ w dQ) (ps := [VP ab 0, VI ae]) (by kernel_rfl) ?_ ?_ rfl hS ⟨gM, (bR dQ)⟩ ?_ ?_
   ·exact bs2
   ·exact .v (.v (.nil))
   ·refine .on rfl (fun a w hS hI hp => does_val (x_fieldE (b := 0) rfl (hS.get 0 rfl) Try.underlying28 rfl rfl (by kernel_rfl)) rfl) ?_
    refine .on rfl (fun a w hS hI hp => does_val (x_load1 (d := .int .i64) rfl (hp.V 0 rfl rfl) (by kernel_rfl) rfl ((blk_cell (((hI.2).block ab (blk_lt ak)).trans ak) 0).trans rfl)) rfl) ?_
    exact .nil
   clear hS
   intro hB fF hS ei hp
   have ge : sl _ 48 = .int .i64 ae := hp 1 (by decide)
   have hS := hS.cons ge
   clear hp ge
   refine f9 _ _ ?_
   refine wp_block ?_
   refine wp_seq_k (fun iC ga => ?_)
   refine reg_seq (I := I3_ w dQ fF) (ps := [VB (decide (ae = 11)), VB (decide (ae = 11))]) (by kernel_rfl) ?_ ?_ rfl hS ⟨ei.1, ei.2, (bR fF)⟩ ?_ ?_
   ·exact bs3
   ·exact .v (.v (.nil))
   ·refine .on rfl (fun a w hS hI hp => does_val (x_bin rfl (hS.get 0 rfl) (rfl) (b_eql _ _ _ _ _ _)) rfl) ?_
    refine .asg 0 rfl rfl rfl ?_
    exact .nil
   clear hS
   intro hD fG hS ej hp
   have gf : sl _ 49 = .bool (decide (ae = 11)) := hp 1 (by decide)
   have hS := hS.cons gf
   clear hp gf
   refine ga _ _ ?_
   refine wp_cond_true ((hS.get 0 rfl).trans (bT (decide_eq_true c2))) ?_
   refine wp_seq_k (fun hs cx => ?_)
   have J4 : ∀ (jl : Act) (dP : World) (da db dc dd de df dg dh di dj bW ah al aD aE aF au bX bi aG bY bZ ca : Int) (ac : Nat) (dk dl dm dn dp dq dr ds dt du cb cc cd ce cf cg ch ci cj ck cl cm cn : Int) (ba : Nat) (cq : Bool), carillonref07_Check.j4 k da db dc dd de df dg dh di dj bW ah al aD aE aF au bX bi aG bY bZ ca dk dl dm dn dp dq dr ds dt du cb cc cd ce cf cg ch ci cj ck cl cm cn cq = some r → St 136 [(1, .pointer (some ⟨ac, 0, none⟩)), (3, .pointer (some ⟨ba, 0, none⟩)), (4, .bool cq)] jl → Below w.heap.size w dP → w.heap.size ≤ ac → dP.heap[ac]? = some (.cells (carillonref07_Check.c1 da db dc dd de df dg dh di dj bW ah al aD aE aF au bX bi aG bY bZ ca) 28 (0, 0)) → w.heap.size ≤ ba → dP.heap[ba]? = some (.cells (carillonref07_Check.c1 dk dl dm dn dp dq dr ds dt du cb cc cd ce cf cg ch ci cj ck cl cm cn) 28 (0, 0)) → ba ≠ ac → hs jl dP := by
    intro jl dP da db dc dd de df dg dh di dj bW ah al aD aE aF au bX bi aG bY bZ ca ac dk dl dm dn dp dq dr ds dt du cb cc cd ce cf cg ch ci cj ck cl cm cn ba cq H hS dR cy aa cz an cA
    unfold carillonref07_Check.j4 at H
    (try dsimp only at H)
    by_cases c3 : cq = true
    rotate_left
    ·rw [if_neg c3] at H
     refine cx _ _ ?_
     refine reg_seq_tail 31 (I := I2_ w dP) (ps := [VB cq, VB cq, VU, VU, VU, VB false, VB false, VU, VU, VU, VB false, VB false, VU, VU, VU, VB false, VB false, VU, VU, VU, VB false, VB false, VU, VU, VU, VB false, VB false, VU, VU, VU, VB false]) (by kernel_rfl) ?_ ?_ rfl hS ⟨dR, (bR dP)⟩ ?_ ?_
     ·exact bs2
     ·exact .v (.v (.v (.v (.v (.v (.v (.v (.v (.v (.v (.v (.v (.v (.v (.v (.v (.v (.v (.v (.v (.v (.v (.v (.v (.v (.v (.v (.v (.v (.v (.nil)))))))))))))))))))))))))))))))
     ·refine .ms 2 rfl rfl rfl ?_
      refine .mv 0 rfl rfl rfl ?_
      iterate 3 refine .sn 1 73 rfl rfl ((Bool.eq_false_iff.2 c3)) ?_
      refine .pf 1 rfl rfl rfl ((Bool.eq_false_iff.2 c3)) (fun _ => rfl) ?_
      refine .mv 5 rfl rfl rfl ?_
      iterate 3 refine .sn 6 78 rfl rfl rfl ?_
      refine .pf 6 rfl rfl rfl rfl (fun _ => rfl) ?_
      refine .mv 10 rfl rfl rfl ?_
      iterate 3 refine .sn 11 83 rfl rfl rfl ?_
      refine .pf 11 rfl rfl rfl rfl (fun _ => rfl) ?_
      refine .mv 15 rfl rfl rfl ?_
      iterate 3 refine .sn 16 88 rfl rfl rfl ?_
      refine .pf 16 rfl rfl rfl rfl (fun _ => rfl) ?_
      refine .mv 20 rfl rfl rfl ?_
      iterate 3 refine .sn 21 93 rfl rfl rfl ?_
      refine .pf 21 rfl rfl rfl rfl (fun _ => rfl) ?_
      refine .mv 25 rfl rfl rfl ?_
      iterate 3 refine .sn 26 98 rfl rfl rfl ?_
      refine .pf 26 rfl rfl rfl rfl (fun _ => rfl) ?_
      exact .nil
     clear hS
     intro kO kd hS ie hp
     have aK : sl _ 102 = .bool false := hp 30 (by decide)
     have hS := hS.cons aK
     clear hp aK
     show wpList _ _ _ [_] _ _
     refine list_step rfl (R := fun v w' => Below _ _ w' ∧ (VB false) v w') (does_val (x_assign rfl (hS.get 0 rfl)) rfl) ?_
     rintro jN iO ⟨hb, he⟩
     have hV := below_step ie.1 hb
     have gp := below_step ie.2 hb
     have i2 := below_step (bR kd) hb
     obtain rfl : jN = .bool false := he
     replace hS := (((hS.nil).cons (hS.get 2 rfl)).cons (hS.get 1 rfl)).cons (hS.get 0 rfl)
     refine hS.next (v := .bool false) (d := 4) rfl (by decide) (by rfl) ?_
     clear hS
     intro jp hS
     refine wpList_nil ?_
     replace hS := (((hS.nil).cons (hS.get 0 rfl)).cons (hS.get 3 rfl)).cons (hS.get 2 rfl)
     (try simp only [Exit.then, Exit.inBlock])
     exact J3 _ _ da db dc dd de df dg dh di dj bW ah al aD aE aF au bX bi aG bY bZ ca ac dk dl dm dn dp dq dr ds dt du cb cc cd ce cf cg ch ci cj ck cl cm cn ba false H hS hV cy ((gp.block ac (blk_lt aa)).trans aa) cz ((gp.block ba (blk_lt an)).trans an) cA
    rw [if_pos c3] at H
    obtain ⟨ay, fH, H⟩ := Option.bind_eq_some_iff.mp H
    by_cases c4 : ay = true
    rotate_left
    ·rw [if_neg c4] at H
     refine cx _ _ ?_
     refine reg_seq_tail 31 (I := I2_ w dP) (ps := [VB cq, VB cq, VP ac 11, VI ah, VB ay, VB ay, VB ay, VU, VU, VU, VB false, VB false, VU, VU, VU, VB false, VB false, VU, VU, VU, VB false, VB false, VU, VU, VU, VB false, VB false, VU, VU, VU, VB false]) (by kernel_rfl) ?_ ?_ rfl hS ⟨dR, (bR dP)⟩ ?_ ?_
     ·exact bs2
     ·exact .v (.v (.v (.v (.v (.v (.v (.v (.v (.v (.v (.v (.v (.v (.v (.v (.v (.v (.v (.v (.v (.v (.v (.v (.v (.v (.v (.v (.v (.v (.v (.nil)))))))))))))))))))))))))))))))
     ·refine .ms 2 rfl rfl rfl ?_
      refine .mv 0 rfl rfl rfl ?_
      refine .oy 1 73 rfl rfl c3 (fun a w hS hI hp => does_val (x_fieldE (b := 0) rfl (hS.get 0 rfl) Try.underlying28 rfl rfl (by kernel_rfl)) rfl) ?_
      refine .oy 1 73 rfl rfl c3 (fun a w hS hI hp => does_val (x_load1 (d := .int .i64) rfl (hp.V 2 rfl rfl) (by kernel_rfl) rfl ((blk_cell (((hI.2).block ac (blk_lt aa)).trans aa) 11).trans rfl)) rfl) ?_
      refine .oy 1 73 rfl rfl c3 (fun a w hS hI hp => does_call (by kernel_rfl) (ar3 (hp.V 3 rfl rfl) (rfl) (rfl)) ((carillonref05_In.calls ah (-32768) 32767 ay _  fH).mono fun _ _ h => ⟨_, h.1, h.2.below, rfl⟩)) ?_
      refine .pt 1 4 rfl rfl rfl c3 rfl ?_
      refine .mv 5 rfl rfl rfl ?_
      iterate 3 refine .sn 6 78 rfl rfl ((Bool.eq_false_iff.2 c4)) ?_
      refine .pf 6 rfl rfl rfl ((Bool.eq_false_iff.2 c4)) (fun _ => rfl) ?_
      refine .mv 10 rfl rfl rfl ?_
      iterate 3 refine .sn 11 83 rfl rfl rfl ?_
      refine .pf 11 rfl rfl rfl rfl (fun _ => rfl) ?_
      refine .mv 15 rfl rfl rfl ?_
      iterate 3 refine .sn 16 88 rfl rfl rfl ?_
      refine .pf 16 rfl rfl rfl rfl (fun _ => rfl) ?_
      refine .mv 20 rfl rfl rfl ?_
      iterate 3 refine .sn 21 93 rfl rfl rfl ?_
      refine .pf 21 rfl rfl rfl rfl (fun _ => rfl) ?_
      refine .mv 25 rfl rfl rfl ?_
      iterate 3 refine .sn 26 98 rfl rfl rfl ?_
      refine .pf 26 rfl rfl rfl rfl (fun _ => rfl) ?_
      exact .nil
     clear hS
     intro kP iO hS ig hp
     have aK : sl _ 102 = .bool false := hp 30 (by decide)
     have hS := hS.cons aK
     clear hp aK
     show wpList _ _ _ [_] _ _
     refine list_step rfl (R := fun v w' => Below _ _ w' ∧ (VB false) v w') (does_val (x_assign rfl (hS.get 0 rfl)) rfl) ?_
     rintro jO iP ⟨hb, he⟩
     have hW := below_step ig.1 hb
     have gq := below_step ig.2 hb
     have i3 := below_step (bR iO) hb
     obtain rfl : jO = .bool false := he
     replace hS := (((hS.nil).cons (hS.get 2 rfl)).cons (hS.get 1 rfl)).cons (hS.get 0 rfl)
     refine hS.next (v := .bool false) (d := 4) rfl (by decide) (by rfl) ?_
     clear hS
     intro jq hS
     refine wpList_nil ?_
     replace hS := (((hS.nil).cons (hS.get 0 rfl)).cons (hS.get 3 rfl)).cons (hS.get 2 rfl)
     (try simp only [Exit.then, Exit.inBlock])
     exact J3 _ _ da db dc dd de df dg dh di dj bW ah al aD aE aF au bX bi aG bY bZ ca ac dk dl dm dn dp dq dr ds dt du cb cc cd ce cf cg ch ci cj ck cl cm cn ba false H hS hW cy ((gq.block ac (blk_lt aa)).trans aa) cz ((gq.block ba (blk_lt an)).trans an) cA
    rw [if_pos c4] at H
    obtain ⟨aJ, f5, H⟩ := Option.bind_eq_some_iff.mp H
    by_cases c5 : aJ = true
    rotate_left
    ·rw [if_neg c5] at H
     refine cx _ _ ?_
     refine reg_seq_tail 31 (I := I2_ w dP) (ps := [VB cq, VB cq, VP ac 11, VI ah, VB ay, VB ay, VB ay, VP ac 12, VI al, VB aJ, VB aJ, VB aJ, VU, VU, VU, VB false, VB false, VU, VU, VU, VB false, VB false, VU, VU, VU, VB false, VB false, VU, VU, VU, VB false]) (by kernel_rfl) ?_ ?_ rfl hS ⟨dR, (bR dP)⟩ ?_ ?_
     ·exact bs2
     ·exact .v (.v (.v (.v (.v (.v (.v (.v (.v (.v (.v (.v (.v (.v (.v (.v (.v (.v (.v (.v (.v (.v (.v (.v (.v (.v (.v (.v (.v (.v (.v (.nil)))))))))))))))))))))))))))))))
     ·refine .ms 2 rfl rfl rfl ?_
      refine .mv 0 rfl rfl rfl ?_
      refine .oy 1 73 rfl rfl c3 (fun a w hS hI hp => does_val (x_fieldE (b := 0) rfl (hS.get 0 rfl) Try.underlying28 rfl rfl (by kernel_rfl)) rfl) ?_
      refine .oy 1 73 rfl rfl c3 (fun a w hS hI hp => does_val (x_load1 (d := .int .i64) rfl (hp.V 2 rfl rfl) (by kernel_rfl) rfl ((blk_cell (((hI.2).block ac (blk_lt aa)).trans aa) 11).trans rfl)) rfl) ?_
      refine .oy 1 73 rfl rfl c3 (fun a w hS hI hp => does_call (by kernel_rfl) (ar3 (hp.V 3 rfl rfl) (rfl) (rfl)) ((carillonref05_In.calls ah (-32768) 32767 ay _  fH).mono fun _ _ h => ⟨_, h.1, h.2.below, rfl⟩)) ?_
      refine .pt 1 4 rfl rfl rfl c3 rfl ?_
      refine .mv 5 rfl rfl rfl ?_
      refine .oy 6 78 rfl rfl c4 (fun a w hS hI hp => does_val (x_fieldE (b := 0) rfl (hS.get 0 rfl) Try.underlying28 rfl rfl (by kernel_rfl)) rfl) ?_
      refine .oy 6 78 rfl rfl c4 (fun a w hS hI hp => does_val (x_load1 (d := .int .i64) rfl (hp.V 7 rfl rfl) (by kernel_rfl) rfl ((blk_cell (((hI.2).block ac (blk_lt aa)).trans aa) 12).trans rfl)) rfl) ?_
      refine .oy 6 78 rfl rfl c4 (fun a w hS hI hp => does_call (by kernel_rfl) (ar3 (hp.V 8 rfl rfl) (rfl) (rfl)) ((carillonref05_In.calls al 0 255 aJ _  f5).mono fun _ _ h => ⟨_, h.1, h.2.below, rfl⟩)) ?_
      refine .pt 6 9 rfl rfl rfl c4 rfl ?_
      refine .mv 10 rfl rfl rfl ?_
      iterate 3 refine .sn 11 83 rfl rfl ((Bool.eq_false_iff.2 c5)) ?_
      refine .pf 11 rfl rfl rfl ((Bool.eq_false_iff.2 c5)) (fun _ => rfl) ?_
      refine .mv 15 rfl rfl rfl ?_
      iterate 3 refine .sn 16 88 rfl rfl rfl ?_
      refine .pf 16 rfl rfl rfl rfl (fun _ => rfl) ?_
      refine .mv 20 rfl rfl rfl ?_
      iterate 3 refine .sn 21 93 rfl rfl rfl ?_
      refine .pf 21 rfl rfl rfl rfl (fun _ => rfl) ?_
      refine .mv 25 rfl rfl rfl ?_
      iterate 3 refine .sn 26 98 rfl rfl rfl ?_
      refine .pf 26 rfl rfl rfl rfl (fun _ => rfl) ?_
      exact .nil
     clear hS
     intro kQ iP hS ih hp
     have aK : sl _ 102 = .bool false := hp 30 (by decide)
     have hS := hS.cons aK
     clear hp aK
     show wpList _ _ _ [_] _ _
     refine list_step rfl (R := fun v w' => Below _ _ w' ∧ (VB false) v w') (does_val (x_assign rfl (hS.get 0 rfl)) rfl) ?_
     rintro jP iQ ⟨hb, he⟩
     have hX := below_step ih.1 hb
     have gr := below_step ih.2 hb
     have i4 := below_step (bR iP) hb
     obtain rfl : jP = .bool false := he
     replace hS := (((hS.nil).cons (hS.get 2 rfl)).cons (hS.get 1 rfl)).cons (hS.get 0 rfl)
     refine hS.next (v := .bool false) (d := 4) rfl (by decide) (by rfl) ?_
     clear hS
     intro jr hS
     refine wpList_nil ?_
     replace hS := (((hS.nil).cons (hS.get 0 rfl)).cons (hS.get 3 rfl)).cons (hS.get 2 rfl)
     (try simp only [Exit.then, Exit.inBlock])
     exact J3 _ _ da db dc dd de df dg dh di dj bW ah al aD aE aF au bX bi aG bY bZ ca ac dk dl dm dn dp dq dr ds dt du cb cc cd ce cf cg ch ci cj ck cl cm cn ba false H hS hX cy ((gr.block ac (blk_lt aa)).trans aa) cz ((gr.block ba (blk_lt an)).trans an) cA
    rw [if_pos c5] at H
    obtain ⟨bj, gB, H⟩ := Option.bind_eq_some_iff.mp H
    by_cases c6 : bj = true
    rotate_left
    ·rw [if_neg c6] at H
     refine cx _ _ ?_
     refine reg_seq_tail 31 (I := I2_ w dP) (ps := [VB cq, VB cq, VP ac 11, VI ah, VB ay, VB ay, VB ay, VP ac 12, VI al, VB aJ, VB aJ, VB aJ, VP ac 16, VI au, VB bj, VB bj, VB bj, VU, VU, VU, VB false, VB false, VU, VU, VU, VB false, VB false, VU, VU, VU, VB false]) (by kernel_rfl) ?_ ?_ rfl hS ⟨dR, (bR dP)⟩ ?_ ?_
     ·exact bs2
     ·exact .v (.v (.v (.v (.v (.v (.v (.v (.v (.v (.v (.v (.v (.v (.v (.v (.v (.v (.v (.v (.v (.v (.v (.v (.v (.v (.v (.v (.v (.v (.v (.nil)))))))))))))))))))))))))))))))
     ·refine .ms 2 rfl rfl rfl ?_
      refine .mv 0 rfl rfl rfl ?_
      refine .oy 1 73 rfl rfl c3 (fun a w hS hI hp => does_val (x_fieldE (b := 0) rfl (hS.get 0 rfl) Try.underlying28 rfl rfl (by kernel_rfl)) rfl) ?_
      refine .oy 1 73 rfl rfl c3 (fun a w hS hI hp => does_val (x_load1 (d := .int .i64) rfl (hp.V 2 rfl rfl) (by kernel_rfl) rfl ((blk_cell (((hI.2).block ac (blk_lt aa)).trans aa) 11).trans rfl)) rfl) ?_
      refine .oy 1 73 rfl rfl c3 (fun a w hS hI hp => does_call (by kernel_rfl) (ar3 (hp.V 3 rfl rfl) (rfl) (rfl)) ((carillonref05_In.calls ah (-32768) 32767 ay _  fH).mono fun _ _ h => ⟨_, h.1, h.2.below, rfl⟩)) ?_
      refine .pt 1 4 rfl rfl rfl c3 rfl ?_
      refine .mv 5 rfl rfl rfl ?_
      refine .oy 6 78 rfl rfl c4 (fun a w hS hI hp => does_val (x_fieldE (b := 0) rfl (hS.get 0 rfl) Try.underlying28 rfl rfl (by kernel_rfl)) rfl) ?_
      refine .oy 6 78 rfl rfl c4 (fun a w hS hI hp => does_val (x_load1 (d := .int .i64) rfl (hp.V 7 rfl rfl) (by kernel_rfl) rfl ((blk_cell (((hI.2).block ac (blk_lt aa)).trans aa) 12).trans rfl)) rfl) ?_
      refine .oy 6 78 rfl rfl c4 (fun a w hS hI hp => does_call (by kernel_rfl) (ar3 (hp.V 8 rfl rfl) (rfl) (rfl)) ((carillonref05_In.calls al 0 255 aJ _  f5).mono fun _ _ h => ⟨_, h.1, h.2.below, rfl⟩)) ?_
      refine .pt 6 9 rfl rfl rfl c4 rfl ?_
      refine .mv 10 rfl rfl rfl ?_
      refine .oy 11 83 rfl rfl c5 (fun a w hS hI hp => does_val (x_fieldE (b := 0) rfl (hS.get 0 rfl) Try.underlying28 rfl rfl (by kernel_rfl)) rfl) ?_
      refine .oy 11 83 rfl rfl c5 (fun a w hS hI hp => does_val (x_load1 (d := .int .i64) rfl (hp.V 12 rfl rfl) (by kernel_rfl) rfl ((blk_cell (((hI.2).block ac (blk_lt aa)).trans aa) 16).trans rfl)) rfl) ?_
      refine .oy 11 83 rfl rfl c5 (fun a w hS hI hp => does_call (by kernel_rfl) (ar3 (hp.V 13 rfl rfl) (rfl) (rfl)) ((carillonref05_In.calls au 0 255 bj _  gB).mono fun _ _ h => ⟨_, h.1, h.2.below, rfl⟩)) ?_
      refine .pt 11 14 rfl rfl rfl c5 rfl ?_
      refine .mv 15 rfl rfl rfl ?_
      iterate 3 refine .sn 16 88 rfl rfl ((Bool.eq_false_iff.2 c6)) ?_
      refine .pf 16 rfl rfl rfl ((Bool.eq_false_iff.2 c6)) (fun _ => rfl) ?_
      refine .mv 20 rfl rfl rfl ?_
      iterate 3 refine .sn 21 93 rfl rfl rfl ?_
      refine .pf 21 rfl rfl rfl rfl (fun _ => rfl) ?_
      refine .mv 25 rfl rfl rfl ?_
      iterate 3 refine .sn 26 98 rfl rfl rfl ?_
      refine .pf 26 rfl rfl rfl rfl (fun _ => rfl) ?_
      exact .nil
     clear hS
     intro jp iQ hS ii hp
     have aK : sl _ 102 = .bool false := hp 30 (by decide)
     have hS := hS.cons aK
     clear hp aK
     show wpList _ _ _ [_] _ _
     refine list_step rfl (R := fun v w' => Below _ _ w' ∧ (VB false) v w') (does_val (x_assign rfl (hS.get 0 rfl)) rfl) ?_
     rintro jQ iR ⟨hb, he⟩
     have hY := below_step ii.1 hb
     have gs := below_step ii.2 hb
     have i5 := below_step (bR iQ) hb
     obtain rfl : jQ = .bool false := he
     replace hS := (((hS.nil).cons (hS.get 2 rfl)).cons (hS.get 1 rfl)).cons (hS.get 0 rfl)
     refine hS.next (v := .bool false) (d := 4) rfl (by decide) (by rfl) ?_
     clear hS
     intro js hS
     refine wpList_nil ?_
     replace hS := (((hS.nil).cons (hS.get 0 rfl)).cons (hS.get 3 rfl)).cons (hS.get 2 rfl)
     (try simp only [Exit.then, Exit.inBlock])
     exact J3 _ _ da db dc dd de df dg dh di dj bW ah al aD aE aF au bX bi aG bY bZ ca ac dk dl dm dn dp dq dr ds dt du cb cc cd ce cf cg ch ci cj ck cl cm cn ba false H hS hY cy ((gs.block ac (blk_lt aa)).trans aa) cz ((gs.block ba (blk_lt an)).trans an) cA
    rw [if_pos c6] at H
    obtain ⟨cD, g2, H⟩ := Option.bind_eq_some_iff.mp H
    by_cases c7 : cD = true
    rotate_left
    ·rw [if_neg c7] at H
     refine cx _ _ ?_
     refine reg_seq_tail 31 (I := I2_ w dP) (ps := [VB cq, VB cq, VP ac 11, VI ah, VB ay, VB ay, VB ay, VP ac 12, VI al, VB aJ, VB aJ, VB aJ, VP ac 16, VI au, VB bj, VB bj, VB bj, VP ac 19, VI aG, VB cD, VB cD, VB cD, VU, VU, VU, VB false, VB false, VU, VU, VU, VB false]) (by kernel_rfl) ?_ ?_ rfl hS ⟨dR, (bR dP)⟩ ?_ ?_
     ·exact bs2
     ·exact .v (.v (.v (.v (.v (.v (.v (.v (.v (.v (.v (.v (.v (.v (.v (.v (.v (.v (.v (.v (.v (.v (.v (.v (.v (.v (.v (.v (.v (.v (.v (.nil)))))))))))))))))))))))))))))))
     ·refine .ms 2 rfl rfl rfl ?_
      refine .mv 0 rfl rfl rfl ?_
      refine .oy 1 73 rfl rfl c3 (fun a w hS hI hp => does_val (x_fieldE (b := 0) rfl (hS.get 0 rfl) Try.underlying28 rfl rfl (by kernel_rfl)) rfl) ?_
      refine .oy 1 73 rfl rfl c3 (fun a w hS hI hp => does_val (x_load1 (d := .int .i64) rfl (hp.V 2 rfl rfl) (by kernel_rfl) rfl ((blk_cell (((hI.2).block ac (blk_lt aa)).trans aa) 11).trans rfl)) rfl) ?_
      refine .oy 1 73 rfl rfl c3 (fun a w hS hI hp => does_call (by kernel_rfl) (ar3 (hp.V 3 rfl rfl) (rfl) (rfl)) ((carillonref05_In.calls ah (-32768) 32767 ay _  fH).mono fun _ _ h => ⟨_, h.1, h.2.below, rfl⟩)) ?_
      refine .pt 1 4 rfl rfl rfl c3 rfl ?_
      refine .mv 5 rfl rfl rfl ?_
      refine .oy 6 78 rfl rfl c4 (fun a w hS hI hp => does_val (x_fieldE (b := 0) rfl (hS.get 0 rfl) Try.underlying28 rfl rfl (by kernel_rfl)) rfl) ?_
      refine .oy 6 78 rfl rfl c4 (fun a w hS hI hp => does_val (x_load1 (d := .int .i64) rfl (hp.V 7 rfl rfl) (by kernel_rfl) rfl ((blk_cell (((hI.2).block ac (blk_lt aa)).trans aa) 12).trans rfl)) rfl) ?_
      refine .oy 6 78 rfl rfl c4 (fun a w hS hI hp => does_call (by kernel_rfl) (ar3 (hp.V 8 rfl rfl) (rfl) (rfl)) ((carillonref05_In.calls al 0 255 aJ _  f5).mono fun _ _ h => ⟨_, h.1, h.2.below, rfl⟩)) ?_
      refine .pt 6 9 rfl rfl rfl c4 rfl ?_
      refine .mv 10 rfl rfl rfl ?_
      refine .oy 11 83 rfl rfl c5 (fun a w hS hI hp => does_val (x_fieldE (b := 0) rfl (hS.get 0 rfl) Try.underlying28 rfl rfl (by kernel_rfl)) rfl) ?_
      refine .oy 11 83 rfl rfl c5 (fun a w hS hI hp => does_val (x_load1 (d := .int .i64) rfl (hp.V 12 rfl rfl) (by kernel_rfl) rfl ((blk_cell (((hI.2).block ac (blk_lt aa)).trans aa) 16).trans rfl)) rfl) ?_
      refine .oy 11 83 rfl rfl c5 (fun a w hS hI hp => does_call (by kernel_rfl) (ar3 (hp.V 13 rfl rfl) (rfl) (rfl)) ((carillonref05_In.calls au 0 255 bj _  gB).mono fun _ _ h => ⟨_, h.1, h.2.below, rfl⟩)) ?_
      refine .pt 11 14 rfl rfl rfl c5 rfl ?_
      refine .mv 15 rfl rfl rfl ?_
      refine .oy 16 88 rfl rfl c6 (fun a w hS hI hp => does_val (x_fieldE (b := 0) rfl (hS.get 0 rfl) Try.underlying28 rfl rfl (by kernel_rfl)) rfl) ?_
      refine .oy 16 88 rfl rfl c6 (fun a w hS hI hp => does_val (x_load1 (d := .int .i64) rfl (hp.V 17 rfl rfl) (by kernel_rfl) rfl ((blk_cell (((hI.2).block ac (blk_lt aa)).trans aa) 19).trans rfl)) rfl) ?_
      refine .oy 16 88 rfl rfl c6 (fun a w hS hI hp => does_call (by kernel_rfl) (ar3 (hp.V 18 rfl rfl) (rfl) (rfl)) ((carillonref05_In.calls aG 0 255 cD _  g2).mono fun _ _ h => ⟨_, h.1, h.2.below, rfl⟩)) ?_
      refine .pt 16 19 rfl rfl rfl c6 rfl ?_
      refine .mv 20 rfl rfl rfl ?_
      iterate 3 refine .sn 21 93 rfl rfl ((Bool.eq_false_iff.2 c7)) ?_
      refine .pf 21 rfl rfl rfl ((Bool.eq_false_iff.2 c7)) (fun _ => rfl) ?_
      refine .mv 25 rfl rfl rfl ?_
      iterate 3 refine .sn 26 98 rfl rfl rfl ?_
      refine .pf 26 rfl rfl rfl rfl (fun _ => rfl) ?_
      exact .nil
     clear hS
     intro jq iR hS ij hp
     have aK : sl _ 102 = .bool false := hp 30 (by decide)
     have hS := hS.cons aK
     clear hp aK
     show wpList _ _ _ [_] _ _
     refine list_step rfl (R := fun v w' => Below _ _ w' ∧ (VB false) v w') (does_val (x_assign rfl (hS.get 0 rfl)) rfl) ?_
     rintro jR iS ⟨hb, he⟩
     have hZ := below_step ij.1 hb
     have gt := below_step ij.2 hb
     have i6 := below_step (bR iR) hb
     obtain rfl : jR = .bool false := he
     replace hS := (((hS.nil).cons (hS.get 2 rfl)).cons (hS.get 1 rfl)).cons (hS.get 0 rfl)
     refine hS.next (v := .bool false) (d := 4) rfl (by decide) (by rfl) ?_
     clear hS
     intro kR hS
     refine wpList_nil ?_
     replace hS := (((hS.nil).cons (hS.get 0 rfl)).cons (hS.get 3 rfl)).cons (hS.get 2 rfl)
     (try simp only [Exit.then, Exit.inBlock])
     exact J3 _ _ da db dc dd de df dg dh di dj bW ah al aD aE aF au bX bi aG bY bZ ca ac dk dl dm dn dp dq dr ds dt du cb cc cd ce cf cg ch ci cj ck cl cm cn ba false H hS hZ cy ((gt.block ac (blk_lt aa)).trans aa) cz ((gt.block ba (blk_lt an)).trans an) cA
    rw [if_pos c7] at H
    obtain ⟨eY, hy, H⟩ := Option.bind_eq_some_iff.mp H
    by_cases c8 : eY = true
    rotate_left
    ·rw [if_neg c8] at H
     refine cx _ _ ?_
     refine reg_seq_tail 31 (I := I2_ w dP) (ps := [VB cq, VB cq, VP ac 11, VI ah, VB ay, VB ay, VB ay, VP ac 12, VI al, VB aJ, VB aJ, VB aJ, VP ac 16, VI au, VB bj, VB bj, VB bj, VP ac 19, VI aG, VB cD, VB cD, VB cD, VP ac 13, IsV (.agg #[.int .i64 aD, .int .i64 aE, .int .i64 aF]), VB eY, VB eY, VB eY, VU, VU, VU, VB false]) (by kernel_rfl) ?_ ?_ rfl hS ⟨dR, (bR dP)⟩ ?_ ?_
     ·exact bs2
     ·exact .v (.v (.v (.v (.v (.v (.v (.v (.v (.v (.v (.v (.v (.v (.v (.v (.v (.v (.v (.v (.v (.v (.v (.v (.v (.v (.v (.v (.v (.v (.v (.nil)))))))))))))))))))))))))))))))
     ·refine .ms 2 rfl rfl rfl ?_
      refine .mv 0 rfl rfl rfl ?_
      refine .oy 1 73 rfl rfl c3 (fun a w hS hI hp => does_val (x_fieldE (b := 0) rfl (hS.get 0 rfl) Try.underlying28 rfl rfl (by kernel_rfl)) rfl) ?_
      refine .oy 1 73 rfl rfl c3 (fun a w hS hI hp => does_val (x_load1 (d := .int .i64) rfl (hp.V 2 rfl rfl) (by kernel_rfl) rfl ((blk_cell (((hI.2).block ac (blk_lt aa)).trans aa) 11).trans rfl)) rfl) ?_
      refine .oy 1 73 rfl rfl c3 (fun a w hS hI hp => does_call (by kernel_rfl) (ar3 (hp.V 3 rfl rfl) (rfl) (rfl)) ((carillonref05_In.calls ah (-32768) 32767 ay _  fH).mono fun _ _ h => ⟨_, h.1, h.2.below, rfl⟩)) ?_
      refine .pt 1 4 rfl rfl rfl c3 rfl ?_
      refine .mv 5 rfl rfl rfl ?_
      refine .oy 6 78 rfl rfl c4 (fun a w hS hI hp => does_val (x_fieldE (b := 0) rfl (hS.get 0 rfl) Try.underlying28 rfl rfl (by kernel_rfl)) rfl) ?_
      refine .oy 6 78 rfl rfl c4 (fun a w hS hI hp => does_val (x_load1 (d := .int .i64) rfl (hp.V 7 rfl rfl) (by kernel_rfl) rfl ((blk_cell (((hI.2).block ac (blk_lt aa)).trans aa) 12).trans rfl)) rfl) ?_
      refine .oy 6 78 rfl rfl c4 (fun a w hS hI hp => does_call (by kernel_rfl) (ar3 (hp.V 8 rfl rfl) (rfl) (rfl)) ((carillonref05_In.calls al 0 255 aJ _  f5).mono fun _ _ h => ⟨_, h.1, h.2.below, rfl⟩)) ?_
      refine .pt 6 9 rfl rfl rfl c4 rfl ?_
      refine .mv 10 rfl rfl rfl ?_
      refine .oy 11 83 rfl rfl c5 (fun a w hS hI hp => does_val (x_fieldE (b := 0) rfl (hS.get 0 rfl) Try.underlying28 rfl rfl (by kernel_rfl)) rfl) ?_
      refine .oy 11 83 rfl rfl c5 (fun a w hS hI hp => does_val (x_load1 (d := .int .i64) rfl (hp.V 12 rfl rfl) (by kernel_rfl) rfl ((blk_cell (((hI.2).block ac (blk_lt aa)).trans aa) 16).trans rfl)) rfl) ?_
      refine .oy 11 83 rfl rfl c5 (fun a w hS hI hp => does_call (by kernel_rfl) (ar3 (hp.V 13 rfl rfl) (rfl) (rfl)) ((carillonref05_In.calls au 0 255 bj _  gB).mono fun _ _ h => ⟨_, h.1, h.2.below, rfl⟩)) ?_
      refine .pt 11 14 rfl rfl rfl c5 rfl ?_
      refine .mv 15 rfl rfl rfl ?_
      refine .oy 16 88 rfl rfl c6 (fun a w hS hI hp => does_val (x_fieldE (b := 0) rfl (hS.get 0 rfl) Try.underlying28 rfl rfl (by kernel_rfl)) rfl) ?_
      refine .oy 16 88 rfl rfl c6 (fun a w hS hI hp => does_val (x_load1 (d := .int .i64) rfl (hp.V 17 rfl rfl) (by kernel_rfl) rfl ((blk_cell (((hI.2).block ac (blk_lt aa)).trans aa) 19).trans rfl)) rfl) ?_
      refine .oy 16 88 rfl rfl c6 (fun a w hS hI hp => does_call (by kernel_rfl) (ar3 (hp.V 18 rfl rfl) (rfl) (rfl)) ((carillonref05_In.calls aG 0 255 cD _  g2).mono fun _ _ h => ⟨_, h.1, h.2.below, rfl⟩)) ?_
      refine .pt 16 19 rfl rfl rfl c6 rfl ?_
      refine .mv 20 rfl rfl rfl ?_
      refine .oy 21 93 rfl rfl c7 (fun a w hS hI hp => does_val (x_fieldE (b := 0) rfl (hS.get 0 rfl) Try.underlying28 rfl rfl (by kernel_rfl)) rfl) ?_
      refine .oy 21 93 rfl rfl c7 (fun a w hS hI hp => does_loadmid (cs := [.int .i64 aD, .int .i64 aE, .int .i64 aF]) rfl (hp.V 22 rfl rfl) (((hI.2).block ac (blk_lt aa)).trans aa) (by kernel_rfl) Try.underlying26 rfl (by kernel_rfl) rfl) ?_
      refine .oy 21 93 rfl rfl c7 (fun a w hS hI hp => does_call (by kernel_rfl) (ar1 (hp.V 23 rfl rfl)) ((carillonref05_May.calls aD aE aF eY _  hy).mono fun _ _ h => ⟨_, h.1, h.2, rfl⟩)) ?_
      refine .pt 21 24 rfl rfl rfl c7 rfl ?_
      refine .mv 25 rfl rfl rfl ?_
      iterate 3 refine .sn 26 98 rfl rfl ((Bool.eq_false_iff.2 c8)) ?_
      refine .pf 26 rfl rfl rfl ((Bool.eq_false_iff.2 c8)) (fun _ => rfl) ?_
      exact .nil
     clear hS
     intro jr iS hS ik hp
     have aK : sl _ 102 = .bool false := hp 30 (by decide)
     have hS := hS.cons aK
     clear hp aK
     show wpList _ _ _ [_] _ _
     refine list_step rfl (R := fun v w' => Below _ _ w' ∧ (VB false) v w') (does_val (x_assign rfl (hS.get 0 rfl)) rfl) ?_
     rintro jS iT ⟨hb, he⟩
     have h0 := below_step ik.1 hb
     have gu := below_step ik.2 hb
     have i7 := below_step (bR iS) hb
     obtain rfl : jS = .bool false := he
     replace hS := (((hS.nil).cons (hS.get 2 rfl)).cons (hS.get 1 rfl)).cons (hS.get 0 rfl)
     refine hS.next (v := .bool false) (d := 4) rfl (by decide) (by rfl) ?_
     clear hS
     intro kS hS
     refine wpList_nil ?_
     replace hS := (((hS.nil).cons (hS.get 0 rfl)).cons (hS.get 3 rfl)).cons (hS.get 2 rfl)
     (try simp only [Exit.then, Exit.inBlock])
     exact J3 _ _ da db dc dd de df dg dh di dj bW ah al aD aE aF au bX bi aG bY bZ ca ac dk dl dm dn dp dq dr ds dt du cb cc cd ce cf cg ch ci cj ck cl cm cn ba false H hS h0 cy ((gu.block ac (blk_lt aa)).trans aa) cz ((gu.block ba (blk_lt an)).trans an) cA
    rw [if_pos c8] at H
    obtain ⟨fD, jf, H⟩ := Option.bind_eq_some_iff.mp H
    refine cx _ _ ?_
    refine reg_seq_tail 31 (I := I2_ w dP) (ps := [VB cq, VB cq, VP ac 11, VI ah, VB ay, VB ay, VB ay, VP ac 12, VI al, VB aJ, VB aJ, VB aJ, VP ac 16, VI au, VB bj, VB bj, VB bj, VP ac 19, VI aG, VB cD, VB cD, VB cD, VP ac 13, IsV (.agg #[.int .i64 aD, .int .i64 aE, .int .i64 aF]), VB eY, VB eY, VB eY, VP ac 18, VI bi, VB fD, VB fD]) (by kernel_rfl) ?_ ?_ rfl hS ⟨dR, (bR dP)⟩ ?_ ?_
    ·exact bs2
    ·exact .v (.v (.v (.v (.v (.v (.v (.v (.v (.v (.v (.v (.v (.v (.v (.v (.v (.v (.v (.v (.v (.v (.v (.v (.v (.v (.v (.v (.v (.v (.v (.nil)))))))))))))))))))))))))))))))
    ·refine .ms 2 rfl rfl rfl ?_
     refine .mv 0 rfl rfl rfl ?_
     refine .oy 1 73 rfl rfl c3 (fun a w hS hI hp => does_val (x_fieldE (b := 0) rfl (hS.get 0 rfl) Try.underlying28 rfl rfl (by kernel_rfl)) rfl) ?_
     refine .oy 1 73 rfl rfl c3 (fun a w hS hI hp => does_val (x_load1 (d := .int .i64) rfl (hp.V 2 rfl rfl) (by kernel_rfl) rfl ((blk_cell (((hI.2).block ac (blk_lt aa)).trans aa) 11).trans rfl)) rfl) ?_
     refine .oy 1 73 rfl rfl c3 (fun a w hS hI hp => does_call (by kernel_rfl) (ar3 (hp.V 3 rfl rfl) (rfl) (rfl)) ((carillonref05_In.calls ah (-32768) 32767 ay _  fH).mono fun _ _ h => ⟨_, h.1, h.2.below, rfl⟩)) ?_
     refine .pt 1 4 rfl rfl rfl c3 rfl ?_
     refine .mv 5 rfl rfl rfl ?_
     refine .oy 6 78 rfl rfl c4 (fun a w hS hI hp => does_val (x_fieldE (b := 0) rfl (hS.get 0 rfl) Try.underlying28 rfl rfl (by kernel_rfl)) rfl) ?_
     refine .oy 6 78 rfl rfl c4 (fun a w hS hI hp => does_val (x_load1 (d := .int .i64) rfl (hp.V 7 rfl rfl) (by kernel_rfl) rfl ((blk_cell (((hI.2).block ac (blk_lt aa)).trans aa) 12).trans rfl)) rfl) ?_
     refine .oy 6 78 rfl rfl c4 (fun a w hS hI hp => does_call (by kernel_rfl) (ar3 (hp.V 8 rfl rfl) (rfl) (rfl)) ((carillonref05_In.calls al 0 255 aJ _  f5).mono fun _ _ h => ⟨_, h.1, h.2.below, rfl⟩)) ?_
     refine .pt 6 9 rfl rfl rfl c4 rfl ?_
     refine .mv 10 rfl rfl rfl ?_
     refine .oy 11 83 rfl rfl c5 (fun a w hS hI hp => does_val (x_fieldE (b := 0) rfl (hS.get 0 rfl) Try.underlying28 rfl rfl (by kernel_rfl)) rfl) ?_
     refine .oy 11 83 rfl rfl c5 (fun a w hS hI hp => does_val (x_load1 (d := .int .i64) rfl (hp.V 12 rfl rfl) (by kernel_rfl) rfl ((blk_cell (((hI.2).block ac (blk_lt aa)).trans aa) 16).trans rfl)) rfl) ?_
     refine .oy 11 83 rfl rfl c5 (fun a w hS hI hp => does_call (by kernel_rfl) (ar3 (hp.V 13 rfl rfl) (rfl) (rfl)) ((carillonref05_In.calls au 0 255 bj _  gB).mono fun _ _ h => ⟨_, h.1, h.2.below, rfl⟩)) ?_
     refine .pt 11 14 rfl rfl rfl c5 rfl ?_
     refine .mv 15 rfl rfl rfl ?_
     refine .oy 16 88 rfl rfl c6 (fun a w hS hI hp => does_val (x_fieldE (b := 0) rfl (hS.get 0 rfl) Try.underlying28 rfl rfl (by kernel_rfl)) rfl) ?_
     refine .oy 16 88 rfl rfl c6 (fun a w hS hI hp => does_val (x_load1 (d := .int .i64) rfl (hp.V 17 rfl rfl) (by kernel_rfl) rfl ((blk_cell (((hI.2).block ac (blk_lt aa)).trans aa) 19).trans rfl)) rfl) ?_
     refine .oy 16 88 rfl rfl c6 (fun a w hS hI hp => does_call (by kernel_rfl) (ar3 (hp.V 18 rfl rfl) (rfl) (rfl)) ((carillonref05_In.calls aG 0 255 cD _  g2).mono fun _ _ h => ⟨_, h.1, h.2.below, rfl⟩)) ?_
     refine .pt 16 19 rfl rfl rfl c6 rfl ?_
     refine .mv 20 rfl rfl rfl ?_
     refine .oy 21 93 rfl rfl c7 (fun a w hS hI hp => does_val (x_fieldE (b := 0) rfl (hS.get 0 rfl) Try.underlying28 rfl rfl (by kernel_rfl)) rfl) ?_
     refine .oy 21 93 rfl rfl c7 (fun a w hS hI hp => does_loadmid (cs := [.int .i64 aD, .int .i64 aE, .int .i64 aF]) rfl (hp.V 22 rfl rfl) (((hI.2).block ac (blk_lt aa)).trans aa) (by kernel_rfl) Try.underlying26 rfl (by kernel_rfl) rfl) ?_
     refine .oy 21 93 rfl rfl c7 (fun a w hS hI hp => does_call (by kernel_rfl) (ar1 (hp.V 23 rfl rfl)) ((carillonref05_May.calls aD aE aF eY _  hy).mono fun _ _ h => ⟨_, h.1, h.2, rfl⟩)) ?_
     refine .pt 21 24 rfl rfl rfl c7 rfl ?_
     refine .mv 25 rfl rfl rfl ?_
     refine .oy 26 98 rfl rfl c8 (fun a w hS hI hp => does_val (x_fieldE (b := 0) rfl (hS.get 0 rfl) Try.underlying28 rfl rfl (by kernel_rfl)) rfl) ?_
     refine .oy 26 98 rfl rfl c8 (fun a w hS hI hp => does_val (x_load1 (d := .int .i64) rfl (hp.V 27 rfl rfl) (by kernel_rfl) rfl ((blk_cell (((hI.2).block ac (blk_lt aa)).trans aa) 18).trans rfl)) rfl) ?_
     refine .oy 26 98 rfl rfl c8 (fun a w hS hI hp => does_call (by kernel_rfl) (ar3 (hp.V 28 rfl rfl) (rfl) (rfl)) ((carillonref05_In.calls bi 0 65535 fD _  jf).mono fun _ _ h => ⟨_, h.1, h.2.below, rfl⟩)) ?_
     refine .pt 26 29 rfl rfl rfl c8 rfl ?_
     exact .nil
    clear hS
    intro js iT hS il hp
    have aK : sl _ 102 = .bool fD := hp 30 (by decide)
    have hS := hS.cons aK
    clear hp aK
    show wpList _ _ _ [_] _ _
    refine list_step rfl (R := fun v w' => Below _ _ w' ∧ (VB fD) v w') (does_val (x_assign rfl (hS.get 0 rfl)) rfl) ?_
    rintro jT lk ⟨hb, he⟩
    have h1 := below_step il.1 hb
    have gv := below_step il.2 hb
    have i8 := below_step (bR iT) hb
    obtain rfl : jT = .bool fD := he
    replace hS := (((hS.nil).cons (hS.get 2 rfl)).cons (hS.get 1 rfl)).cons (hS.get 0 rfl)
    refine hS.next (v := .bool fD) (d := 4) rfl (by decide) (by rfl) ?_
    clear hS
    intro kT hS
    refine wpList_nil ?_
    replace hS := (((hS.nil).cons (hS.get 0 rfl)).cons (hS.get 3 rfl)).cons (hS.get 2 rfl)
    (try simp only [Exit.then, Exit.inBlock])
    exact J3 _ _ da db dc dd de df dg dh di dj bW ah al aD aE aF au bX bi aG bY bZ ca ac dk dl dm dn dp dq dr ds dt du cb cc cd ce cf cg ch ci cj ck cl cm cn ba fD H hS h1 cy ((gv.block ac (blk_lt aa)).trans aa) cz ((gv.block ba (blk_lt an)).trans an) cA
   refine reg_float (I := I3_ w dQ fG) (C := fun x => x.heap[ab]? = some (.cells (carillonref07_Check.c1 ae et eu ev ew ex ey ez eA eB dJ am ao ap aq ar aB aH aL bb aI aM bc) 28 (0, 0))) [true, true, true, true, true, true, true, true, true, true, true, true, true, true, true, false, false, false, false, false, false, false, false, false, false, false, false, false] [.pointer (some ⟨ab, 11, none⟩), .int .i64 am, .pointer (some ⟨ab, 12, none⟩), .int .i64 ao, .pointer (some ⟨ab, 13, none⟩), .agg #[.int .i64 ap, .int .i64 aq, .int .i64 ar], .pointer (some ⟨ab, 16, none⟩), .int .i64 aB, .pointer (some ⟨ab, 17, none⟩), .int .u64 aH, .pointer (some ⟨ab, 18, none⟩), .int .i64 aL, .pointer (some ⟨ab, 19, none⟩), .int .i64 bb, .pointer (some ⟨ad, 11, none⟩), undef, undef, undef, undef, undef, undef, undef, undef, undef, undef, undef, undef, undef] [0, 1, 0, 4, 0, 16, 0, 64, 0, 256, 0, 1024, 0, 4096, 3, 16387, 49167, 114703, 245823, 507967, 1032447, 2081023, 4178943, 8373247, 16764927, 33542143, 67108863, 134217727] (by kernel_rfl) (by kernel_rfl) rfl ?_ ?_ hS ⟨ej.1, ej.2.1, (bR fG)⟩ ?_ ?_
   ·exact bs3
   ·exact fun x hI => ((hI.2.1.block ab (blk_lt ak)).trans ak)
   ·intro a hS hp
    refine .g (fun w hC => GRun.on rfl (x_fieldE (b := 0) rfl (hS.get 2 rfl) Try.underlying28 rfl rfl (by kernel_rfl))) ?_
    refine .g (fun w hC => GRun.on rfl (x_load1 (d := .int .i64) rfl ((hp.get 0 rfl rfl rfl)) (by kernel_rfl) rfl ((blk_cell ((((Below.refl _ _)).block ab (blk_lt hC)).trans hC) 11).trans rfl))) ?_
    refine .g (fun w hC => GRun.on rfl (x_fieldE (b := 0) rfl (hS.get 2 rfl) Try.underlying28 rfl rfl (by kernel_rfl))) ?_
    refine .g (fun w hC => GRun.on rfl (x_load1 (d := .int .i64) rfl ((hp.get 2 rfl rfl rfl)) (by kernel_rfl) rfl ((blk_cell ((((Below.refl _ _)).block ab (blk_lt hC)).trans hC) 12).trans rfl))) ?_
    refine .g (fun w hC => GRun.on rfl (x_fieldE (b := 0) rfl (hS.get 2 rfl) Try.underlying28 rfl rfl (by kernel_rfl))) ?_
    refine .g (fun w hC => GRun.on rfl (x_loadmid (cs := [.int .i64 ap, .int .i64 aq, .int .i64 ar]) rfl ((hp.get 4 rfl rfl rfl)) ((((Below.refl _ _)).block ab (blk_lt hC)).trans hC) (by kernel_rfl) Try.underlying26 rfl (by kernel_rfl))) ?_
    refine .g (fun w hC => GRun.on rfl (x_fieldE (b := 0) rfl (hS.get 2 rfl) Try.underlying28 rfl rfl (by kernel_rfl))) ?_
    refine .g (fun w hC => GRun.on rfl (x_load1 (d := .int .i64) rfl ((hp.get 6 rfl rfl rfl)) (by kernel_rfl) rfl ((blk_cell ((((Below.refl _ _)).block ab (blk_lt hC)).trans hC) 16).trans rfl))) ?_
    refine .g (fun w hC => GRun.on rfl (x_fieldE (b := 0) rfl (hS.get 2 rfl) Try.underlying28 rfl rfl (by kernel_rfl))) ?_
    refine .g (fun w hC => GRun.on rfl (x_load1 (d := .int .u64) rfl ((hp.get 8 rfl rfl rfl)) (by kernel_rfl) rfl ((blk_cell ((((Below.refl _ _)).block ab (blk_lt hC)).trans hC) 17).trans rfl))) ?_
    refine .g (fun w hC => GRun.on rfl (x_fieldE (b := 0) rfl (hS.get 2 rfl) Try.underlying28 rfl rfl (by kernel_rfl))) ?_
    refine .g (fun w hC => GRun.on rfl (x_load1 (d := .int .i64) rfl ((hp.get 10 rfl rfl rfl)) (by kernel_rfl) rfl ((blk_cell ((((Below.refl _ _)).block ab (blk_lt hC)).trans hC) 18).trans rfl))) ?_
    refine .g (fun w hC => GRun.on rfl (x_fieldE (b := 0) rfl (hS.get 2 rfl) Try.underlying28 rfl rfl (by kernel_rfl))) ?_
    refine .g (fun w hC => GRun.on rfl (x_load1 (d := .int .i64) rfl ((hp.get 12 rfl rfl rfl)) (by kernel_rfl) rfl ((blk_cell ((((Below.refl _ _)).block ab (blk_lt hC)).trans hC) 19).trans rfl))) ?_
    refine .g (fun w hC => GRun.on rfl (x_fieldE (b := 0) rfl (hS.get 3 rfl) Try.underlying28 rfl rfl (by kernel_rfl))) ?_
    iterate 13 refine .t ?_
    exact .nil
   clear hS
   intro hE g0 hS hp cB
   have hS := hS.cons (show sl _ 52 = .int .i64 am from hp.get 1 rfl rfl rfl)
   have hS := hS.cons (show sl _ 54 = .int .i64 ao from hp.get 3 rfl rfl rfl)
   have hS := hS.cons (show sl _ 56 = .agg #[.int .i64 ap, .int .i64 aq, .int .i64 ar] from hp.get 5 rfl rfl rfl)
   have hS := hS.cons (show sl _ 58 = .int .i64 aB from hp.get 7 rfl rfl rfl)
   have hS := hS.cons (show sl _ 60 = .int .u64 aH from hp.get 9 rfl rfl rfl)
   have hS := hS.cons (show sl _ 62 = .int .i64 aL from hp.get 11 rfl rfl rfl)
   have hS := hS.cons (show sl _ 64 = .int .i64 bb from hp.get 13 rfl rfl rfl)
   have hS := hS.cons (show sl _ 65 = .pointer (some ⟨ad, 11, none⟩) from hp.get 14 rfl rfl rfl)
   clear hp
   show ListC _ _ _ _ [_, _, _, _, _, _, _, _, _, _, _, _, _] _ _
   refine lc_step rfl (does_store (g := ad) (off := 11) (v := .int .i64 am) (new := (carillonref07_Check.c1 aP aQ aR aS aT aU aV aW aX aY aC am cF bp bq br bl bg bd aN bh be aO)) rfl (hS.get 0 rfl) (hS.get 7 rfl) ((cB.2.1.block ad (blk_lt dw)).trans dw) (by kernel_rfl) (by kernel_rfl) (by kernel_rfl) (by kernel_rfl)) ?_
   rintro k1 iG ⟨rfl, g7, hT⟩
   have fI := hT.blk ((cB.2.1.block ab (blk_lt ak)).trans ak) (Ne.symm aA)
   have hH := hT.below cB.1 az (cB.1).size
   clear hT
   refine ⟨(((bR iG).block ab (blk_lt fI)).trans fI), ?_⟩
   refine lc_step rfl (R := fun v w' => Below _ _ w' ∧ (VP ad 12) v w') (does_val (x_fieldE (b := 0) rfl (hS.get 11 rfl) Try.underlying28 rfl rfl (by kernel_rfl)) rfl) ?_
   rintro jF kb ⟨hb, he⟩
   have gO := below_step hH hb
   have eC := below_step (bR iG) hb
   obtain rfl : jF = .pointer (some ⟨ad, 12, none⟩) := he
   refine ⟨((eC.block ab (blk_lt fI)).trans fI), ?_⟩
   refine hS.nextC (v := .pointer (some ⟨ad, 12, none⟩)) (d := 66) rfl (by decide) (by rfl) ?_
   clear hS
   intro kG hS
   refine lc_step rfl (does_store (g := ad) (off := 12) (v := .int .i64 ao) (new := (carillonref07_Check.c1 aP aQ aR aS aT aU aV aW aX aY aC am ao bp bq br bl bg bd aN bh be aO)) rfl (hS.get 0 rfl) (hS.get 7 rfl) ((eC.block ad (blk_lt g7)).trans g7) (by kernel_rfl) (by kernel_rfl) (by kernel_rfl) (by kernel_rfl)) ?_
   rintro k3 iI ⟨rfl, g9, hT⟩
   have fK := hT.blk ((eC.block ab (blk_lt fI)).trans fI) (Ne.symm aA)
   have hK := hT.below gO az (gO).size
   clear hT
   refine ⟨(((bR iI).block ab (blk_lt fK)).trans fK), ?_⟩
   refine lc_step rfl (R := fun v w' => Below _ _ w' ∧ (VP ad 13) v w') (does_val (x_fieldE (b := 0) rfl (hS.get 12 rfl) Try.underlying28 rfl rfl (by kernel_rfl)) rfl) ?_
   rintro jH le ⟨hb, he⟩
   have gQ := below_step hK hb
   have eE := below_step (bR iI) hb
   obtain rfl : jH = .pointer (some ⟨ad, 13, none⟩) := he
   refine ⟨((eE.block ab (blk_lt fK)).trans fK), ?_⟩
   refine hS.nextC (v := .pointer (some ⟨ad, 13, none⟩)) (d := 67) rfl (by decide) (by rfl) ?_
   clear hS
   intro kI hS
   refine lc_step rfl (does_store (g := ad) (off := 13) (v := .agg #[.int .i64 ap, .int .i64 aq, .int .i64 ar]) (new := (carillonref07_Check.c1 aP aQ aR aS aT aU aV aW aX aY aC am ao ap aq ar bl bg bd aN bh be aO)) rfl (hS.get 0 rfl) (hS.get 7 rfl) ((eE.block ad (blk_lt g9)).trans g9) (by kernel_rfl) (by kernel_rfl) (by kernel_rfl) (by kernel_rfl)) ?_
   rintro k5 iK ⟨rfl, hd, hT⟩
   have fM := hT.blk ((eE.block ab (blk_lt fK)).trans fK) (Ne.symm aA)
   have hM := hT.below gQ az (gQ).size
   clear hT
   refine ⟨(((bR iK).block ab (blk_lt fM)).trans fM), ?_⟩
   refine lc_step rfl (R := fun v w' => Below _ _ w' ∧ (VP ad 16) v w') (does_val (x_fieldE (b := 0) rfl (hS.get 13 rfl) Try.underlying28 rfl rfl (by kernel_rfl)) rfl) ?_
   rintro jJ lg ⟨hb, he⟩
   have gS := below_step hM hb
   have eG := below_step (bR iK) hb
   obtain rfl : jJ = .pointer (some ⟨ad, 16, none⟩) := he
   refine ⟨((eG.block ab (blk_lt fM)).trans fM), ?_⟩
   refine hS.nextC (v := .pointer (some ⟨ad, 16, none⟩)) (d := 68) rfl (by decide) (by rfl) ?_
   clear hS
   intro kK hS
   refine lc_step rfl (does_store (g := ad) (off := 16) (v := .int .i64 aB) (new := (carillonref07_Check.c1 aP aQ aR aS aT aU aV aW aX aY aC am ao ap aq ar aB bg bd aN bh be aO)) rfl (hS.get 0 rfl) (hS.get 7 rfl) ((eG.block ad (blk_lt hd)).trans hd) (by kernel_rfl) (by kernel_rfl) (by kernel_rfl) (by kernel_rfl)) ?_
   rintro k7 iL ⟨rfl, hg, hT⟩
   have fN := hT.blk ((eG.block ab (blk_lt fM)).trans fM) (Ne.symm aA)
   have hO := hT.below gS az (gS).size
   clear hT
   refine ⟨(((bR iL).block ab (blk_lt fN)).trans fN), ?_⟩
   refine lc_step rfl (R := fun v w' => Below _ _ w' ∧ (VP ad 17) v w') (does_val (x_fieldE (b := 0) rfl (hS.get 14 rfl) Try.underlying28 rfl rfl (by kernel_rfl)) rfl) ?_
   rintro jK lh ⟨hb, he⟩
   have gT := below_step hO hb
   have eH := below_step (bR iL) hb
   obtain rfl : jK = .pointer (some ⟨ad, 17, none⟩) := he
   refine ⟨((eH.block ab (blk_lt fN)).trans fN), ?_⟩
   refine hS.nextC (v := .pointer (some ⟨ad, 17, none⟩)) (d := 69) rfl (by decide) (by rfl) ?_
   clear hS
   intro kL hS
   refine lc_step rfl (does_store (g := ad) (off := 17) (v := .int .u64 aH) (new := (carillonref07_Check.c1 aP aQ aR aS aT aU aV aW aX aY aC am ao ap aq ar aB aH bd aN bh be aO)) rfl (hS.get 0 rfl) (hS.get 7 rfl) ((eH.block ad (blk_lt hg)).trans hg) (by kernel_rfl) (by kernel_rfl) (by kernel_rfl) (by kernel_rfl)) ?_
   rintro k8 iM ⟨rfl, hh, hT⟩
   have fO := hT.blk ((eH.block ab (blk_lt fN)).trans fN) (Ne.symm aA)
   have hP := hT.below gT az (gT).size
   clear hT
   refine ⟨(((bR iM).block ab (blk_lt fO)).trans fO), ?_⟩
   refine lc_step rfl (R := fun v w' => Below _ _ w' ∧ (VP ad 18) v w') (does_val (x_fieldE (b := 0) rfl (hS.get 15 rfl) Try.underlying28 rfl rfl (by kernel_rfl)) rfl) ?_
   rintro jL li ⟨hb, he⟩
   have gU := below_step hP hb
   have eI := below_step (bR iM) hb
   obtain rfl : jL = .pointer (some ⟨ad, 18, none⟩) := he
   refine ⟨((eI.block ab (blk_lt fO)).trans fO), ?_⟩
   refine hS.nextC (v := .pointer (some ⟨ad, 18, none⟩)) (d := 70) rfl (by decide) (by rfl) ?_
   clear hS
   intro kM hS
   refine lc_step rfl (does_store (g := ad) (off := 18) (v := .int .i64 aL) (new := (carillonref07_Check.c1 aP aQ aR aS aT aU aV aW aX aY aC am ao ap aq ar aB aH aL aN bh be aO)) rfl (hS.get 0 rfl) (hS.get 7 rfl) ((eI.block ad (blk_lt hh)).trans hh) (by kernel_rfl) (by kernel_rfl) (by kernel_rfl) (by kernel_rfl)) ?_
   rintro k9 iN ⟨rfl, hi, hT⟩
   have fP := hT.blk ((eI.block ab (blk_lt fO)).trans fO) (Ne.symm aA)
   have hQ := hT.below gU az (gU).size
   clear hT
   refine ⟨(((bR iN).block ab (blk_lt fP)).trans fP), ?_⟩
   refine lc_step rfl (R := fun v w' => Below _ _ w' ∧ (VP ad 19) v w') (does_val (x_fieldE (b := 0) rfl (hS.get 16 rfl) Try.underlying28 rfl rfl (by kernel_rfl)) rfl) ?_
   rintro jM lj ⟨hb, he⟩
   have gV := below_step hQ hb
   have eJ := below_step (bR iN) hb
   obtain rfl : jM = .pointer (some ⟨ad, 19, none⟩) := he
   refine ⟨((eJ.block ab (blk_lt fP)).trans fP), ?_⟩
   refine hS.nextC (v := .pointer (some ⟨ad, 19, none⟩)) (d := 71) rfl (by decide) (by rfl) ?_
   clear hS
   intro kN hS
   refine lc_step rfl (does_store (g := ad) (off := 19) (v := .int .i64 bb) (new := (carillonref07_Check.c1 aP aQ aR aS aT aU aV aW aX aY aC am ao ap aq ar aB aH aL bb bh be aO)) rfl (hS.get 0 rfl) (hS.get 7 rfl) ((eJ.block ad (blk_lt hi)).trans hi) (by kernel_rfl) (by kernel_rfl) (by kernel_rfl) (by kernel_rfl)) ?_
   rintro la hx ⟨rfl, hj, hT⟩
   have gF := hT.blk ((eJ.block ab (blk_lt fP)).trans fP) (Ne.symm aA)
   have hR := hT.below gV az (gV).size
   clear hT
   refine ⟨(((bR hx).block ab (blk_lt gF)).trans gF), ?_⟩
   refine lc_nil ?_
   replace hS := (((hS.nil).cons (hS.get 18 rfl)).cons (hS.get 17 rfl)).cons (hS.get 16 rfl)
   (try simp only [Exit.then, Exit.inBlock])
   exact J4 _ _ ae et eu ev ew ex ey ez eA eB dJ am ao ap aq ar aB aH aL bb aI aM bc ab aP aQ aR aS aT aU aV aW aX aY aC am ao ap aq ar aB aH aL bb bh be aO ad gN H hS hR gc (((bR hx).block ab (blk_lt gF)).trans gF) az (((bR hx).block ad (blk_lt hj)).trans hj) aA
  obtain ⟨ef, g1, H⟩ := Option.bind_eq_some_iff.mp H
  by_cases c2 : ef = true
  rotate_left
  ·rw [if_neg c2] at H
   refine wp_seq_k (fun iA f8 => ?_)
   refine reg_seq (I := I2_ w fQ) (ps := [VP aw 0, VI bo, VB ef]) (by kernel_rfl) ?_ ?_ rfl hS ⟨gL, (bR fQ)⟩ ?_ ?_
   ·exact bs2
   ·exact .v (.v (.v (.nil)))
   ·refine .on rfl (fun a w hS hI hp => does_val (x_fieldE (b := 0) rfl (hS.get 0 rfl) Try.underlying28 rfl rfl (by kernel_rfl)) rfl) ?_
    refine .on rfl (fun a w hS hI hp => does_val (x_load1 (d := .int .i64) rfl (hp.V 0 rfl rfl) (by kernel_rfl) rfl ((blk_cell (((hI.2).block aw (blk_lt aj)).trans aj) 0).trans rfl)) rfl) ?_
    refine .on rfl (fun a w hS hI hp => does_call (by kernel_rfl) (ar1 (hp.V 1 rfl rfl)) ((carillonref07_targeted.calls bo ef _  g1).mono fun _ _ h => ⟨_, h.1, h.2.below, rfl⟩)) ?_
    exact .nil
   clear hS
   intro hA gn hS dN hp
   have gd : sl _ 37 = .bool ef := hp 2 (by decide)
   have hS := hS.cons gd
   clear hp gd
   refine f8 _ _ ?_
   refine wp_cond_false ((hS.get 0 rfl).trans (bF (Bool.eq_false_iff.2 c2))) ?_
   refine wp_skip ?_
   replace hS := (((hS.nil).cons (hS.get 3 rfl)).cons (hS.get 2 rfl)).cons (hS.get 1 rfl)
   (try simp only [Exit.then, Exit.inBlock])
   exact J2 _ _ bo fS fT fU fV fW fX fY fZ av ai e0 e1 e2 e3 e4 e5 e6 e7 e8 e9 fa fb aw ek el em en eo ep eq er es gK go dx dy dz dA dB dC dD dE dF dG dH dI aZ f1 H hS dN.1 gb ((dN.2.block aw (blk_lt aj)).trans aj) eg ((dN.2.block aZ (blk_lt dv)).trans dv) eh
  rw [if_pos c2] at H
  by_cases c3 : f1 = true
  rotate_left
  ·rw [if_neg c3] at H
   refine wp_seq_k (fun iA f8 => ?_)
   refine reg_seq (I := I2_ w fQ) (ps := [VP aw 0, VI bo, VB ef]) (by kernel_rfl) ?_ ?_ rfl hS ⟨gL, (bR fQ)⟩ ?_ ?_
   ·exact bs2
   ·exact .v (.v (.v (.nil)))
   ·refine .on rfl (fun a w hS hI hp => does_val (x_fieldE (b := 0) rfl (hS.get 0 rfl) Try.underlying28 rfl rfl (by kernel_rfl)) rfl) ?_
    refine .on rfl (fun a w hS hI hp => does_val (x_load1 (d := .int .i64) rfl (hp.V 0 rfl rfl) (by kernel_rfl) rfl ((blk_cell (((hI.2).block aw (blk_lt aj)).trans aj) 0).trans rfl)) rfl) ?_
    refine .on rfl (fun a w hS hI hp => does_call (by kernel_rfl) (ar1 (hp.V 1 rfl rfl)) ((carillonref07_targeted.calls bo ef _  g1).mono fun _ _ h => ⟨_, h.1, h.2.below, rfl⟩)) ?_
    exact .nil
   clear hS
   intro hA gn hS dN hp
   have gd : sl _ 37 = .bool ef := hp 2 (by decide)
   have hS := hS.cons gd
   clear hp gd
   refine f8 _ _ ?_
   refine wp_cond_true ((hS.get 0 rfl).trans (bT c2)) ?_
   refine wp_seq_k (fun j0 g5 => ?_)
   refine reg_seq_tail 3 (I := I3_ w fQ gn) (ps := [VP aw 9, IsV (.agg #[.int .u64 av, .int .i64 ai]), VP aZ 9]) (by kernel_rfl) ?_ ?_ rfl hS ⟨dN.1, dN.2, (bR gn)⟩ ?_ ?_
   ·exact bs3
   ·exact .v (.v (.v (.nil)))
   ·refine .on rfl (fun a w hS hI hp => does_val (x_fieldE (b := 0) rfl (hS.get 1 rfl) Try.underlying28 rfl rfl (by kernel_rfl)) rfl) ?_
    refine .on rfl (fun a w hS hI hp => does_loadmid (cs := [.int .u64 av, .int .i64 ai]) rfl (hp.V 0 rfl rfl) (((hI.2.1).block aw (blk_lt aj)).trans aj) (by kernel_rfl) Try.underlying24 rfl (by kernel_rfl) rfl) ?_
    refine .on rfl (fun a w hS hI hp => does_val (x_fieldE (b := 0) rfl (hS.get 2 rfl) Try.underlying28 rfl rfl (by kernel_rfl)) rfl) ?_
    exact .nil
   clear hS
   intro jn j9 hS dO hp
   replace hS := (((hS.nil).cons (hS.get 3 rfl)).cons (hS.get 2 rfl)).cons (hS.get 1 rfl)
   have hl : sl _ 39 = .agg #[.int .u64 av, .int .i64 ai] := hp 1 (by decide)
   have hm : sl _ 40 = .pointer (some ⟨aZ, 9, none⟩) := hp 2 (by decide)
   have hS := hS.cons hl
   have hS := hS.cons hm
   clear hp hl hm
   show wpList _ _ _ [_] _ _
   refine list_step rfl (does_store (g := aZ) (off := 9) (v := .agg #[.int .u64 av, .int .i64 ai]) (new := (carillonref07_Check.c1 ek el em en eo ep eq er es av ai dx dy dz dA dB dC dD dE dF dG dH dI)) rfl (hS.get 0 rfl) (hS.get 1 rfl) ((dO.2.1.block aZ (blk_lt dv)).trans dv) (by kernel_rfl) (by kernel_rfl) (by kernel_rfl) (by kernel_rfl)) ?_
   rintro jC gI ⟨rfl, fc, hT⟩
   have fd := hT.blk ((dO.2.1.block aw (blk_lt aj)).trans aj) (Ne.symm eh)
   have f7 := hT.below dO.1 eg (dO.1).size
   clear hT
   refine wpList_nil ?_
   refine g5 _ _ ?_
   refine reg_seq_tail 6 (I := I2_ w gI) (ps := [VB f1, VB f1, VU, VU, VU, VB false]) (by kernel_rfl) ?_ ?_ rfl hS ⟨f7, (bR gI)⟩ ?_ ?_
   ·exact bs2
   ·exact .v (.v (.v (.v (.v (.v (.nil))))))
   ·refine .ms 4 rfl rfl rfl ?_
    refine .mv 0 rfl rfl rfl ?_
    iterate 3 refine .sn 1 42 rfl rfl ((Bool.eq_false_iff.2 c3)) ?_
    refine .pf 1 rfl rfl rfl ((Bool.eq_false_iff.2 c3)) (fun _ => rfl) ?_
    exact .nil
   clear hS
   intro kA ka hS ib hp
   replace hS := (((hS.nil).cons (hS.get 4 rfl)).cons (hS.get 3 rfl)).cons (hS.get 2 rfl)
   have hn : sl _ 46 = .bool false := hp 5 (by decide)
   have hS := hS.cons hn
   clear hp hn
   show wpList _ _ _ [_] _ _
   refine list_step rfl (R := fun v w' => Below _ _ w' ∧ (VB false) v w') (does_val (x_assign rfl (hS.get 0 rfl)) rfl) ?_
   rintro jD iE ⟨hb, he⟩
   have hF := below_step ib.1 hb
   have f2 := below_step ib.2 hb
   have i0 := below_step (bR ka) hb
   obtain rfl : jD = .bool false := he
   replace hS := (((hS.nil).cons (hS.get 2 rfl)).cons (hS.get 1 rfl)).cons (hS.get 0 rfl)
   refine hS.next (v := .bool false) (d := 4) rfl (by decide) (by rfl) ?_
   clear hS
   intro kC hS
   refine wpList_nil ?_
   replace hS := (((hS.nil).cons (hS.get 0 rfl)).cons (hS.get 3 rfl)).cons (hS.get 2 rfl)
   (try simp only [Exit.then, Exit.inBlock])
   exact J2 _ _ bo fS fT fU fV fW fX fY fZ av ai e0 e1 e2 e3 e4 e5 e6 e7 e8 e9 fa fb aw ek el em en eo ep eq er es av ai dx dy dz dA dB dC dD dE dF dG dH dI aZ false H hS hF gb ((f2.block aw (blk_lt fd)).trans fd) eg ((f2.block aZ (blk_lt fc)).trans fc) eh
  rw [if_pos c3] at H
  obtain ⟨fC, jd, H⟩ := Option.bind_eq_some_iff.mp H
  refine wp_seq_k (fun iA f8 => ?_)
  refine reg_seq (I := I2_ w fQ) (ps := [VP aw 0, VI bo, VB ef]) (by kernel_rfl) ?_ ?_ rfl hS ⟨gL, (bR fQ)⟩ ?_ ?_
  ·exact bs2
  ·exact .v (.v (.v (.nil)))
  ·refine .on rfl (fun a w hS hI hp => does_val (x_fieldE (b := 0) rfl (hS.get 0 rfl) Try.underlying28 rfl rfl (by kernel_rfl)) rfl) ?_
   refine .on rfl (fun a w hS hI hp => does_val (x_load1 (d := .int .i64) rfl (hp.V 0 rfl rfl) (by kernel_rfl) rfl ((blk_cell (((hI.2).block aw (blk_lt aj)).trans aj) 0).trans rfl)) rfl) ?_
   refine .on rfl (fun a w hS hI hp => does_call (by kernel_rfl) (ar1 (hp.V 1 rfl rfl)) ((carillonref07_targeted.calls bo ef _  g1).mono fun _ _ h => ⟨_, h.1, h.2.below, rfl⟩)) ?_
   exact .nil
  clear hS
  intro hA gn hS dN hp
  have gd : sl _ 37 = .bool ef := hp 2 (by decide)
  have hS := hS.cons gd
  clear hp gd
  refine f8 _ _ ?_
  refine wp_cond_true ((hS.get 0 rfl).trans (bT c2)) ?_
  refine wp_seq_k (fun j0 g5 => ?_)
  refine reg_seq_tail 3 (I := I3_ w fQ gn) (ps := [VP aw 9, IsV (.agg #[.int .u64 av, .int .i64 ai]), VP aZ 9]) (by kernel_rfl) ?_ ?_ rfl hS ⟨dN.1, dN.2, (bR gn)⟩ ?_ ?_
  ·exact bs3
  ·exact .v (.v (.v (.nil)))
  ·refine .on rfl (fun a w hS hI hp => does_val (x_fieldE (b := 0) rfl (hS.get 1 rfl) Try.underlying28 rfl rfl (by kernel_rfl)) rfl) ?_
   refine .on rfl (fun a w hS hI hp => does_loadmid (cs := [.int .u64 av, .int .i64 ai]) rfl (hp.V 0 rfl rfl) (((hI.2.1).block aw (blk_lt aj)).trans aj) (by kernel_rfl) Try.underlying24 rfl (by kernel_rfl) rfl) ?_
   refine .on rfl (fun a w hS hI hp => does_val (x_fieldE (b := 0) rfl (hS.get 2 rfl) Try.underlying28 rfl rfl (by kernel_rfl)) rfl) ?_
   exact .nil
  clear hS
  intro jn j9 hS dO hp
  replace hS := (((hS.nil).cons (hS.get 3 rfl)).cons (hS.get 2 rfl)).cons (hS.get 1 rfl)
  have hl : sl _ 39 = .agg #[.int .u64 av, .int .i64 ai] := hp 1 (by decide)
  have hm : sl _ 40 = .pointer (some ⟨aZ, 9, none⟩) := hp 2 (by decide)
  have hS := hS.cons hl
  have hS := hS.cons hm
  clear hp hl hm
  show wpList _ _ _ [_] _ _
  refine list_step rfl (does_store (g := aZ) (off := 9) (v := .agg #[.int .u64 av, .int .i64 ai]) (new := (carillonref07_Check.c1 ek el em en eo ep eq er es av ai dx dy dz dA dB dC dD dE dF dG dH dI)) rfl (hS.get 0 rfl) (hS.get 1 rfl) ((dO.2.1.block aZ (blk_lt dv)).trans dv) (by kernel_rfl) (by kernel_rfl) (by kernel_rfl) (by kernel_rfl)) ?_
  rintro jC gI ⟨rfl, fc, hT⟩
  have fd := hT.blk ((dO.2.1.block aw (blk_lt aj)).trans aj) (Ne.symm eh)
  have f7 := hT.below dO.1 eg (dO.1).size
  clear hT
  refine wpList_nil ?_
  refine g5 _ _ ?_
  refine reg_seq_tail 6 (I := I2_ w gI) (ps := [VB f1, VB f1, VP aw 9, IsV (.agg #[.int .u64 av, .int .i64 ai]), VB fC, VB fC]) (by kernel_rfl) ?_ ?_ rfl hS ⟨f7, (bR gI)⟩ ?_ ?_
  ·exact bs2
  ·exact .v (.v (.v (.v (.v (.v (.nil))))))
  ·refine .ms 4 rfl rfl rfl ?_
   refine .mv 0 rfl rfl rfl ?_
   refine .oy 1 42 rfl rfl c3 (fun a w hS hI hp => does_val (x_fieldE (b := 0) rfl (hS.get 2 rfl) Try.underlying28 rfl rfl (by kernel_rfl)) rfl) ?_
   refine .oy 1 42 rfl rfl c3 (fun a w hS hI hp => does_loadmid (cs := [.int .u64 av, .int .i64 ai]) rfl (hp.V 2 rfl rfl) (((hI.2).block aw (blk_lt fd)).trans fd) (by kernel_rfl) Try.underlying24 rfl (by kernel_rfl) rfl) ?_
   refine .oy 1 42 rfl rfl c3 (fun a w hS hI hp => does_call (by kernel_rfl) (ar1 (hp.V 3 rfl rfl)) ((carillonref04_May.calls av ai fC _  jd).mono fun _ _ h => ⟨_, h.1, h.2, rfl⟩)) ?_
   refine .pt 1 4 rfl rfl rfl c3 rfl ?_
   exact .nil
  clear hS
  intro kB iE hS ic hp
  replace hS := (((hS.nil).cons (hS.get 4 rfl)).cons (hS.get 3 rfl)).cons (hS.get 2 rfl)
  have hn : sl _ 46 = .bool fC := hp 5 (by decide)
  have hS := hS.cons hn
  clear hp hn
  show wpList _ _ _ [_] _ _
  refine list_step rfl (R := fun v w' => Below _ _ w' ∧ (VB fC) v w') (does_val (x_assign rfl (hS.get 0 rfl)) rfl) ?_
  rintro jE lc ⟨hb, he⟩
  have hG := below_step ic.1 hb
  have f3 := below_step ic.2 hb
  have i1 := below_step (bR iE) hb
  obtain rfl : jE = .bool fC := he
  replace hS := (((hS.nil).cons (hS.get 2 rfl)).cons (hS.get 1 rfl)).cons (hS.get 0 rfl)
  refine hS.next (v := .bool fC) (d := 4) rfl (by decide) (by rfl) ?_
  clear hS
  intro kD hS
  refine wpList_nil ?_
  replace hS := (((hS.nil).cons (hS.get 0 rfl)).cons (hS.get 3 rfl)).cons (hS.get 2 rfl)
  (try simp only [Exit.then, Exit.inBlock])
  exact J2 _ _ bo fS fT fU fV fW fX fY fZ av ai e0 e1 e2 e3 e4 e5 e6 e7 e8 e9 fa fb aw ek el em en eo ep eq er es av ai dx dy dz dA dB dC dD dE dF dG dH dI aZ fC H hS hG gb ((f3.block aw (blk_lt fd)).trans fd) eg ((f3.block aZ (blk_lt fc)).trans fc) eh
 obtain ⟨hq, je, H⟩ := Option.bind_eq_some_iff.mp H
 by_cases c2 : hq = true
 rotate_left
 ·rw [if_neg c2] at H
  refine wp_seq_k (fun kz iz => ?_)
  refine reg_seq (I := I5_ w w3 w9 ir iF) (ps := [VP g4 0, VI bk, VB hq]) (by kernel_rfl) ?_ ?_ rfl hS ⟨gh.1, gh.2.1, gh.2.2.1, gh.2.2.2, (bR iF)⟩ ?_ ?_
  ·exact bs5
  ·exact .v (.v (.v (.nil)))
  ·refine .on rfl (fun a w hS hI hp => does_val (x_fieldE (b := 0) rfl (hS.get 2 rfl) Try.underlying28 rfl rfl (by kernel_rfl)) rfl) ?_
   refine .on rfl (fun a w hS hI hp => does_val (x_load1 (d := .int .i64) rfl (hp.V 0 rfl rfl) (by kernel_rfl) rfl ((blk_cell (((hI.2.1).block g4 (blk_lt ag)).trans ag) 0).trans rfl)) rfl) ?_
   refine .on rfl (fun a w hS hI hp => does_call (by kernel_rfl) (ar1 (hp.V 1 rfl rfl)) ((carillonref07_stamped.calls bk hq _  je).mono fun _ _ h => ⟨_, h.1, h.2.below, rfl⟩)) ?_
   exact .nil
  clear hS
  intro kr jY hS gi hp
  have hk : sl _ 25 = .bool hq := hp 2 (by decide)
  have hS := hS.cons hk
  clear hp hk
  refine iz _ _ ?_
  refine wp_cond_false ((hS.get 0 rfl).trans (bF (Bool.eq_false_iff.2 c2))) ?_
  refine wp_skip ?_
  replace hS := (((hS.nil).cons (hS.get 1 rfl)).cons (hS.get 2 rfl)).cons (hS.get 3 rfl)
  (try simp only [Exit.then, Exit.inBlock])
  exact J1 _ _ bk cr ct cu co cp cv cw cH f0 eL eM eN eO eP eQ eR eS eT eU eV eW eX g4 bk cr ct cu co cp cv cw 0 0 0 0 0 0 0 0 0 0 0 0 0 0 0 f6 true H hS gi.1 ht ((gi.2.1.block g4 (blk_lt ag)).trans ag) (Nat.le_trans (f4.1).size dL) ((gi.2.2.2.1.block f6 (blk_lt gD)).trans gD) iD
 rw [if_pos c2] at H
 obtain ⟨gZ, kp, H⟩ := Option.bind_eq_some_iff.mp H
 refine wp_seq_k (fun kz iz => ?_)
 refine reg_seq (I := I5_ w w3 w9 ir iF) (ps := [VP g4 0, VI bk, VB hq]) (by kernel_rfl) ?_ ?_ rfl hS ⟨gh.1, gh.2.1, gh.2.2.1, gh.2.2.2, (bR iF)⟩ ?_ ?_
 ·exact bs5
 ·exact .v (.v (.v (.nil)))
 ·refine .on rfl (fun a w hS hI hp => does_val (x_fieldE (b := 0) rfl (hS.get 2 rfl) Try.underlying28 rfl rfl (by kernel_rfl)) rfl) ?_
  refine .on rfl (fun a w hS hI hp => does_val (x_load1 (d := .int .i64) rfl (hp.V 0 rfl rfl) (by kernel_rfl) rfl ((blk_cell (((hI.2.1).block g4 (blk_lt ag)).trans ag) 0).trans rfl)) rfl) ?_
  refine .on rfl (fun a w hS hI hp => does_call (by kernel_rfl) (ar1 (hp.V 1 rfl rfl)) ((carillonref07_stamped.calls bk hq _  je).mono fun _ _ h => ⟨_, h.1, h.2.below, rfl⟩)) ?_
  exact .nil
 clear hS
 intro kr jY hS gi hp
 have hk : sl _ 25 = .bool hq := hp 2 (by decide)
 have hS := hS.cons hk
 clear hp hk
 refine iz _ _ ?_
 refine wp_cond_true ((hS.get 0 rfl).trans (bT c2)) ?_
 refine wp_seq_k (fun lt kv => ?_)
 refine reg_seq_tail 3 (I := I5_ w w3 w9 ir jY) (ps := [VP g4 8, VI cH, VP f6 8]) (by kernel_rfl) ?_ ?_ rfl hS ⟨gi.1, gi.2.1, gi.2.2.1, gi.2.2.2.1, (bR jY)⟩ ?_ ?_
 ·exact bs5
 ·exact .v (.v (.v (.nil)))
 ·refine .on rfl (fun a w hS hI hp => does_val (x_fieldE (b := 0) rfl (hS.get 3 rfl) Try.underlying28 rfl rfl (by kernel_rfl)) rfl) ?_
  refine .on rfl (fun a w hS hI hp => does_val (x_load1 (d := .int .i64) rfl (hp.V 0 rfl rfl) (by kernel_rfl) rfl ((blk_cell (((hI.2.1).block g4 (blk_lt ag)).trans ag) 8).trans rfl)) rfl) ?_
  refine .on rfl (fun a w hS hI hp => does_val (x_fieldE (b := 0) rfl (hS.get 2 rfl) Try.underlying28 rfl rfl (by kernel_rfl)) rfl) ?_
  exact .nil
 clear hS
 intro ln lu hS gA hp
 replace hS := (((hS.nil).cons (hS.get 3 rfl)).cons (hS.get 2 rfl)).cons (hS.get 1 rfl)
 have jy : sl _ 27 = .int .i64 cH := hp 1 (by decide)
 have jz : sl _ 28 = .pointer (some ⟨f6, 8, none⟩) := hp 2 (by decide)
 have hS := hS.cons jy
 have hS := hS.cons jz
 clear hp jy jz
 show wpList _ _ _ [_] _ _
 refine list_step rfl (does_store (g := f6) (off := 8) (v := .int .i64 cH) (new := (carillonref07_Check.c1 bk cr ct cu co cp cv cw cH 0 0 0 0 0 0 0 0 0 0 0 0 0 0)) rfl (hS.get 0 rfl) (hS.get 1 rfl) ((gA.2.2.2.1.block f6 (blk_lt gD)).trans gD) (by kernel_rfl) (by kernel_rfl) (by kernel_rfl) (by kernel_rfl)) ?_
 rintro lr ko ⟨rfl, h8, hT⟩
 have iY := hT.below gA.1 (Nat.le_trans (f4.1).size dL) (gA.1).size
 have iv := hT.below gA.2.1 (Nat.le_trans (f4.2).size dL) (gA.2.1).size
 have iw := hT.below gA.2.2.1 dL (gA.2.2.1).size
 clear hT
 refine wpList_nil ?_
 refine kv _ _ ?_
 refine reg_seq_tail 6 (I := I4_ w w3 w9 ko) (ps := [VB true, VB true, VP g4 8, VI cH, VB gZ, VB gZ]) (by kernel_rfl) ?_ ?_ rfl hS ⟨iY, iv, iw, (bR ko)⟩ ?_ ?_
 ·exact bs4
 ·exact .v (.v (.v (.v (.v (.v (.nil))))))
 ·refine .ms 2 rfl rfl rfl ?_
  refine .mv 0 rfl rfl rfl ?_
  refine .oy 1 30 rfl rfl rfl (fun a w hS hI hp => does_val (x_fieldE (b := 0) rfl (hS.get 4 rfl) Try.underlying28 rfl rfl (by kernel_rfl)) rfl) ?_
  refine .oy 1 30 rfl rfl rfl (fun a w hS hI hp => does_val (x_load1 (d := .int .i64) rfl (hp.V 2 rfl rfl) (by kernel_rfl) rfl ((blk_cell (((hI.2.1).block g4 (blk_lt ag)).trans ag) 8).trans rfl)) rfl) ?_
  refine .oy 1 30 rfl rfl rfl (fun a w hS hI hp => does_call (by kernel_rfl) (ar1 (hp.V 3 rfl rfl)) ((carillonref02_May.calls cH gZ _  kp).mono fun _ _ h => ⟨_, h.1, h.2.below, rfl⟩)) ?_
  refine .pt 1 4 rfl rfl rfl rfl rfl ?_
  exact .nil
 clear hS
 intro lo lb hS hu hp
 replace hS := (((hS.nil).cons (hS.get 4 rfl)).cons (hS.get 3 rfl)).cons (hS.get 2 rfl)
 have jA : sl _ 34 = .bool gZ := hp 5 (by decide)
 have hS := hS.cons jA
 clear hp jA
 show wpList _ _ _ [_] _ _
 refine list_step rfl (R := fun v w' => Below _ _ w' ∧ (VB gZ) v w') (does_val (x_assign rfl (hS.get 0 rfl)) rfl) ?_
 rintro kw lv ⟨hb, he⟩
 have iZ := below_step hu.1 hb
 have ix := below_step hu.2.1 hb
 have ks := below_step hu.2.2.1 hb
 have hU := below_step hu.2.2.2 hb
 have kg := below_step (bR lb) hb
 obtain rfl : kw = .bool gZ := he
 replace hS := (((hS.nil).cons (hS.get 3 rfl)).cons (hS.get 2 rfl)).cons (hS.get 0 rfl)
 refine hS.next (v := .bool gZ) (d := 4) rfl (by decide) (by rfl) ?_
 clear hS
 intro lp hS
 refine wpList_nil ?_
 replace hS := (((hS.nil).cons (hS.get 0 rfl)).cons (hS.get 2 rfl)).cons (hS.get 3 rfl)
 (try simp only [Exit.then, Exit.inBlock])
 exact J1 _ _ bk cr ct cu co cp cv cw cH f0 eL eM eN eO eP eQ eR eS eT eU eV eW eX g4 bk cr ct cu co cp cv cw cH 0 0 0 0 0 0 0 0 0 0 0 0 0 0 f6 gZ H hS iZ ht ((ix.block g4 (blk_lt ag)).trans ag) (Nat.le_trans (f4.1).size dL) ((hU.block f6 (blk_lt h8)).trans h8) iD
end Go.Proofs.Ytiomlbkakiienaa.P
