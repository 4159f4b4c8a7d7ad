/- Functions and loops of the given program as Lean functions, and that the code comes to what they say: written by this session's own program; Lean checks it. -/
import Derived.Test.YtiomlbkakiienaaZzPx0
import Derived.Test.YtiomlbkakiienaaZzPx6
import Derived.Test.YtiomlbkakiienaaZzPx7
namespace Go.Proofs.Ytiomlbkakiienaa.P
open Go.RowKit Go.Proofs.YtiomlbkakiienaaW.PrintWords Go.Proofs.YtiomlbkakiienaaW.PrintLast Go.Proofs.YtiomlbkakiienaaW.PrintMore
attribute [local go_sem] max2_int min2_int max_two min_two max_three min_three max_four min_four   -- for this text's walks alone
set_option linter.unusedVariables false
set_option linter.unusedSimpArgs false
def carillonref07_Check.j3 (k : Nat) (x3_1_0 x3_1_1 x3_1_2 x3_1_3 x3_1_4 x3_1_5 x3_1_6 x3_1_7 x3_1_8 x3_1_9 x3_1_10 x3_1_11 x3_1_12 x3_1_13 x3_1_14 x3_1_15 x3_1_16 x3_1_17 x3_1_18 x3_1_19 x3_1_20 x3_1_21 x3_1_22 x3_3_0 x3_3_1 x3_3_2 x3_3_3 x3_3_4 x3_3_5 x3_3_6 x3_3_7 x3_3_8 x3_3_9 x3_3_10 x3_3_11 x3_3_12 x3_3_13 x3_3_14 x3_3_15 x3_3_16 x3_3_17 x3_3_18 x3_3_19 x3_3_20 x3_3_21 x3_3_22 : Int) (x3_4 : Bool) : Option (Bool) := if x3_4 = true then (some ((x3_3_0 == x3_1_0) && ((x3_3_1 == x3_1_1) && ((x3_3_2 == x3_1_2) && ((x3_3_3 == x3_1_3) && ((x3_3_4 == x3_1_4) && ((x3_3_5 == x3_1_5) && ((x3_3_6 == x3_1_6) && ((x3_3_7 == x3_1_7) && ((x3_3_8 == x3_1_8) && ((x3_3_9 == x3_1_9) && ((x3_3_10 == x3_1_10) && ((x3_3_11 == x3_1_11) && ((x3_3_12 == x3_1_12) && ((x3_3_13 == x3_1_13) && ((x3_3_14 == x3_1_14) && ((x3_3_15 == x3_1_15) && ((x3_3_16 == x3_1_16) && ((x3_3_17 == x3_1_17) && ((x3_3_18 == x3_1_18) && ((x3_3_19 == x3_1_19) && ((x3_3_20 == x3_1_20) && ((x3_3_21 == x3_1_21) && (x3_3_22 == x3_1_22)))))))))))))))))))))))) else (some false)
def carillonref07_Check.j4 (k : Nat) (x4_1_0 x4_1_1 x4_1_2 x4_1_3 x4_1_4 x4_1_5 x4_1_6 x4_1_7 x4_1_8 x4_1_9 x4_1_10 x4_1_11 x4_1_12 x4_1_13 x4_1_14 x4_1_15 x4_1_16 x4_1_17 x4_1_18 x4_1_19 x4_1_20 x4_1_21 x4_1_22 x4_3_0 x4_3_1 x4_3_2 x4_3_3 x4_3_4 x4_3_5 x4_3_6 x4_3_7 x4_3_8 x4_3_9 x4_3_10 x4_3_11 x4_3_12 x4_3_13 x4_3_14 x4_3_15 x4_3_16 x4_3_17 x4_3_18 x4_3_19 x4_3_20 x4_3_21 x4_3_22 : Int) (x4_4 : Bool) : Option (Bool) := if x4_4 = true then ((carillonref05_In.f x4_1_11 (-32768) 32767).bind fun t4001 => (if t4001 = true then ((carillonref05_In.f x4_1_12 0 255).bind fun t4002 => (if t4002 = true then ((carillonref05_In.f x4_1_16 0 255).bind fun t4003 => (if t4003 = true then ((carillonref05_In.f x4_1_19 0 255).bind fun t4004 => (if t4004 = true then ((carillonref05_May.f x4_1_13 x4_1_14 x4_1_15).bind fun t4005 => (if t4005 = true then ((carillonref05_In.f x4_1_18 0 65535).bind fun t4006 => (carillonref07_Check.j3 k x4_1_0 x4_1_1 x4_1_2 x4_1_3 x4_1_4 x4_1_5 x4_1_6 x4_1_7 x4_1_8 x4_1_9 x4_1_10 x4_1_11 x4_1_12 x4_1_13 x4_1_14 x4_1_15 x4_1_16 x4_1_17 x4_1_18 x4_1_19 x4_1_20 x4_1_21 x4_1_22 x4_3_0 x4_3_1 x4_3_2 x4_3_3 x4_3_4 x4_3_5 x4_3_6 x4_3_7 x4_3_8 x4_3_9 x4_3_10 x4_3_11 x4_3_12 x4_3_13 x4_3_14 x4_3_15 x4_3_16 x4_3_17 x4_3_18 x4_3_19 x4_3_20 x4_3_21 x4_3_22 t4006)) else (carillonref07_Check.j3 k x4_1_0 x4_1_1 x4_1_2 x4_1_3 x4_1_4 x4_1_5 x4_1_6 x4_1_7 x4_1_8 x4_1_9 x4_1_10 x4_1_11 x4_1_12 x4_1_13 x4_1_14 x4_1_15 x4_1_16 x4_1_17 x4_1_18 x4_1_19 x4_1_20 x4_1_21 x4_1_22 x4_3_0 x4_3_1 x4_3_2 x4_3_3 x4_3_4 x4_3_5 x4_3_6 x4_3_7 x4_3_8 x4_3_9 x4_3_10 x4_3_11 x4_3_12 x4_3_13 x4_3_14 x4_3_15 x4_3_16 x4_3_17 x4_3_18 x4_3_19 x4_3_20 x4_3_21 x4_3_22 false))) else (carillonref07_Check.j3 k x4_1_0 x4_1_1 x4_1_2 x4_1_3 x4_1_4 x4_1_5 x4_1_6 x4_1_7 x4_1_8 x4_1_9 x4_1_10 x4_1_11 x4_1_12 x4_1_13 x4_1_14 x4_1_15 x4_1_16 x4_1_17 x4_1_18 x4_1_19 x4_1_20 x4_1_21 x4_1_22 x4_3_0 x4_3_1 x4_3_2 x4_3_3 x4_3_4 x4_3_5 x4_3_6 x4_3_7 x4_3_8 x4_3_9 x4_3_10 x4_3_11 x4_3_12 x4_3_13 x4_3_14 x4_3_15 x4_3_16 x4_3_17 x4_3_18 x4_3_19 x4_3_20 x4_3_21 x4_3_22 false))) else (carillonref07_Check.j3 k x4_1_0 x4_1_1 x4_1_2 x4_1_3 x4_1_4 x4_1_5 x4_1_6 x4_1_7 x4_1_8 x4_1_9 x4_1_10 x4_1_11 x4_1_12 x4_1_13 x4_1_14 x4_1_15 x4_1_16 x4_1_17 x4_1_18 x4_1_19 x4_1_20 x4_1_21 x4_1_22 x4_3_0 x4_3_1 x4_3_2 x4_3_3 x4_3_4 x4_3_5 x4_3_6 x4_3_7 x4_3_8 x4_3_9 x4_3_10 x4_3_11 x4_3_12 x4_3_13 x4_3_14 x4_3_15 x4_3_16 x4_3_17 x4_3_18 x4_3_19 x4_3_20 x4_3_21 x4_3_22 false))) else (carillonref07_Check.j3 k x4_1_0 x4_1_1 x4_1_2 x4_1_3 x4_1_4 x4_1_5 x4_1_6 x4_1_7 x4_1_8 x4_1_9 x4_1_10 x4_1_11 x4_1_12 x4_1_13 x4_1_14 x4_1_15 x4_1_16 x4_1_17 x4_1_18 x4_1_19 x4_1_20 x4_1_21 x4_1_22 x4_3_0 x4_3_1 x4_3_2 x4_3_3 x4_3_4 x4_3_5 x4_3_6 x4_3_7 x4_3_8 x4_3_9 x4_3_10 x4_3_11 x4_3_12 x4_3_13 x4_3_14 x4_3_15 x4_3_16 x4_3_17 x4_3_18 x4_3_19 x4_3_20 x4_3_21 x4_3_22 false))) else (carillonref07_Check.j3 k x4_1_0 x4_1_1 x4_1_2 x4_1_3 x4_1_4 x4_1_5 x4_1_6 x4_1_7 x4_1_8 x4_1_9 x4_1_10 x4_1_11 x4_1_12 x4_1_13 x4_1_14 x4_1_15 x4_1_16 x4_1_17 x4_1_18 x4_1_19 x4_1_20 x4_1_21 x4_1_22 x4_3_0 x4_3_1 x4_3_2 x4_3_3 x4_3_4 x4_3_5 x4_3_6 x4_3_7 x4_3_8 x4_3_9 x4_3_10 x4_3_11 x4_3_12 x4_3_13 x4_3_14 x4_3_15 x4_3_16 x4_3_17 x4_3_18 x4_3_19 x4_3_20 x4_3_21 x4_3_22 false))) else (carillonref07_Check.j3 k x4_1_0 x4_1_1 x4_1_2 x4_1_3 x4_1_4 x4_1_5 x4_1_6 x4_1_7 x4_1_8 x4_1_9 x4_1_10 x4_1_11 x4_1_12 x4_1_13 x4_1_14 x4_1_15 x4_1_16 x4_1_17 x4_1_18 x4_1_19 x4_1_20 x4_1_21 x4_1_22 x4_3_0 x4_3_1 x4_3_2 x4_3_3 x4_3_4 x4_3_5 x4_3_6 x4_3_7 x4_3_8 x4_3_9 x4_3_10 x4_3_11 x4_3_12 x4_3_13 x4_3_14 x4_3_15 x4_3_16 x4_3_17 x4_3_18 x4_3_19 x4_3_20 x4_3_21 x4_3_22 false)
def carillonref07_Check.j5 (k : Nat) (x5_1_0 x5_1_1 x5_1_2 x5_1_3 x5_1_4 x5_1_5 x5_1_6 x5_1_7 x5_1_8 x5_1_9 x5_1_10 x5_1_11 x5_1_12 x5_1_13 x5_1_14 x5_1_15 x5_1_16 x5_1_17 x5_1_18 x5_1_19 x5_1_20 x5_1_21 x5_1_22 x5_3_0 x5_3_1 x5_3_2 x5_3_3 x5_3_4 x5_3_5 x5_3_6 x5_3_7 x5_3_8 x5_3_9 x5_3_10 x5_3_11 x5_3_12 x5_3_13 x5_3_14 x5_3_15 x5_3_16 x5_3_17 x5_3_18 x5_3_19 x5_3_20 x5_3_21 x5_3_22 : Int) (x5_4 : Bool) : Option (Bool) := if x5_4 = true then ((carillonref05_In.f x5_1_20 0 255).bind fun t5001 => (if t5001 = true then ((carillonref05_In.f x5_1_21 0 255).bind fun t5002 => (if t5002 = true then ((carillonref05_In.f x5_1_22 0 15).bind fun t5003 => (carillonref07_Check.j3 k x5_1_0 x5_1_1 x5_1_2 x5_1_3 x5_1_4 x5_1_5 x5_1_6 x5_1_7 x5_1_8 x5_1_9 x5_1_10 x5_1_11 x5_1_12 x5_1_13 x5_1_14 x5_1_15 x5_1_16 x5_1_17 x5_1_18 x5_1_19 x5_1_20 x5_1_21 x5_1_22 x5_3_0 x5_3_1 x5_3_2 x5_3_3 x5_3_4 x5_3_5 x5_3_6 x5_3_7 x5_3_8 x5_3_9 x5_3_10 x5_3_11 x5_3_12 x5_3_13 x5_3_14 x5_3_15 x5_3_16 x5_3_17 x5_3_18 x5_3_19 x5_3_20 x5_3_21 x5_3_22 t5003)) else (carillonref07_Check.j3 k x5_1_0 x5_1_1 x5_1_2 x5_1_3 x5_1_4 x5_1_5 x5_1_6 x5_1_7 x5_1_8 x5_1_9 x5_1_10 x5_1_11 x5_1_12 x5_1_13 x5_1_14 x5_1_15 x5_1_16 x5_1_17 x5_1_18 x5_1_19 x5_1_20 x5_1_21 x5_1_22 x5_3_0 x5_3_1 x5_3_2 x5_3_3 x5_3_4 x5_3_5 x5_3_6 x5_3_7 x5_3_8 x5_3_9 x5_3_10 x5_3_11 x5_3_12 x5_3_13 x5_3_14 x5_3_15 x5_3_16 x5_3_17 x5_3_18 x5_3_19 x5_3_20 x5_3_21 x5_3_22 false))) else (carillonref07_Check.j3 k x5_1_0 x5_1_1 x5_1_2 x5_1_3 x5_1_4 x5_1_5 x5_1_6 x5_1_7 x5_1_8 x5_1_9 x5_1_10 x5_1_11 x5_1_12 x5_1_13 x5_1_14 x5_1_15 x5_1_16 x5_1_17 x5_1_18 x5_1_19 x5_1_20 x5_1_21 x5_1_22 x5_3_0 x5_3_1 x5_3_2 x5_3_3 x5_3_4 x5_3_5 x5_3_6 x5_3_7 x5_3_8 x5_3_9 x5_3_10 x5_3_11 x5_3_12 x5_3_13 x5_3_14 x5_3_15 x5_3_16 x5_3_17 x5_3_18 x5_3_19 x5_3_20 x5_3_21 x5_3_22 false))) else (carillonref07_Check.j3 k x5_1_0 x5_1_1 x5_1_2 x5_1_3 x5_1_4 x5_1_5 x5_1_6 x5_1_7 x5_1_8 x5_1_9 x5_1_10 x5_1_11 x5_1_12 x5_1_13 x5_1_14 x5_1_15 x5_1_16 x5_1_17 x5_1_18 x5_1_19 x5_1_20 x5_1_21 x5_1_22 x5_3_0 x5_3_1 x5_3_2 x5_3_3 x5_3_4 x5_3_5 x5_3_6 x5_3_7 x5_3_8 x5_3_9 x5_3_10 x5_3_11 x5_3_12 x5_3_13 x5_3_14 x5_3_15 x5_3_16 x5_3_17 x5_3_18 x5_3_19 x5_3_20 x5_3_21 x5_3_22 false)
def carillonref07_Check.j2 (k : Nat) (x2_1_0 x2_1_1 x2_1_2 x2_1_3 x2_1_4 x2_1_5 x2_1_6 x2_1_7 x2_1_8 x2_1_9 x2_1_10 x2_1_11 x2_1_12 x2_1_13 x2_1_14 x2_1_15 x2_1_16 x2_1_17 x2_1_18 x2_1_19 x2_1_20 x2_1_21 x2_1_22 x2_3_0 x2_3_1 x2_3_2 x2_3_3 x2_3_4 x2_3_5 x2_3_6 x2_3_7 x2_3_8 x2_3_9 x2_3_10 x2_3_11 x2_3_12 x2_3_13 x2_3_14 x2_3_15 x2_3_16 x2_3_17 x2_3_18 x2_3_19 x2_3_20 x2_3_21 x2_3_22 : Int) (x2_4 : Bool) : Option (Bool) := if x2_1_0 = 11 then (carillonref07_Check.j4 k x2_1_0 x2_1_1 x2_1_2 x2_1_3 x2_1_4 x2_1_5 x2_1_6 x2_1_7 x2_1_8 x2_1_9 x2_1_10 x2_1_11 x2_1_12 x2_1_13 x2_1_14 x2_1_15 x2_1_16 x2_1_17 x2_1_18 x2_1_19 x2_1_20 x2_1_21 x2_1_22 x2_3_0 x2_3_1 x2_3_2 x2_3_3 x2_3_4 x2_3_5 x2_3_6 x2_3_7 x2_3_8 x2_3_9 x2_3_10 x2_1_11 x2_1_12 x2_1_13 x2_1_14 x2_1_15 x2_1_16 x2_1_17 x2_1_18 x2_1_19 x2_3_20 x2_3_21 x2_3_22 x2_4) else (if x2_1_0 = 13 then (carillonref07_Check.j5 k x2_1_0 x2_1_1 x2_1_2 x2_1_3 x2_1_4 x2_1_5 x2_1_6 x2_1_7 x2_1_8 x2_1_9 x2_1_10 x2_1_11 x2_1_12 x2_1_13 x2_1_14 x2_1_15 x2_1_16 x2_1_17 x2_1_18 x2_1_19 x2_1_20 x2_1_21 x2_1_22 x2_3_0 x2_3_1 x2_3_2 x2_3_3 x2_3_4 x2_3_5 x2_3_6 x2_3_7 x2_3_8 x2_3_9 x2_3_10 x2_3_11 x2_3_12 x2_3_13 x2_3_14 x2_3_15 x2_3_16 x2_3_17 x2_3_18 x2_3_19 x2_1_20 x2_1_21 x2_1_22 x2_4) else (carillonref07_Check.j3 k x2_1_0 x2_1_1 x2_1_2 x2_1_3 x2_1_4 x2_1_5 x2_1_6 x2_1_7 x2_1_8 x2_1_9 x2_1_10 x2_1_11 x2_1_12 x2_1_13 x2_1_14 x2_1_15 x2_1_16 x2_1_17 x2_1_18 x2_1_19 x2_1_20 x2_1_21 x2_1_22 x2_3_0 x2_3_1 x2_3_2 x2_3_3 x2_3_4 x2_3_5 x2_3_6 x2_3_7 x2_3_8 x2_3_9 x2_3_10 x2_3_11 x2_3_12 x2_3_13 x2_3_14 x2_3_15 x2_3_16 x2_3_17 x2_3_18 x2_3_19 x2_3_20 x2_3_21 x2_3_22 x2_4))
def carillonref07_Check.j1 (k : Nat) (x1_1_0 x1_1_1 x1_1_2 x1_1_3 x1_1_4 x1_1_5 x1_1_6 x1_1_7 x1_1_8 x1_1_9 x1_1_10 x1_1_11 x1_1_12 x1_1_13 x1_1_14 x1_1_15 x1_1_16 x1_1_17 x1_1_18 x1_1_19 x1_1_20 x1_1_21 x1_1_22 x1_3_0 x1_3_1 x1_3_2 x1_3_3 x1_3_4 x1_3_5 x1_3_6 x1_3_7 x1_3_8 x1_3_9 x1_3_10 x1_3_11 x1_3_12 x1_3_13 x1_3_14 x1_3_15 x1_3_16 x1_3_17 x1_3_18 x1_3_19 x1_3_20 x1_3_21 x1_3_22 : Int) (x1_4 : Bool) : Option (Bool) := (carillonref07_targeted.f x1_1_0).bind fun t1003 => (if t1003 = true then (if x1_4 = true then ((carillonref04_May.f x1_1_9 x1_1_10).bind fun t1011 => (carillonref07_Check.j2 k x1_1_0 x1_1_1 x1_1_2 x1_1_3 x1_1_4 x1_1_5 x1_1_6 x1_1_7 x1_1_8 x1_1_9 x1_1_10 x1_1_11 x1_1_12 x1_1_13 x1_1_14 x1_1_15 x1_1_16 x1_1_17 x1_1_18 x1_1_19 x1_1_20 x1_1_21 x1_1_22 x1_3_0 x1_3_1 x1_3_2 x1_3_3 x1_3_4 x1_3_5 x1_3_6 x1_3_7 x1_3_8 x1_1_9 x1_1_10 x1_3_11 x1_3_12 x1_3_13 x1_3_14 x1_3_15 x1_3_16 x1_3_17 x1_3_18 x1_3_19 x1_3_20 x1_3_21 x1_3_22 t1011)) else (carillonref07_Check.j2 k x1_1_0 x1_1_1 x1_1_2 x1_1_3 x1_1_4 x1_1_5 x1_1_6 x1_1_7 x1_1_8 x1_1_9 x1_1_10 x1_1_11 x1_1_12 x1_1_13 x1_1_14 x1_1_15 x1_1_16 x1_1_17 x1_1_18 x1_1_19 x1_1_20 x1_1_21 x1_1_22 x1_3_0 x1_3_1 x1_3_2 x1_3_3 x1_3_4 x1_3_5 x1_3_6 x1_3_7 x1_3_8 x1_1_9 x1_1_10 x1_3_11 x1_3_12 x1_3_13 x1_3_14 x1_3_15 x1_3_16 x1_3_17 x1_3_18 x1_3_19 x1_3_20 x1_3_21 x1_3_22 false)) else (carillonref07_Check.j2 k x1_1_0 x1_1_1 x1_1_2 x1_1_3 x1_1_4 x1_1_5 x1_1_6 x1_1_7 x1_1_8 x1_1_9 x1_1_10 x1_1_11 x1_1_12 x1_1_13 x1_1_14 x1_1_15 x1_1_16 x1_1_17 x1_1_18 x1_1_19 x1_1_20 x1_1_21 x1_1_22 x1_3_0 x1_3_1 x1_3_2 x1_3_3 x1_3_4 x1_3_5 x1_3_6 x1_3_7 x1_3_8 x1_3_9 x1_3_10 x1_3_11 x1_3_12 x1_3_13 x1_3_14 x1_3_15 x1_3_16 x1_3_17 x1_3_18 x1_3_19 x1_3_20 x1_3_21 x1_3_22 x1_4))
def carillonref07_Check.f (k : Nat) (a0_0 a0_1 a0_2 a0_3 a0_4 a0_5 a0_6 a0_7 a0_8 a0_9 a0_10 a0_11 a0_12 a0_13 a0_14 a0_15 a0_16 a0_17 a0_18 a0_19 a0_20 a0_21 a0_22 : Int) : Option (Bool) := (carillonref06_Check.f a0_0 a0_1 a0_2 a0_3 a0_4 a0_5 a0_6 a0_7 a0_8 a0_9 a0_10 a0_11 a0_12 a0_13 a0_14 a0_15 a0_16 a0_17 a0_18 a0_19 a0_20 a0_21 a0_22).bind fun t7 => (if t7 = true then ((carillonref07_stamped.f a0_0).bind fun t21 => (if t21 = true then ((carillonref02_May.f a0_8).bind fun t28 => (carillonref07_Check.j1 k a0_0 a0_1 a0_2 a0_3 a0_4 a0_5 a0_6 a0_7 a0_8 a0_9 a0_10 a0_11 a0_12 a0_13 a0_14 a0_15 a0_16 a0_17 a0_18 a0_19 a0_20 a0_21 a0_22 a0_0 a0_1 a0_2 a0_3 a0_4 a0_5 a0_6 a0_7 a0_8 0 0 0 0 0 0 0 0 0 0 0 0 0 0 t28)) else (carillonref07_Check.j1 k a0_0 a0_1 a0_2 a0_3 a0_4 a0_5 a0_6 a0_7 a0_8 a0_9 a0_10 a0_11 a0_12 a0_13 a0_14 a0_15 a0_16 a0_17 a0_18 a0_19 a0_20 a0_21 a0_22 a0_0 a0_1 a0_2 a0_3 a0_4 a0_5 a0_6 a0_7 0 0 0 0 0 0 0 0 0 0 0 0 0 0 0 true))) else (some false))
open Go.Proofs.Ytiomlbkakiienaa.E in
set_option maxRecDepth 100000 in
theorem carillonref07_Check.eql28 (x y : Operand) (w : World) (a0 a1 a2 a3 a4 a5 a6 a7 a8 a9 a10 a11 a12 a13 a14 a15 a16 a17 a18 a19 a20 a21 a22 b0 b1 b2 b3 b4 b5 b6 b7 b8 b9 b10 b11 b12 b13 b14 b15 b16 b17 b18 b19 b20 b21 b22 : Int) : (do eqGuard .eql 28 x y (.agg #[.int .i64 a0, .int .i64 a1, .int .i64 a2, .int .i64 a3, .int .u64 a4, .int .i64 a5, .int .i64 a6, .int .i64 a7, .int .i64 a8, .int .u64 a9, .int .i64 a10, .int .i64 a11, .int .i64 a12, .int .i64 a13, .int .i64 a14, .int .i64 a15, .int .i64 a16, .int .u64 a17, .int .i64 a18, .int .i64 a19, .int .i64 a20, .int .i64 a21, .int .i64 a22]) (.agg #[.int .i64 b0, .int .i64 b1, .int .i64 b2, .int .i64 b3, .int .u64 b4, .int .i64 b5, .int .i64 b6, .int .i64 b7, .int .i64 b8, .int .u64 b9, .int .i64 b10, .int .i64 b11, .int .i64 b12, .int .i64 b13, .int .i64 b14, .int .i64 b15, .int .i64 b16, .int .u64 b17, .int .i64 b18, .int .i64 b19, .int .i64 b20, .int .i64 b21, .int .i64 b22]); binOp .eql 28 (.agg #[.int .i64 a0, .int .i64 a1, .int .i64 a2, .int .i64 a3, .int .u64 a4, .int .i64 a5, .int .i64 a6, .int .i64 a7, .int .i64 a8, .int .u64 a9, .int .i64 a10, .int .i64 a11, .int .i64 a12, .int .i64 a13, .int .i64 a14, .int .i64 a15, .int .i64 a16, .int .u64 a17, .int .i64 a18, .int .i64 a19, .int .i64 a20, .int .i64 a21, .int .i64 a22]) (.agg #[.int .i64 b0, .int .i64 b1, .int .i64 b2, .int .i64 b3, .int .u64 b4, .int .i64 b5, .int .i64 b6, .int .i64 b7, .int .i64 b8, .int .u64 b9, .int .i64 b10, .int .i64 b11, .int .i64 b12, .int .i64 b13, .int .i64 b14, .int .i64 b15, .int .i64 b16, .int .u64 b17, .int .i64 b18, .int .i64 b19, .int .i64 b20, .int .i64 b21, .int .i64 b22]) : Sem Value).run Try.prog w = .ok (.bool ((a0 == b0) && ((a1 == b1) && ((a2 == b2) && ((a3 == b3) && ((a4 == b4) && ((a5 == b5) && ((a6 == b6) && ((a7 == b7) && ((a8 == b8) && ((a9 == b9) && ((a10 == b10) && ((a11 == b11) && ((a12 == b12) && ((a13 == b13) && ((a14 == b14) && ((a15 == b15) && ((a16 == b16) && ((a17 == b17) && ((a18 == b18) && ((a19 == b19) && ((a20 == b20) && ((a21 == b21) && (a22 == b22)))))))))))))))))))))))) w := by
  have hu3 := Try.underlying3
  have hu22 := Try.underlying22
  have hu24 := Try.underlying24
  have hu26 := Try.underlying26
  have hu28 := Try.underlying28
  conv => lhs; simp [eqGuard, go_sem, hu3, hu22, hu24, hu26, hu28]
  exact ite_and (ite_and (ite_and (ite_and (ite_and (ite_and (ite_and (ite_and (ite_and (ite_and (ite_and (ite_and (ite_and (ite_and (ite_and (ite_and (ite_and (ite_and (ite_and (ite_and (ite_and (ite_and (ite_last))))))))))))))))))))))
abbrev carillonref07_Check.v0 (x0 x1 x2 x3 x4 x5 x6 x7 x8 x9 x10 x11 x12 x13 x14 x15 x16 x17 x18 x19 x20 x21 x22 : Int) : Value := .agg #[.int .i64 x0, .int .i64 x1, .int .i64 x2, .int .i64 x3, .int .u64 x4, .int .i64 x5, .int .i64 x6, .int .i64 x7, .int .i64 x8, .int .u64 x9, .int .i64 x10, .int .i64 x11, .int .i64 x12, .int .i64 x13, .int .i64 x14, .int .i64 x15, .int .i64 x16, .int .u64 x17, .int .i64 x18, .int .i64 x19, .int .i64 x20, .int .i64 x21, .int .i64 x22]
abbrev carillonref07_Check.c1 (x0 x1 x2 x3 x4 x5 x6 x7 x8 x9 x10 x11 x12 x13 x14 x15 x16 x17 x18 x19 x20 x21 x22 : Int) : Array Value := #[.int .i64 x0, .int .i64 x1, .int .i64 x2, .int .i64 x3, .int .u64 x4, .int .i64 x5, .int .i64 x6, .int .i64 x7, .int .i64 x8, .int .u64 x9, .int .i64 x10, .int .i64 x11, .int .i64 x12, .int .i64 x13, .int .i64 x14, .int .i64 x15, .int .i64 x16, .int .u64 x17, .int .i64 x18, .int .i64 x19, .int .i64 x20, .int .i64 x21, .int .i64 x22]
open Go.Proofs.Ytiomlbkakiienaa.E in
set_option maxHeartbeats 60000000 in
set_option maxRecDepth 100000 in
theorem carillonref07_Check.calls (k : Nat) (dj dt du dv dn dp dw dx ej gN f8 f9 ga gb gc gd ge gf gg gh gi gj gk : Int) (r : Bool) (w : World) (h : carillonref07_Check.f k dj dt du dv dn dp dw dx ej gN f8 f9 ga gb gc gd ge gf gg gh gi gj gk = some r) :
    Calls Try.prog 24 #[.agg #[.int .i64 dj, .int .i64 dt, .int .i64 du, .int .i64 dv, .int .u64 dn, .int .i64 dp, .int .i64 dw, .int .i64 dx, .int .i64 ej, .int .u64 gN, .int .i64 f8, .int .i64 f9, .int .i64 ga, .int .i64 gb, .int .i64 gc, .int .i64 gd, .int .i64 ge, .int .u64 gf, .int .i64 gg, .int .i64 gh, .int .i64 gi, .int .i64 gj, .int .i64 gk]] w fun e w' => e = .returned (.bool r) ∧ Below w.heap.size w w' := by
 have H := h
 clear h
 unfold carillonref07_Check.f at H
 obtain ⟨t7, kf, H⟩ := Option.bind_eq_some_iff.mp H
 refine calls_of_wp (fn := Try.f24) (by kernel_rfl) rfl ?_
 have hS := St.enter #[(carillonref07_Check.v0 dj dt du dv dn dp dw dx ej gN f8 f9 ga gb gc gd ge gf gg gh gi gj gk)] 136 (by simp) [(0, (carillonref07_Check.v0 dj dt du dv dn dp dw dx ej gN f8 f9 ga gb gc gd ge gf gg gh gi gj gk))] (by simp)
 have kg := Below.refl w.heap.size w
 refine wp_seq_k (fun K1 kM => ?_)
 refine reg_seq (I := I1_ w) (ps := [IsB (carillonref07_Check.c1 dj dt du dv dn dp dw dx ej gN f8 f9 ga gb gc gd ge gf gg gh gi gj gk) 28 w.heap.size, VB false]) (by kernel_rfl) ?_ ?_ rfl hS kg ?_ ?_
 ·exact bs1
 ·exact .cons (Stays.b _ _ _) (.v (.nil))
 ·refine .on rfl (fun a w hS hI hp => does_var (x_box rfl (congrArg Value.cells (hS.get 0 rfl))) (hI).size) ?_
  refine .on rfl (fun a w hS hI hp => does_val (x_assign rfl (rfl)) rfl) ?_
  exact .nil
 clear hS
 intro ls w3 hS kP hp
 replace hS := hS.nil
 obtain ⟨g4, jT, h5, ah⟩ := (show IsB _ 28 _ (sl _ 1) _ from hp 0 (by decide))
 have hS := hS.cons jT
 clear hp jT
 refine kM _ _ ?_
 refine wp_seq_k (fun K5 kN => ?_)
 refine wp_seq_k (fun K6 kO => ?_)
 refine reg_seq (I := I2_ w w3) (ps := [IsV ((carillonref07_Check.v0 dj dt du dv dn dp dw dx ej gN f8 f9 ga gb gc gd ge gf gg gh gi gj gk)), VB t7, VB (!t7)]) (by kernel_rfl) ?_ ?_ rfl hS ⟨kP, (bR w3)⟩ ?_ ?_
 ·exact bs2
 ·exact .v (.v (.v (.nil)))
 ·refine .on rfl (fun a w hS hI hp => does_loadrow rfl (hS.get 0 rfl) (((hI.2).block g4 (blk_lt ah)).trans ah) Try.underlying28 rfl (by kernel_rfl) rfl) ?_
  refine .on rfl (fun a w hS hI hp => does_call (by kernel_rfl) (ar1 (hp.V 0 rfl rfl)) ((carillonref06_Check.calls (w := _) (h := kf)).mono fun _ _ h => ⟨_, h.1, h.2, rfl⟩)) ?_
  refine .on rfl (fun a w hS hI hp => does_val (x_not rfl (hp.V 1 rfl rfl)) rfl) ?_
  exact .nil
 clear hS
 intro lt w9 hS fN hp
 have jW : sl _ 7 = .bool (!t7) := hp 2 (by decide)
 have hS := hS.cons jW
 clear hp jW
 refine kO _ _ ?_
 by_cases c1 : t7 = true
 rotate_left
 ·rw [if_neg c1] at H
  obtain rfl := Option.some.inj H
  refine wp_cond_true ((hS.get 0 rfl).trans (bT (congrArg (!·) (Bool.eq_false_iff.2 c1)))) ?_
  refine wp_seq_k (fun kh h3 => ?_)
  refine reg_seq (I := I3_ w w3 w9) (ps := [VB false]) (by kernel_rfl) ?_ ?_ rfl hS ⟨fN.1, fN.2, (bR w9)⟩ ?_ ?_
  ·exact bs3
  ·exact .v (.nil)
  ·refine .on rfl (fun a w hS hI hp => does_val (x_assign rfl (rfl)) rfl) ?_
   exact .nil
  clear hS
  intro j8 jX hS fM hp
  replace hS := hS.nil
  have gF : sl _ 2 = .bool false := hp 0 (by decide)
  have hS := hS.cons gF
  clear hp gF
  refine h3 _ _ ?_
  refine wp_ret ?_
  (try simp only [Exit.then, Exit.inBlock, Exit.jump, Exit.noGoto])
  exact bodyPost_ret (v := .bool false) (results_single rfl (Vals.at (hS.get 0 rfl) .nil)) hS.nodef ⟨rfl, fM.1⟩
 rw [if_pos c1] at H
 refine wp_cond_false ((hS.get 0 rfl).trans (bF (congrArg (!·) c1))) ?_
 refine wp_skip ?_
 refine kN _ _ ?_
 refine wp_seq_k (fun kh h3 => ?_)
 refine reg_seq_tail 16 (I := I3_ w w3 w9) (ps := [VP g4 0, VI dj, VP g4 1, VI dt, VP g4 2, VI du, VP g4 3, VI dv, VP g4 4, IsV (.agg #[.int .u64 dn, .int .i64 dp]), VP g4 6, VI dw, VP g4 7, VI dx, IsV ((carillonref07_Check.v0 dj dt du dv dn dp dw dx 0 0 0 0 0 0 0 0 0 0 0 0 0 0 0)), IsB (carillonref07_Check.c1 0 0 0 0 0 0 0 0 0 0 0 0 0 0 0 0 0 0 0 0 0 0 0) 28 w9.heap.size]) (by kernel_rfl) ?_ ?_ rfl hS ⟨fN.1, fN.2, (bR w9)⟩ ?_ ?_
 ·exact bs3
 ·exact .v (.v (.v (.v (.v (.v (.v (.v (.v (.v (.v (.v (.v (.v (.v (.cons (Stays.b _ _ _) (.nil))))))))))))))))
 ·refine .on rfl (fun a w hS hI hp => does_val (x_fieldE (b := 0) rfl (hS.get 1 rfl) Try.underlying28 rfl rfl (by kernel_rfl)) rfl) ?_
  refine .on rfl (fun a w hS hI hp => does_val (x_load1 (d := .int .i64) rfl (hp.V 0 rfl rfl) (by kernel_rfl) rfl ((blk_cell (((hI.2.1).block g4 (blk_lt ah)).trans ah) 0).trans rfl)) rfl) ?_
  refine .on rfl (fun a w hS hI hp => does_val (x_fieldE (b := 0) rfl (hS.get 1 rfl) Try.underlying28 rfl rfl (by kernel_rfl)) rfl) ?_
  refine .on rfl (fun a w hS hI hp => does_val (x_load1 (d := .int .i64) rfl (hp.V 2 rfl rfl) (by kernel_rfl) rfl ((blk_cell (((hI.2.1).block g4 (blk_lt ah)).trans ah) 1).trans rfl)) rfl) ?_
  refine .on rfl (fun a w hS hI hp => does_val (x_fieldE (b := 0) rfl (hS.get 1 rfl) Try.underlying28 rfl rfl (by kernel_rfl)) rfl) ?_
  refine .on rfl (fun a w hS hI hp => does_val (x_load1 (d := .int .i64) rfl (hp.V 4 rfl rfl) (by kernel_rfl) rfl ((blk_cell (((hI.2.1).block g4 (blk_lt ah)).trans ah) 2).trans rfl)) rfl) ?_
  refine .on rfl (fun a w hS hI hp => does_val (x_fieldE (b := 0) rfl (hS.get 1 rfl) Try.underlying28 rfl rfl (by kernel_rfl)) rfl) ?_
  refine .on rfl (fun a w hS hI hp => does_val (x_load1 (d := .int .i64) rfl (hp.V 6 rfl rfl) (by kernel_rfl) rfl ((blk_cell (((hI.2.1).block g4 (blk_lt ah)).trans ah) 3).trans rfl)) rfl) ?_
  refine .on rfl (fun a w hS hI hp => does_val (x_fieldE (b := 0) rfl (hS.get 1 rfl) Try.underlying28 rfl rfl (by kernel_rfl)) rfl) ?_
  refine .on rfl (fun a w hS hI hp => does_loadmid (cs := [.int .u64 dn, .int .i64 dp]) rfl (hp.V 8 rfl rfl) (((hI.2.1).block g4 (blk_lt ah)).trans ah) (by kernel_rfl) Try.underlying24 rfl (by kernel_rfl) rfl) ?_
  refine .on rfl (fun a w hS hI hp => does_val (x_fieldE (b := 0) rfl (hS.get 1 rfl) Try.underlying28 rfl rfl (by kernel_rfl)) rfl) ?_
  refine .on rfl (fun a w hS hI hp => does_val (x_load1 (d := .int .i64) rfl (hp.V 10 rfl rfl) (by kernel_rfl) rfl ((blk_cell (((hI.2.1).block g4 (blk_lt ah)).trans ah) 6).trans rfl)) rfl) ?_
  refine .on rfl (fun a w hS hI hp => does_val (x_fieldE (b := 0) rfl (hS.get 1 rfl) Try.underlying28 rfl rfl (by kernel_rfl)) rfl) ?_
  refine .on rfl (fun a w hS hI hp => does_val (x_load1 (d := .int .i64) rfl (hp.V 12 rfl rfl) (by kernel_rfl) rfl ((blk_cell (((hI.2.1).block g4 (blk_lt ah)).trans ah) 7).trans rfl)) rfl) ?_
  refine .on rfl (fun a w hS hI hp => does_val (x_build (vs := [(0, .int .i64 dj), (1, .int .i64 dt), (2, .int .i64 du), (3, .int .i64 dv), (4, .agg #[.int .u64 dn, .int .i64 dp]), (5, .int .i64 dw), (6, .int .i64 dx)]) rfl (by rw [Array.toList_map]; exact (show [(0, a.eval (.tmp 9)), (1, a.eval (.tmp 11)), (2, a.eval (.tmp 13)), (3, a.eval (.tmp 15)), (4, a.eval (.tmp 17)), (5, a.eval (.tmp 19)), (6, a.eval (.tmp 21))] = _ from (li_cons (hp.V 1 rfl rfl) (li_cons (hp.V 3 rfl rfl) (li_cons (hp.V 5 rfl rfl) (li_cons (hp.V 7 rfl rfl) (li_cons (hp.V 9 rfl rfl) (li_cons (hp.V 11 rfl rfl) (li_cons (hp.V 13 rfl rfl) rfl))))))))) (by kernel_rfl)) rfl) ?_
  refine .on rfl (fun a w hS hI hp => does_var (x_alloc rfl (by kernel_rfl)) (hI.2.2).size) ?_
  exact .nil
 clear hS
 intro j8 jX hS fM hp
 replace hS := (hS.nil).cons (hS.get 1 rfl)
 have jc : sl _ 22 = (carillonref07_Check.v0 dj dt du dv dn dp dw dx 0 0 0 0 0 0 0 0 0 0 0 0 0 0 0) := hp 14 (by decide)
 obtain ⟨fI, jU, dq, hF⟩ := (show IsB _ 28 _ (sl _ 3) _ from hp 15 (by decide))
 have h6 : fI ≠ g4 := Nat.ne_of_gt (Nat.lt_of_lt_of_le (blk_lt ((fN.2.block g4 (blk_lt ah)).trans ah)) dq)
 have hS := hS.cons jc
 have hS := hS.cons jU
 clear hp jc jU
 show wpList _ _ _ [_] _ _
 refine list_step rfl (does_storeAll (g := fI) (cs := (carillonref07_Check.c1 dj dt du dv dn dp dw dx 0 0 0 0 0 0 0 0 0 0 0 0 0 0 0)) rfl (hS.get 0 rfl) (hS.get 1 rfl) (((bR jX).block fI (blk_lt hF)).trans hF) (by kernel_rfl) (by kernel_rfl) (by kernel_rfl)) ?_
 rintro ln ib ⟨rfl, gl, hT⟩
 have iy := hT.below fM.1 (Nat.le_trans (fN.1).size dq) (fM.1).size
 have hY := hT.below fM.2.1 (Nat.le_trans (fN.2).size dq) (fM.2.1).size
 have hZ := hT.below fM.2.2 dq (fM.2.2).size
 clear hT
 refine wpList_nil ?_
 refine h3 _ _ ?_
 refine wp_seq_k (fun lp ka => ?_)
 refine reg_seq (I := I4_ w w3 w9 ib) (ps := [VB true]) (by kernel_rfl) ?_ ?_ rfl hS ⟨iy, hY, hZ, (bR ib)⟩ ?_ ?_
 ·exact bs4
 ·exact .v (.nil)
 ·refine .on rfl (fun a w hS hI hp => does_val (x_assign rfl (rfl)) rfl) ?_
  exact .nil
 clear hS
 intro li jY hS g2 hp
 replace hS := ((hS.nil).cons (hS.get 2 rfl)).cons (hS.get 0 rfl)
 have jV : sl _ 4 = .bool true := hp 0 (by decide)
 have hS := hS.cons jV
 clear hp jV
 refine ka _ _ ?_
 refine wp_seq_k (fun ki kb => ?_)
 have J1 : ∀ (iU : Act) (gH : World) (d9 fv fw fx fy fz fA fB fC aM av ev ew ex ey ez eA eB eC eD eE eF eG : Int) (bd : Nat) (eH eI eJ eK eL eM eN eO eP gs fT dz dA dB dC dD dE dF dG dH dI dJ dK : Int) (bm : Nat) (fE : Bool), carillonref07_Check.j1 k d9 fv fw fx fy fz fA fB fC aM av ev ew ex ey ez eA eB eC eD eE eF eG eH eI eJ eK eL eM eN eO eP gs fT dz dA dB dC dD dE dF dG dH dI dJ dK fE = some r → St 136 [(1, .pointer (some ⟨bd, 0, none⟩)), (3, .pointer (some ⟨bm, 0, none⟩)), (4, .bool fE)] iU → Below w.heap.size w gH → w.heap.size ≤ bd → gH.heap[bd]? = some (.cells (carillonref07_Check.c1 d9 fv fw fx fy fz fA fB fC aM av ev ew ex ey ez eA eB eC eD eE eF eG) 28 (0, 0)) → w.heap.size ≤ bm → gH.heap[bm]? = some (.cells (carillonref07_Check.c1 eH eI eJ eK eL eM eN eO eP gs fT dz dA dB dC dD dE dF dG dH dI dJ dK) 28 (0, 0)) → bm ≠ bd → ki iU gH := by
  intro iU gH d9 fv fw fx fy fz fA fB fC aM av ev ew ex ey ez eA eB eC eD eE eF eG bd eH eI eJ eK eL eM eN eO eP gs fT dz dA dB dC dD dE dF dG dH dI dJ dK bm fE H hS iB fJ bk fb fa fe
  unfold carillonref07_Check.j1 at H
  (try dsimp only at H)
  refine kb _ _ ?_
  refine wp_seq_k (fun jH i6 => ?_)
  have J2 : ∀ (iV : Act) (fO : World) (aD ea eb ec ed ee ef eg eh ei dl ai ak al am an aw aE aI aY aF aJ aZ : Int) (ab : Nat) (aN aO aP aQ aR aS aT aU aV aW ax dm cu bn bo bp bi be ba aK bf bb aL : Int) (ad : Nat) (gt : Bool), carillonref07_Check.j2 k aD ea eb ec ed ee ef eg eh ei dl ai ak al am an aw aE aI aY aF aJ aZ aN aO aP aQ aR aS aT aU aV aW ax dm cu bn bo bp bi be ba aK bf bb aL gt = some r → St 136 [(1, .pointer (some ⟨ab, 0, none⟩)), (3, .pointer (some ⟨ad, 0, none⟩)), (4, .bool gt)] iV → Below w.heap.size w fO → w.heap.size ≤ ab → fO.heap[ab]? = some (.cells (carillonref07_Check.c1 aD ea eb ec ed ee ef eg eh ei dl ai ak al am an aw aE aI aY aF aJ aZ) 28 (0, 0)) → w.heap.size ≤ ad → fO.heap[ad]? = some (.cells (carillonref07_Check.c1 aN aO aP aQ aR aS aT aU aV aW ax dm cu bn bo bp bi be ba aK bf bb aL) 28 (0, 0)) → ad ≠ ab → jH iV fO := by
   intro iV fO aD ea eb ec ed ee ef eg eh ei dl ai ak al am an aw aE aI aY aF aJ aZ ab aN aO aP aQ aR aS aT aU aV aW ax dm cu bn bo bp bi be ba aK bf bb aL ad gt H hS iC fK aC ar dk au
   unfold carillonref07_Check.j2 at H
   (try dsimp only at H)
   refine i6 _ _ ?_
   refine wp_seq_k (fun jI i9 => ?_)
   have J3 : ∀ (iW : Act) (gr : World) (cx cy cz cA cB cC cD cE cF cG bq br bs bt bu bv bw bx bz bA bB bC bD : Int) (fQ : Nat) (cH cI cJ cK cL cM cN cO cP cQ bE bG bH bI bJ bK bL bM bN bO bP bQ bS : Int) (fR : Nat) (fP : Bool), carillonref07_Check.j3 k cx cy cz cA cB cC cD cE cF cG bq br bs bt bu bv bw bx bz bA bB bC bD cH cI cJ cK cL cM cN cO cP cQ bE bG bH bI bJ bK bL bM bN bO bP bQ bS fP = some r → St 136 [(1, .pointer (some ⟨fQ, 0, none⟩)), (3, .pointer (some ⟨fR, 0, none⟩)), (4, .bool fP)] iW → Below w.heap.size w gr → w.heap.size ≤ fQ → gr.heap[fQ]? = some (.cells (carillonref07_Check.c1 cx cy cz cA cB cC cD cE cF cG bq br bs bt bu bv bw bx bz bA bB bC bD) 28 (0, 0)) → w.heap.size ≤ fR → gr.heap[fR]? = some (.cells (carillonref07_Check.c1 cH cI cJ cK cL cM cN cO cP cQ bE bG bH bI bJ bK bL bM bN bO bP bQ bS) 28 (0, 0)) → fR ≠ fQ → jI iW gr := by
    intro iW gr cx cy cz cA cB cC cD cE cF cG bq br bs bt bu bv bw bx bz bA bB bC bD fQ cH cI cJ cK cL cM cN cO cP cQ bE bG bH bI bJ bK bL bM bN bO bP bQ bS fR fP H hS g1 jQ gD jR gE jS
    unfold carillonref07_Check.j3 at H
    (try dsimp only at H)
    refine i9 _ _ ?_
    refine wp_seq_k (fun k6 hE => ?_)
    by_cases c2 : fP = true
    ·rw [if_pos c2] at H
     obtain rfl := Option.some.inj H
     refine reg_seq (I := I2_ w gr) (ps := [VB fP, VB fP, IsV ((carillonref07_Check.v0 cH cI cJ cK cL cM cN cO cP cQ bE bG bH bI bJ bK bL bM bN bO bP bQ bS)), IsV ((carillonref07_Check.v0 cx cy cz cA cB cC cD cE cF cG bq br bs bt bu bv bw bx bz bA bB bC bD)), VB ((cH == cx) && ((cI == cy) && ((cJ == cz) && ((cK == cA) && ((cL == cB) && ((cM == cC) && ((cN == cD) && ((cO == cE) && ((cP == cF) && ((cQ == cG) && ((bE == bq) && ((bG == br) && ((bH == bs) && ((bI == bt) && ((bJ == bu) && ((bK == bv) && ((bL == bw) && ((bM == bx) && ((bN == bz) && ((bO == bA) && ((bP == bB) && ((bQ == bC) && (bS == bD))))))))))))))))))))))), VB ((cH == cx) && ((cI == cy) && ((cJ == cz) && ((cK == cA) && ((cL == cB) && ((cM == cC) && ((cN == cD) && ((cO == cE) && ((cP == cF) && ((cQ == cG) && ((bE == bq) && ((bG == br) && ((bH == bs) && ((bI == bt) && ((bJ == bu) && ((bK == bv) && ((bL == bw) && ((bM == bx) && ((bN == bz) && ((bO == bA) && ((bP == bB) && ((bQ == bC) && (bS == bD))))))))))))))))))))))), VB ((cH == cx) && ((cI == cy) && ((cJ == cz) && ((cK == cA) && ((cL == cB) && ((cM == cC) && ((cN == cD) && ((cO == cE) && ((cP == cF) && ((cQ == cG) && ((bE == bq) && ((bG == br) && ((bH == bs) && ((bI == bt) && ((bJ == bu) && ((bK == bv) && ((bL == bw) && ((bM == bx) && ((bN == bz) && ((bO == bA) && ((bP == bB) && ((bQ == bC) && (bS == bD)))))))))))))))))))))))]) (by kernel_rfl) ?_ ?_ rfl hS ⟨g1, (bR gr)⟩ ?_ ?_
     ·exact bs2
     ·exact .v (.v (.v (.v (.v (.v (.v (.nil)))))))
     ·refine .ms 2 rfl rfl rfl ?_
      refine .mv 0 rfl rfl rfl ?_
      refine .oy 1 131 rfl rfl c2 (fun a w hS hI hp => does_loadrow rfl (hS.get 1 rfl) (((hI.2).block fR (blk_lt gE)).trans gE) Try.underlying28 rfl (by kernel_rfl) rfl) ?_
      refine .oy 1 131 rfl rfl c2 (fun a w hS hI hp => does_loadrow rfl (hS.get 0 rfl) (((hI.2).block fQ (blk_lt gD)).trans gD) Try.underlying28 rfl (by kernel_rfl) rfl) ?_
      refine .oy 1 131 rfl rfl c2 (fun a w hS hI hp => does_val (x_bin rfl (hp.V 2 rfl rfl) (hp.V 3 rfl rfl) (carillonref07_Check.eql28 _ _ _ cH cI cJ cK cL cM cN cO cP cQ bE bG bH bI bJ bK bL bM bN bO bP bQ bS cx cy cz cA cB cC cD cE cF cG bq br bs bt bu bv bw bx bz bA bB bC bD)) rfl) ?_
      refine .pt 1 4 rfl rfl rfl c2 rfl ?_
      refine .asg 5 rfl rfl rfl ?_
      exact .nil
     clear hS
     intro i0 jM hS g0 hp
     replace hS := hS.nil
     have gF : sl _ 2 = .bool ((cH == cx) && ((cI == cy) && ((cJ == cz) && ((cK == cA) && ((cL == cB) && ((cM == cC) && ((cN == cD) && ((cO == cE) && ((cP == cF) && ((cQ == cG) && ((bE == bq) && ((bG == br) && ((bH == bs) && ((bI == bt) && ((bJ == bu) && ((bK == bv) && ((bL == bw) && ((bM == bx) && ((bN == bz) && ((bO == bA) && ((bP == bB) && ((bQ == bC) && (bS == bD))))))))))))))))))))))) := hp 6 (by decide)
     have hS := hS.cons gF
     clear hp gF
     refine hE _ _ ?_
     refine wp_ret ?_
     (try simp only [Exit.then, Exit.inBlock, Exit.jump, Exit.noGoto])
     exact bodyPost_ret (v := .bool ((cH == cx) && ((cI == cy) && ((cJ == cz) && ((cK == cA) && ((cL == cB) && ((cM == cC) && ((cN == cD) && ((cO == cE) && ((cP == cF) && ((cQ == cG) && ((bE == bq) && ((bG == br) && ((bH == bs) && ((bI == bt) && ((bJ == bu) && ((bK == bv) && ((bL == bw) && ((bM == bx) && ((bN == bz) && ((bO == bA) && ((bP == bB) && ((bQ == bC) && (bS == bD)))))))))))))))))))))))) (results_single rfl (Vals.at (hS.get 0 rfl) .nil)) hS.nodef ⟨rfl, g0.1⟩
    rw [if_neg c2] at H
    obtain rfl := Option.some.inj H
    refine reg_seq (I := I2_ w gr) (ps := [VB fP, VB fP, VU, VU, VU, VB false, VB false]) (by kernel_rfl) ?_ ?_ rfl hS ⟨g1, (bR gr)⟩ ?_ ?_
    ·exact bs2
    ·exact .v (.v (.v (.v (.v (.v (.v (.nil)))))))
    ·refine .ms 2 rfl rfl rfl ?_
     refine .mv 0 rfl rfl rfl ?_
     iterate 3 refine .sn 1 131 rfl rfl ((Bool.eq_false_iff.2 c2)) ?_
     refine .pf 1 rfl rfl rfl ((Bool.eq_false_iff.2 c2)) (fun _ => rfl) ?_
     refine .asg 5 rfl rfl rfl ?_
     exact .nil
    clear hS
    intro i0 jM hS g0 hp
    replace hS := hS.nil
    have gF : sl _ 2 = .bool false := hp 6 (by decide)
    have hS := hS.cons gF
    clear hp gF
    refine hE _ _ ?_
    refine wp_ret ?_
    (try simp only [Exit.then, Exit.inBlock, Exit.jump, Exit.noGoto])
    exact bodyPost_ret (v := .bool false) (results_single rfl (Vals.at (hS.get 0 rfl) .nil)) hS.nodef ⟨rfl, g0.1⟩
   refine wp_seq_k (fun k4 ja => ?_)
   refine reg_seq (I := I2_ w fO) (ps := [VP ab 0, VI aD]) (by kernel_rfl) ?_ ?_ rfl hS ⟨iC, (bR fO)⟩ ?_ ?_
   ·exact bs2
   ·exact .v (.v (.nil))
   ·refine .on rfl (fun a w hS hI hp => does_val (x_fieldE (b := 0) rfl (hS.get 0 rfl) Try.underlying28 rfl rfl (by kernel_rfl)) rfl) ?_
    refine .on rfl (fun a w hS hI hp => does_val (x_load1 (d := .int .i64) rfl (hp.V 0 rfl rfl) (by kernel_rfl) rfl ((blk_cell (((hI.2).block ab (blk_lt aC)).trans aC) 0).trans rfl)) rfl) ?_
    exact .nil
   clear hS
   intro kp ic hS hK hp
   have jk : sl _ 48 = .int .i64 aD := hp 1 (by decide)
   have hS := hS.cons jk
   clear hp jk
   refine ja _ _ ?_
   refine wp_block ?_
   refine wp_seq_k (fun k5 jb => ?_)
   refine reg_seq (I := I3_ w fO ic) (ps := [VB (decide (aD = 11)), VB (decide (aD = 11))]) (by kernel_rfl) ?_ ?_ rfl hS ⟨hK.1, hK.2, (bR ic)⟩ ?_ ?_
   ·exact bs3
   ·exact .v (.v (.nil))
   ·refine .on rfl (fun a w hS hI hp => does_val (x_bin rfl (hS.get 0 rfl) (rfl) (b_eql _ _ _ _ _ _)) rfl) ?_
    refine .asg 0 rfl rfl rfl ?_
    exact .nil
   clear hS
   intro kq gK hS gp hp
   have jl : sl _ 49 = .bool (decide (aD = 11)) := hp 1 (by decide)
   have hS := hS.cons jl
   clear hp jl
   refine jb _ _ ?_
   by_cases c2 : aD = 11
   rotate_left
   ·rw [if_neg c2] at H
    refine wp_cond_false ((hS.get 0 rfl).trans (bF (decide_eq_false c2))) ?_
    refine wp_seq_k (fun h4 d8 => ?_)
    refine reg_seq (I := I3_ w fO gK) (ps := [VB (decide (aD = 13)), VB (decide (aD = 13))]) (by kernel_rfl) ?_ ?_ rfl hS ⟨gp.1, gp.2.1, (bR gK)⟩ ?_ ?_
    ·exact bs3
    ·exact .v (.v (.nil))
    ·refine .on rfl (fun a w hS hI hp => does_val (x_bin rfl (hS.get 1 rfl) (rfl) (b_eql _ _ _ _ _ _)) rfl) ?_
     refine .asg 0 rfl rfl rfl ?_
     exact .nil
    clear hS
    intro iZ g5 hS cw hp
    replace hS := (((hS.nil).cons (hS.get 4 rfl)).cons (hS.get 3 rfl)).cons (hS.get 2 rfl)
    have h7 : sl _ 103 = .bool (decide (aD = 13)) := hp 1 (by decide)
    have hS := hS.cons h7
    clear hp h7
    refine d8 _ _ ?_
    by_cases c3 : aD = 13
    rotate_left
    ·rw [if_neg c3] at H
     refine wp_cond_false ((hS.get 0 rfl).trans (bF (decide_eq_false c3))) ?_
     refine wp_skip ?_
     replace hS := (((hS.nil).cons (hS.get 3 rfl)).cons (hS.get 2 rfl)).cons (hS.get 1 rfl)
     (try simp only [Exit.then, Exit.inBlock])
     exact J3 _ _ aD ea eb ec ed ee ef eg eh ei dl ai ak al am an aw aE aI aY aF aJ aZ ab aN aO aP aQ aR aS aT aU aV aW ax dm cu bn bo bp bi be ba aK bf bb aL ad gt H hS cw.1 fK ((cw.2.1.block ab (blk_lt aC)).trans aC) ar ((cw.2.1.block ad (blk_lt dk)).trans dk) au
    rw [if_pos c3] at H
    refine wp_cond_true ((hS.get 0 rfl).trans (bT (decide_eq_true c3))) ?_
    refine wp_seq_k (fun jJ gO => ?_)
    have J5 : ∀ (iY : Act) (fu : World) (eQ eR eS eT eU eV eW eX eY eZ dL dM dN dO dP dQ dR dS dT dU bc bj cv : Int) (ap : Nat) (e0 e1 e2 e3 e4 e5 e6 e7 e8 e9 dV dW dX dY dZ d0 d1 d2 d3 d4 d5 d6 d7 : Int) (cq : Nat) (es : Bool), carillonref07_Check.j5 k eQ eR eS eT eU eV eW eX eY eZ dL dM dN dO dP dQ dR dS dT dU bc bj cv e0 e1 e2 e3 e4 e5 e6 e7 e8 e9 dV dW dX dY dZ d0 d1 d2 d3 d4 d5 d6 d7 es = some r → St 136 [(1, .pointer (some ⟨ap, 0, none⟩)), (3, .pointer (some ⟨cq, 0, none⟩)), (4, .bool es)] iY → Below w.heap.size w fu → w.heap.size ≤ ap → fu.heap[ap]? = some (.cells (carillonref07_Check.c1 eQ eR eS eT eU eV eW eX eY eZ dL dM dN dO dP dQ dR dS dT dU bc bj cv) 28 (0, 0)) → w.heap.size ≤ cq → fu.heap[cq]? = some (.cells (carillonref07_Check.c1 e0 e1 e2 e3 e4 e5 e6 e7 e8 e9 dV dW dX dY dZ d0 d1 d2 d3 d4 d5 d6 d7) 28 (0, 0)) → cq ≠ ap → jJ iY fu := by
     intro iY fu eQ eR eS eT eU eV eW eX eY eZ dL dM dN dO dP dQ dR dS dT dU bc bj cv ap e0 e1 e2 e3 e4 e5 e6 e7 e8 e9 dV dW dX dY dZ d0 d1 d2 d3 d4 d5 d6 d7 cq es H hS fS fc ae fd bl ff
     unfold carillonref07_Check.j5 at H
     (try dsimp only at H)
     by_cases c4 : es = true
     rotate_left
     ·rw [if_neg c4] at H
      refine gO _ _ ?_
      refine reg_seq_tail 16 (I := I2_ w fu) (ps := [VB es, VB es, VU, VU, VU, VB false, VB false, VU, VU, VU, VB false, VB false, VU, VU, VU, VB false]) (by kernel_rfl) ?_ ?_ rfl hS ⟨fS, (bR fu)⟩ ?_ ?_
      ·exact bs2
      ·exact .v (.v (.v (.v (.v (.v (.v (.v (.v (.v (.v (.v (.v (.v (.v (.v (.nil))))))))))))))))
      ·refine .ms 2 rfl rfl rfl ?_
       refine .mv 0 rfl rfl rfl ?_
       iterate 3 refine .sn 1 115 rfl rfl ((Bool.eq_false_iff.2 c4)) ?_
       refine .pf 1 rfl rfl rfl ((Bool.eq_false_iff.2 c4)) (fun _ => rfl) ?_
       refine .mv 5 rfl rfl rfl ?_
       iterate 3 refine .sn 6 120 rfl rfl rfl ?_
       refine .pf 6 rfl rfl rfl rfl (fun _ => rfl) ?_
       refine .mv 10 rfl rfl rfl ?_
       iterate 3 refine .sn 11 125 rfl rfl rfl ?_
       refine .pf 11 rfl rfl rfl rfl (fun _ => rfl) ?_
       exact .nil
      clear hS
      intro kG jO hS hU hp
      have dr : sl _ 129 = .bool false := hp 15 (by decide)
      have hS := hS.cons dr
      clear hp dr
      show wpList _ _ _ [_] _ _
      refine list_step rfl (R := fun v w' => Below _ _ w' ∧ (VB false) v w') (does_val (x_assign rfl (hS.get 0 rfl)) rfl) ?_
      rintro jD iv ⟨hb, he⟩
      have hz := below_step hU.1 hb
      have f1 := below_step hU.2 hb
      have iM := below_step (bR jO) hb
      obtain rfl : jD = .bool false := he
      replace hS := (((hS.nil).cons (hS.get 2 rfl)).cons (hS.get 1 rfl)).cons (hS.get 0 rfl)
      refine hS.next (v := .bool false) (d := 4) rfl (by decide) (by rfl) ?_
      clear hS
      intro i5 hS
      refine wpList_nil ?_
      replace hS := (((hS.nil).cons (hS.get 0 rfl)).cons (hS.get 3 rfl)).cons (hS.get 2 rfl)
      (try simp only [Exit.then, Exit.inBlock])
      exact J3 _ _ eQ eR eS eT eU eV eW eX eY eZ dL dM dN dO dP dQ dR dS dT dU bc bj cv ap e0 e1 e2 e3 e4 e5 e6 e7 e8 e9 dV dW dX dY dZ d0 d1 d2 d3 d4 d5 d6 d7 cq false H hS hz fc ((f1.block ap (blk_lt ae)).trans ae) fd ((f1.block cq (blk_lt bl)).trans bl) ff
     rw [if_pos c4] at H
     obtain ⟨ct, gM, H⟩ := Option.bind_eq_some_iff.mp H
     by_cases c5 : ct = true
     rotate_left
     ·rw [if_neg c5] at H
      refine gO _ _ ?_
      refine reg_seq_tail 16 (I := I2_ w fu) (ps := [VB es, VB es, VP ap 20, VI bc, VB ct, VB ct, VB ct, VU, VU, VU, VB false, VB false, VU, VU, VU, VB false]) (by kernel_rfl) ?_ ?_ rfl hS ⟨fS, (bR fu)⟩ ?_ ?_
      ·exact bs2
      ·exact .v (.v (.v (.v (.v (.v (.v (.v (.v (.v (.v (.v (.v (.v (.v (.v (.nil))))))))))))))))
      ·refine .ms 2 rfl rfl rfl ?_
       refine .mv 0 rfl rfl rfl ?_
       refine .oy 1 115 rfl rfl c4 (fun a w hS hI hp => does_val (x_fieldE (b := 0) rfl (hS.get 0 rfl) Try.underlying28 rfl rfl (by kernel_rfl)) rfl) ?_
       refine .oy 1 115 rfl rfl c4 (fun a w hS hI hp => does_val (x_load1 (d := .int .i64) rfl (hp.V 2 rfl rfl) (by kernel_rfl) rfl ((blk_cell (((hI.2).block ap (blk_lt ae)).trans ae) 20).trans rfl)) rfl) ?_
       refine .oy 1 115 rfl rfl c4 (fun a w hS hI hp => does_call (by kernel_rfl) (ar3 (hp.V 3 rfl rfl) (rfl) (rfl)) ((carillonref05_In.calls bc 0 255 ct _  gM).mono fun _ _ h => ⟨_, h.1, h.2.below, rfl⟩)) ?_
       refine .pt 1 4 rfl rfl rfl c4 rfl ?_
       refine .mv 5 rfl rfl rfl ?_
       iterate 3 refine .sn 6 120 rfl rfl ((Bool.eq_false_iff.2 c5)) ?_
       refine .pf 6 rfl rfl rfl ((Bool.eq_false_iff.2 c5)) (fun _ => rfl) ?_
       refine .mv 10 rfl rfl rfl ?_
       iterate 3 refine .sn 11 125 rfl rfl rfl ?_
       refine .pf 11 rfl rfl rfl rfl (fun _ => rfl) ?_
       exact .nil
      clear hS
      intro kH iv hS hV hp
      have dr : sl _ 129 = .bool false := hp 15 (by decide)
      have hS := hS.cons dr
      clear hp dr
      show wpList _ _ _ [_] _ _
      refine list_step rfl (R := fun v w' => Below _ _ w' ∧ (VB false) v w') (does_val (x_assign rfl (hS.get 0 rfl)) rfl) ?_
      rintro jE iw ⟨hb, he⟩
      have hA := below_step hV.1 hb
      have f2 := below_step hV.2 hb
      have iN := below_step (bR iv) hb
      obtain rfl : jE = .bool false := he
      replace hS := (((hS.nil).cons (hS.get 2 rfl)).cons (hS.get 1 rfl)).cons (hS.get 0 rfl)
      refine hS.next (v := .bool false) (d := 4) rfl (by decide) (by rfl) ?_
      clear hS
      intro kJ hS
      refine wpList_nil ?_
      replace hS := (((hS.nil).cons (hS.get 0 rfl)).cons (hS.get 3 rfl)).cons (hS.get 2 rfl)
      (try simp only [Exit.then, Exit.inBlock])
      exact J3 _ _ eQ eR eS eT eU eV eW eX eY eZ dL dM dN dO dP dQ dR dS dT dU bc bj cv ap e0 e1 e2 e3 e4 e5 e6 e7 e8 e9 dV dW dX dY dZ d0 d1 d2 d3 d4 d5 d6 d7 cq false H hS hA fc ((f2.block ap (blk_lt ae)).trans ae) fd ((f2.block cq (blk_lt bl)).trans bl) ff
     rw [if_pos c5] at H
     obtain ⟨eu, g9, H⟩ := Option.bind_eq_some_iff.mp H
     refine gO _ _ ?_
     by_cases c6 : eu = true
     rotate_left
     ·rw [if_neg c6] at H
      refine reg_seq_tail 16 (I := I2_ w fu) (ps := [VB es, VB es, VP ap 20, VI bc, VB ct, VB ct, VB ct, VP ap 21, VI bj, VB eu, VB eu, VB eu, VU, VU, VU, VB false]) (by kernel_rfl) ?_ ?_ rfl hS ⟨fS, (bR fu)⟩ ?_ ?_
      ·exact bs2
      ·exact .v (.v (.v (.v (.v (.v (.v (.v (.v (.v (.v (.v (.v (.v (.v (.v (.nil))))))))))))))))
      ·refine .ms 2 rfl rfl rfl ?_
       refine .mv 0 rfl rfl rfl ?_
       refine .oy 1 115 rfl rfl c4 (fun a w hS hI hp => does_val (x_fieldE (b := 0) rfl (hS.get 0 rfl) Try.underlying28 rfl rfl (by kernel_rfl)) rfl) ?_
       refine .oy 1 115 rfl rfl c4 (fun a w hS hI hp => does_val (x_load1 (d := .int .i64) rfl (hp.V 2 rfl rfl) (by kernel_rfl) rfl ((blk_cell (((hI.2).block ap (blk_lt ae)).trans ae) 20).trans rfl)) rfl) ?_
       refine .oy 1 115 rfl rfl c4 (fun a w hS hI hp => does_call (by kernel_rfl) (ar3 (hp.V 3 rfl rfl) (rfl) (rfl)) ((carillonref05_In.calls bc 0 255 ct _  gM).mono fun _ _ h => ⟨_, h.1, h.2.below, rfl⟩)) ?_
       refine .pt 1 4 rfl rfl rfl c4 rfl ?_
       refine .mv 5 rfl rfl rfl ?_
       refine .oy 6 120 rfl rfl c5 (fun a w hS hI hp => does_val (x_fieldE (b := 0) rfl (hS.get 0 rfl) Try.underlying28 rfl rfl (by kernel_rfl)) rfl) ?_
       refine .oy 6 120 rfl rfl c5 (fun a w hS hI hp => does_val (x_load1 (d := .int .i64) rfl (hp.V 7 rfl rfl) (by kernel_rfl) rfl ((blk_cell (((hI.2).block ap (blk_lt ae)).trans ae) 21).trans rfl)) rfl) ?_
       refine .oy 6 120 rfl rfl c5 (fun a w hS hI hp => does_call (by kernel_rfl) (ar3 (hp.V 8 rfl rfl) (rfl) (rfl)) ((carillonref05_In.calls bj 0 255 eu _  g9).mono fun _ _ h => ⟨_, h.1, h.2.below, rfl⟩)) ?_
       refine .pt 6 9 rfl rfl rfl c5 rfl ?_
       refine .mv 10 rfl rfl rfl ?_
       iterate 3 refine .sn 11 125 rfl rfl ((Bool.eq_false_iff.2 c6)) ?_
       refine .pf 11 rfl rfl rfl ((Bool.eq_false_iff.2 c6)) (fun _ => rfl) ?_
       exact .nil
      clear hS
      intro kI iw hS hW hp
      have dr : sl _ 129 = .bool false := hp 15 (by decide)
      have hS := hS.cons dr
      clear hp dr
      show wpList _ _ _ [_] _ _
      refine list_step rfl (R := fun v w' => Below _ _ w' ∧ (VB false) v w') (does_val (x_assign rfl (hS.get 0 rfl)) rfl) ?_
      rintro jF ix ⟨hb, he⟩
      have hB := below_step hW.1 hb
      have f3 := below_step hW.2 hb
      have iO := below_step (bR iw) hb
      obtain rfl : jF = .bool false := he
      replace hS := (((hS.nil).cons (hS.get 2 rfl)).cons (hS.get 1 rfl)).cons (hS.get 0 rfl)
      refine hS.next (v := .bool false) (d := 4) rfl (by decide) (by rfl) ?_
      clear hS
      intro kK hS
      refine wpList_nil ?_
      replace hS := (((hS.nil).cons (hS.get 0 rfl)).cons (hS.get 3 rfl)).cons (hS.get 2 rfl)
      (try simp only [Exit.then, Exit.inBlock])
      exact J3 _ _ eQ eR eS eT eU eV eW eX eY eZ dL dM dN dO dP dQ dR dS dT dU bc bj cv ap e0 e1 e2 e3 e4 e5 e6 e7 e8 e9 dV dW dX dY dZ d0 d1 d2 d3 d4 d5 d6 d7 cq false H hS hB fc ((f3.block ap (blk_lt ae)).trans ae) fd ((f3.block cq (blk_lt bl)).trans bl) ff
     rw [if_pos c6] at H
     obtain ⟨fi, iT, H⟩ := Option.bind_eq_some_iff.mp H
     refine reg_seq_tail 16 (I := I2_ w fu) (ps := [VB es, VB es, VP ap 20, VI bc, VB ct, VB ct, VB ct, VP ap 21, VI bj, VB eu, VB eu, VB eu, VP ap 22, VI cv, VB fi, VB fi]) (by kernel_rfl) ?_ ?_ rfl hS ⟨fS, (bR fu)⟩ ?_ ?_
     ·exact bs2
     ·exact .v (.v (.v (.v (.v (.v (.v (.v (.v (.v (.v (.v (.v (.v (.v (.v (.nil))))))))))))))))
     ·refine .ms 2 rfl rfl rfl ?_
      refine .mv 0 rfl rfl rfl ?_
      refine .oy 1 115 rfl rfl c4 (fun a w hS hI hp => does_val (x_fieldE (b := 0) rfl (hS.get 0 rfl) Try.underlying28 rfl rfl (by kernel_rfl)) rfl) ?_
      refine .oy 1 115 rfl rfl c4 (fun a w hS hI hp => does_val (x_load1 (d := .int .i64) rfl (hp.V 2 rfl rfl) (by kernel_rfl) rfl ((blk_cell (((hI.2).block ap (blk_lt ae)).trans ae) 20).trans rfl)) rfl) ?_
      refine .oy 1 115 rfl rfl c4 (fun a w hS hI hp => does_call (by kernel_rfl) (ar3 (hp.V 3 rfl rfl) (rfl) (rfl)) ((carillonref05_In.calls bc 0 255 ct _  gM).mono fun _ _ h => ⟨_, h.1, h.2.below, rfl⟩)) ?_
      refine .pt 1 4 rfl rfl rfl c4 rfl ?_
      refine .mv 5 rfl rfl rfl ?_
      refine .oy 6 120 rfl rfl c5 (fun a w hS hI hp => does_val (x_fieldE (b := 0) rfl (hS.get 0 rfl) Try.underlying28 rfl rfl (by kernel_rfl)) rfl) ?_
      refine .oy 6 120 rfl rfl c5 (fun a w hS hI hp => does_val (x_load1 (d := .int .i64) rfl (hp.V 7 rfl rfl) (by kernel_rfl) rfl ((blk_cell (((hI.2).block ap (blk_lt ae)).trans ae) 21).trans rfl)) rfl) ?_
      refine .oy 6 120 rfl rfl c5 (fun a w hS hI hp => does_call (by kernel_rfl) (ar3 (hp.V 8 rfl rfl) (rfl) (rfl)) ((carillonref05_In.calls bj 0 255 eu _  g9).mono fun _ _ h => ⟨_, h.1, h.2.below, rfl⟩)) ?_
      refine .pt 6 9 rfl rfl rfl c5 rfl ?_
      refine .mv 10 rfl rfl rfl ?_
      refine .oy 11 125 rfl rfl c6 (fun a w hS hI hp => does_val (x_fieldE (b := 0) rfl (hS.get 0 rfl) Try.underlying28 rfl rfl (by kernel_rfl)) rfl) ?_
      refine .oy 11 125 rfl rfl c6 (fun a w hS hI hp => does_val (x_load1 (d := .int .i64) rfl (hp.V 12 rfl rfl) (by kernel_rfl) rfl ((blk_cell (((hI.2).block ap (blk_lt ae)).trans ae) 22).trans rfl)) rfl) ?_
      refine .oy 11 125 rfl rfl c6 (fun a w hS hI hp => does_call (by kernel_rfl) (ar3 (hp.V 13 rfl rfl) (rfl) (rfl)) ((carillonref05_In.calls cv 0 15 fi _  iT).mono fun _ _ h => ⟨_, h.1, h.2.below, rfl⟩)) ?_
      refine .pt 11 14 rfl rfl rfl c6 rfl ?_
      exact .nil
     clear hS
     intro i5 ix hS hX hp
     have dr : sl _ 129 = .bool fi := hp 15 (by decide)
     have hS := hS.cons dr
     clear hp dr
     show wpList _ _ _ [_] _ _
     refine list_step rfl (R := fun v w' => Below _ _ w' ∧ (VB fi) v w') (does_val (x_assign rfl (hS.get 0 rfl)) rfl) ?_
     rintro jG lh ⟨hb, he⟩
     have hD := below_step hX.1 hb
     have f4 := below_step hX.2 hb
     have iP := below_step (bR ix) hb
     obtain rfl : jG = .bool fi := he
     replace hS := (((hS.nil).cons (hS.get 2 rfl)).cons (hS.get 1 rfl)).cons (hS.get 0 rfl)
     refine hS.next (v := .bool fi) (d := 4) rfl (by decide) (by rfl) ?_
     clear hS
     intro kL hS
     refine wpList_nil ?_
     replace hS := (((hS.nil).cons (hS.get 0 rfl)).cons (hS.get 3 rfl)).cons (hS.get 2 rfl)
     (try simp only [Exit.then, Exit.inBlock])
     exact J3 _ _ eQ eR eS eT eU eV eW eX eY eZ dL dM dN dO dP dQ dR dS dT dU bc bj cv ap e0 e1 e2 e3 e4 e5 e6 e7 e8 e9 dV dW dX dY dZ d0 d1 d2 d3 d4 d5 d6 d7 cq fi H hS hD fc ((f4.block ap (blk_lt ae)).trans ae) fd ((f4.block cq (blk_lt bl)).trans bl) ff
    refine reg_float (I := I3_ w fO g5) (C := fun x => x.heap[ab]? = some (.cells (carillonref07_Check.c1 aD ea eb ec ed ee ef eg eh ei dl ai ak al am an aw aE aI aY aF aJ aZ) 28 (0, 0))) [true, true, true, true, true, true, true, false, false, false, false, false] [.pointer (some ⟨ab, 20, none⟩), .int .i64 aF, .pointer (some ⟨ab, 21, none⟩), .int .i64 aJ, .pointer (some ⟨ab, 22, none⟩), .int .i64 aZ, .pointer (some ⟨ad, 20, none⟩), undef, undef, undef, undef, undef] [0, 1, 0, 4, 0, 16, 3, 67, 207, 463, 1023, 2047] (by kernel_rfl) (by kernel_rfl) rfl ?_ ?_ hS ⟨cw.1, cw.2.1, (bR g5)⟩ ?_ ?_
    ·exact bs3
    ·exact fun x hI => ((hI.2.1.block ab (blk_lt aC)).trans aC)
    ·intro a hS hp
     refine .g (fun w hC => GRun.on rfl (x_fieldE (b := 0) rfl (hS.get 1 rfl) Try.underlying28 rfl rfl (by kernel_rfl))) ?_
     refine .g (fun w hC => GRun.on rfl (x_load1 (d := .int .i64) rfl ((hp.get 0 rfl rfl rfl)) (by kernel_rfl) rfl ((blk_cell ((((Below.refl _ _)).block ab (blk_lt hC)).trans hC) 20).trans rfl))) ?_
     refine .g (fun w hC => GRun.on rfl (x_fieldE (b := 0) rfl (hS.get 1 rfl) Try.underlying28 rfl rfl (by kernel_rfl))) ?_
     refine .g (fun w hC => GRun.on rfl (x_load1 (d := .int .i64) rfl ((hp.get 2 rfl rfl rfl)) (by kernel_rfl) rfl ((blk_cell ((((Below.refl _ _)).block ab (blk_lt hC)).trans hC) 21).trans rfl))) ?_
     refine .g (fun w hC => GRun.on rfl (x_fieldE (b := 0) rfl (hS.get 1 rfl) Try.underlying28 rfl rfl (by kernel_rfl))) ?_
     refine .g (fun w hC => GRun.on rfl (x_load1 (d := .int .i64) rfl ((hp.get 4 rfl rfl rfl)) (by kernel_rfl) rfl ((blk_cell ((((Below.refl _ _)).block ab (blk_lt hC)).trans hC) 22).trans rfl))) ?_
     refine .g (fun w hC => GRun.on rfl (x_fieldE (b := 0) rfl (hS.get 2 rfl) Try.underlying28 rfl rfl (by kernel_rfl))) ?_
     iterate 5 refine .t ?_
     exact .nil
    clear hS
    intro kr jL hS hp gq
    have hS := hS.cons (show sl _ 106 = .int .i64 aF from hp.get 1 rfl rfl rfl)
    have hS := hS.cons (show sl _ 108 = .int .i64 aJ from hp.get 3 rfl rfl rfl)
    have hS := hS.cons (show sl _ 110 = .int .i64 aZ from hp.get 5 rfl rfl rfl)
    have hS := hS.cons (show sl _ 111 = .pointer (some ⟨ad, 20, none⟩) from hp.get 6 rfl rfl rfl)
    clear hp
    show ListC _ _ _ _ [_, _, _, _, _] _ _
    refine lc_step rfl (does_store (g := ad) (off := 20) (v := .int .i64 aF) (new := (carillonref07_Check.c1 aN aO aP aQ aR aS aT aU aV aW ax dm cu bn bo bp bi be ba aK aF bb aL)) rfl (hS.get 0 rfl) (hS.get 3 rfl) ((gq.2.1.block ad (blk_lt dk)).trans dk) (by kernel_rfl) (by kernel_rfl) (by kernel_rfl) (by kernel_rfl)) ?_
    rintro kS ig ⟨rfl, gQ, hT⟩
    have fm := hT.blk ((gq.2.1.block ab (blk_lt aC)).trans aC) (Ne.symm au)
    have hg := hT.below gq.1 ar (gq.1).size
    clear hT
    refine ⟨(((bR ig).block ab (blk_lt fm)).trans fm), ?_⟩
    refine lc_step rfl (R := fun v w' => Below _ _ w' ∧ (VP ad 21) v w') (does_val (x_fieldE (b := 0) rfl (hS.get 6 rfl) Try.underlying28 rfl rfl (by kernel_rfl)) rfl) ?_
    rintro jp k9 ⟨hb, he⟩
    have gw := below_step hg hb
    have el := below_step (bR ig) hb
    obtain rfl : jp = .pointer (some ⟨ad, 21, none⟩) := he
    refine ⟨((el.block ab (blk_lt fm)).trans fm), ?_⟩
    refine hS.nextC (v := .pointer (some ⟨ad, 21, none⟩)) (d := 112) rfl (by decide) (by rfl) ?_
    clear hS
    intro kt hS
    refine lc_step rfl (does_store (g := ad) (off := 21) (v := .int .i64 aJ) (new := (carillonref07_Check.c1 aN aO aP aQ aR aS aT aU aV aW ax dm cu bn bo bp bi be ba aK aF aJ aL)) rfl (hS.get 0 rfl) (hS.get 3 rfl) ((el.block ad (blk_lt gQ)).trans gQ) (by kernel_rfl) (by kernel_rfl) (by kernel_rfl) (by kernel_rfl)) ?_
    rintro kU ii ⟨rfl, gS, hT⟩
    have fp := hT.blk ((el.block ab (blk_lt fm)).trans fm) (Ne.symm au)
    have hi := hT.below gw ar (gw).size
    clear hT
    refine ⟨(((bR ii).block ab (blk_lt fp)).trans fp), ?_⟩
    refine lc_step rfl (R := fun v w' => Below _ _ w' ∧ (VP ad 22) v w') (does_val (x_fieldE (b := 0) rfl (hS.get 7 rfl) Try.underlying28 rfl rfl (by kernel_rfl)) rfl) ?_
    rintro jr lb ⟨hb, he⟩
    have gy := below_step hi hb
    have en := below_step (bR ii) hb
    obtain rfl : jr = .pointer (some ⟨ad, 22, none⟩) := he
    refine ⟨((en.block ab (blk_lt fp)).trans fp), ?_⟩
    refine hS.nextC (v := .pointer (some ⟨ad, 22, none⟩)) (d := 113) rfl (by decide) (by rfl) ?_
    clear hS
    intro kv hS
    refine lc_step rfl (does_store (g := ad) (off := 22) (v := .int .i64 aZ) (new := (carillonref07_Check.c1 aN aO aP aQ aR aS aT aU aV aW ax dm cu bn bo bp bi be ba aK aF aJ aZ)) rfl (hS.get 0 rfl) (hS.get 3 rfl) ((en.block ad (blk_lt gS)).trans gS) (by kernel_rfl) (by kernel_rfl) (by kernel_rfl) (by kernel_rfl)) ?_
    rintro kW g6 ⟨rfl, gU, hT⟩
    have gm := hT.blk ((en.block ab (blk_lt fp)).trans fp) (Ne.symm au)
    have hk := hT.below gy ar (gy).size
    clear hT
    refine ⟨(((bR g6).block ab (blk_lt gm)).trans gm), ?_⟩
    refine lc_nil ?_
    replace hS := (((hS.nil).cons (hS.get 9 rfl)).cons (hS.get 8 rfl)).cons (hS.get 7 rfl)
    (try simp only [Exit.then, Exit.inBlock])
    exact J5 _ _ aD ea eb ec ed ee ef eg eh ei dl ai ak al am an aw aE aI aY aF aJ aZ ab aN aO aP aQ aR aS aT aU aV aW ax dm cu bn bo bp bi be ba aK aF aJ aZ ad gt H hS hk fK (((bR g6).block ab (blk_lt gm)).trans gm) ar (((bR g6).block ad (blk_lt gU)).trans gU) au
   rw [if_pos c2] at H
   refine wp_cond_true ((hS.get 0 rfl).trans (bT (decide_eq_true c2))) ?_
   refine wp_seq_k (fun h4 d8 => ?_)
   have J4 : ∀ (iX : Act) (ds : World) (cR cS cT cU cV cW cX cY cZ c0 bU af ag ay az aA ao bV bg aB bW bX bY : Int) (ac : Nat) (c9 da db dc dd de df dg dh di bZ ca cb cc cd ce cf cg ch ci cj ck cl : Int) (aX : Nat) (cm : Bool), carillonref07_Check.j4 k cR cS cT cU cV cW cX cY cZ c0 bU af ag ay az aA ao bV bg aB bW bX bY c9 da db dc dd de df dg dh di bZ ca cb cc cd ce cf cg ch ci cj ck cl cm = some r → St 136 [(1, .pointer (some ⟨ac, 0, none⟩)), (3, .pointer (some ⟨aX, 0, none⟩)), (4, .bool cm)] iX → Below w.heap.size w ds → w.heap.size ≤ ac → ds.heap[ac]? = some (.cells (carillonref07_Check.c1 cR cS cT cU cV cW cX cY cZ c0 bU af ag ay az aA ao bV bg aB bW bX bY) 28 (0, 0)) → w.heap.size ≤ aX → ds.heap[aX]? = some (.cells (carillonref07_Check.c1 c9 da db dc dd de df dg dh di bZ ca cb cc cd ce cf cg ch ci cj ck cl) 28 (0, 0)) → aX ≠ ac → h4 iX ds := by
    intro iX ds cR cS cT cU cV cW cX cY cZ c0 bU af ag ay az aA ao bV bg aB bW bX bY ac c9 da db dc dd de df dg dh di bZ ca cb cc cd ce cf cg ch ci cj ck cl aX cm H hS dy cn aa co aj cp
    unfold carillonref07_Check.j4 at H
    (try dsimp only at H)
    by_cases c3 : cm = true
    rotate_left
    ·rw [if_neg c3] at H
     refine d8 _ _ ?_
     refine reg_seq_tail 31 (I := I2_ w ds) (ps := [VB cm, VB cm, VU, VU, VU, VB false, VB false, VU, VU, VU, VB false, VB false, VU, VU, VU, VB false, VB false, VU, VU, VU, VB false, VB false, VU, VU, VU, VB false, VB false, VU, VU, VU, VB false]) (by kernel_rfl) ?_ ?_ rfl hS ⟨dy, (bR ds)⟩ ?_ ?_
     ·exact bs2
     ·exact .v (.v (.v (.v (.v (.v (.v (.v (.v (.v (.v (.v (.v (.v (.v (.v (.v (.v (.v (.v (.v (.v (.v (.v (.v (.v (.v (.v (.v (.v (.v (.nil)))))))))))))))))))))))))))))))
     ·refine .ms 2 rfl rfl rfl ?_
      refine .mv 0 rfl rfl rfl ?_
      iterate 3 refine .sn 1 73 rfl rfl ((Bool.eq_false_iff.2 c3)) ?_
      refine .pf 1 rfl rfl rfl ((Bool.eq_false_iff.2 c3)) (fun _ => rfl) ?_
      refine .mv 5 rfl rfl rfl ?_
      iterate 3 refine .sn 6 78 rfl rfl rfl ?_
      refine .pf 6 rfl rfl rfl rfl (fun _ => rfl) ?_
      refine .mv 10 rfl rfl rfl ?_
      iterate 3 refine .sn 11 83 rfl rfl rfl ?_
      refine .pf 11 rfl rfl rfl rfl (fun _ => rfl) ?_
      refine .mv 15 rfl rfl rfl ?_
      iterate 3 refine .sn 16 88 rfl rfl rfl ?_
      refine .pf 16 rfl rfl rfl rfl (fun _ => rfl) ?_
      refine .mv 20 rfl rfl rfl ?_
      iterate 3 refine .sn 21 93 rfl rfl rfl ?_
      refine .pf 21 rfl rfl rfl rfl (fun _ => rfl) ?_
      refine .mv 25 rfl rfl rfl ?_
      iterate 3 refine .sn 26 98 rfl rfl rfl ?_
      refine .pf 26 rfl rfl rfl rfl (fun _ => rfl) ?_
      exact .nil
     clear hS
     intro kA jN hS hL hp
     have aH : sl _ 102 = .bool false := hp 30 (by decide)
     have hS := hS.cons aH
     clear hp aH
     show wpList _ _ _ [_] _ _
     refine list_step rfl (R := fun v w' => Below _ _ w' ∧ (VB false) v w') (does_val (x_assign rfl (hS.get 0 rfl)) rfl) ?_
     rintro jw io ⟨hb, he⟩
     have hr := below_step hL.1 hb
     have fU := below_step hL.2 hb
     have iF := below_step (bR jN) hb
     obtain rfl : jw = .bool false := he
     replace hS := (((hS.nil).cons (hS.get 2 rfl)).cons (hS.get 1 rfl)).cons (hS.get 0 rfl)
     refine hS.next (v := .bool false) (d := 4) rfl (by decide) (by rfl) ?_
     clear hS
     intro i1 hS
     refine wpList_nil ?_
     replace hS := (((hS.nil).cons (hS.get 0 rfl)).cons (hS.get 3 rfl)).cons (hS.get 2 rfl)
     (try simp only [Exit.then, Exit.inBlock])
     exact J3 _ _ cR cS cT cU cV cW cX cY cZ c0 bU af ag ay az aA ao bV bg aB bW bX bY ac c9 da db dc dd de df dg dh di bZ ca cb cc cd ce cf cg ch ci cj ck cl aX false H hS hr cn ((fU.block ac (blk_lt aa)).trans aa) co ((fU.block aX (blk_lt aj)).trans aj) cp
    rw [if_pos c3] at H
    obtain ⟨aq, fj, H⟩ := Option.bind_eq_some_iff.mp H
    by_cases c4 : aq = true
    rotate_left
    ·rw [if_neg c4] at H
     refine d8 _ _ ?_
     refine reg_seq_tail 31 (I := I2_ w ds) (ps := [VB cm, VB cm, VP ac 11, VI af, VB aq, VB aq, VB aq, VU, VU, VU, VB false, VB false, VU, VU, VU, VB false, VB false, VU, VU, VU, VB false, VB false, VU, VU, VU, VB false, VB false, VU, VU, VU, VB false]) (by kernel_rfl) ?_ ?_ rfl hS ⟨dy, (bR ds)⟩ ?_ ?_
     ·exact bs2
     ·exact .v (.v (.v (.v (.v (.v (.v (.v (.v (.v (.v (.v (.v (.v (.v (.v (.v (.v (.v (.v (.v (.v (.v (.v (.v (.v (.v (.v (.v (.v (.v (.nil)))))))))))))))))))))))))))))))
     ·refine .ms 2 rfl rfl rfl ?_
      refine .mv 0 rfl rfl rfl ?_
      refine .oy 1 73 rfl rfl c3 (fun a w hS hI hp => does_val (x_fieldE (b := 0) rfl (hS.get 0 rfl) Try.underlying28 rfl rfl (by kernel_rfl)) rfl) ?_
      refine .oy 1 73 rfl rfl c3 (fun a w hS hI hp => does_val (x_load1 (d := .int .i64) rfl (hp.V 2 rfl rfl) (by kernel_rfl) rfl ((blk_cell (((hI.2).block ac (blk_lt aa)).trans aa) 11).trans rfl)) rfl) ?_
      refine .oy 1 73 rfl rfl c3 (fun a w hS hI hp => does_call (by kernel_rfl) (ar3 (hp.V 3 rfl rfl) (rfl) (rfl)) ((carillonref05_In.calls af (-32768) 32767 aq _  fj).mono fun _ _ h => ⟨_, h.1, h.2.below, rfl⟩)) ?_
      refine .pt 1 4 rfl rfl rfl c3 rfl ?_
      refine .mv 5 rfl rfl rfl ?_
      iterate 3 refine .sn 6 78 rfl rfl ((Bool.eq_false_iff.2 c4)) ?_
      refine .pf 6 rfl rfl rfl ((Bool.eq_false_iff.2 c4)) (fun _ => rfl) ?_
      refine .mv 10 rfl rfl rfl ?_
      iterate 3 refine .sn 11 83 rfl rfl rfl ?_
      refine .pf 11 rfl rfl rfl rfl (fun _ => rfl) ?_
      refine .mv 15 rfl rfl rfl ?_
      iterate 3 refine .sn 16 88 rfl rfl rfl ?_
      refine .pf 16 rfl rfl rfl rfl (fun _ => rfl) ?_
      refine .mv 20 rfl rfl rfl ?_
      iterate 3 refine .sn 21 93 rfl rfl rfl ?_
      refine .pf 21 rfl rfl rfl rfl (fun _ => rfl) ?_
      refine .mv 25 rfl rfl rfl ?_
      iterate 3 refine .sn 26 98 rfl rfl rfl ?_
      refine .pf 26 rfl rfl rfl rfl (fun _ => rfl) ?_
      exact .nil
     clear hS
     intro kB io hS hM hp
     have aH : sl _ 102 = .bool false := hp 30 (by decide)
     have hS := hS.cons aH
     clear hp aH
     show wpList _ _ _ [_] _ _
     refine list_step rfl (R := fun v w' => Below _ _ w' ∧ (VB false) v w') (does_val (x_assign rfl (hS.get 0 rfl)) rfl) ?_
     rintro jx ip ⟨hb, he⟩
     have hs := below_step hM.1 hb
     have fV := below_step hM.2 hb
     have iG := below_step (bR io) hb
     obtain rfl : jx = .bool false := he
     replace hS := (((hS.nil).cons (hS.get 2 rfl)).cons (hS.get 1 rfl)).cons (hS.get 0 rfl)
     refine hS.next (v := .bool false) (d := 4) rfl (by decide) (by rfl) ?_
     clear hS
     intro i2 hS
     refine wpList_nil ?_
     replace hS := (((hS.nil).cons (hS.get 0 rfl)).cons (hS.get 3 rfl)).cons (hS.get 2 rfl)
     (try simp only [Exit.then, Exit.inBlock])
     exact J3 _ _ cR cS cT cU cV cW cX cY cZ c0 bU af ag ay az aA ao bV bg aB bW bX bY ac c9 da db dc dd de df dg dh di bZ ca cb cc cd ce cf cg ch ci cj ck cl aX false H hS hs cn ((fV.block ac (blk_lt aa)).trans aa) co ((fV.block aX (blk_lt aj)).trans aj) cp
    rw [if_pos c4] at H
    obtain ⟨aG, fH, H⟩ := Option.bind_eq_some_iff.mp H
    by_cases c5 : aG = true
    rotate_left
    ·rw [if_neg c5] at H
     refine d8 _ _ ?_
     refine reg_seq_tail 31 (I := I2_ w ds) (ps := [VB cm, VB cm, VP ac 11, VI af, VB aq, VB aq, VB aq, VP ac 12, VI ag, VB aG, VB aG, VB aG, VU, VU, VU, VB false, VB false, VU, VU, VU, VB false, VB false, VU, VU, VU, VB false, VB false, VU, VU, VU, VB false]) (by kernel_rfl) ?_ ?_ rfl hS ⟨dy, (bR ds)⟩ ?_ ?_
     ·exact bs2
     ·exact .v (.v (.v (.v (.v (.v (.v (.v (.v (.v (.v (.v (.v (.v (.v (.v (.v (.v (.v (.v (.v (.v (.v (.v (.v (.v (.v (.v (.v (.v (.v (.nil)))))))))))))))))))))))))))))))
     ·refine .ms 2 rfl rfl rfl ?_
      refine .mv 0 rfl rfl rfl ?_
      refine .oy 1 73 rfl rfl c3 (fun a w hS hI hp => does_val (x_fieldE (b := 0) rfl (hS.get 0 rfl) Try.underlying28 rfl rfl (by kernel_rfl)) rfl) ?_
      refine .oy 1 73 rfl rfl c3 (fun a w hS hI hp => does_val (x_load1 (d := .int .i64) rfl (hp.V 2 rfl rfl) (by kernel_rfl) rfl ((blk_cell (((hI.2).block ac (blk_lt aa)).trans aa) 11).trans rfl)) rfl) ?_
      refine .oy 1 73 rfl rfl c3 (fun a w hS hI hp => does_call (by kernel_rfl) (ar3 (hp.V 3 rfl rfl) (rfl) (rfl)) ((carillonref05_In.calls af (-32768) 32767 aq _  fj).mono fun _ _ h => ⟨_, h.1, h.2.below, rfl⟩)) ?_
      refine .pt 1 4 rfl rfl rfl c3 rfl ?_
      refine .mv 5 rfl rfl rfl ?_
      refine .oy 6 78 rfl rfl c4 (fun a w hS hI hp => does_val (x_fieldE (b := 0) rfl (hS.get 0 rfl) Try.underlying28 rfl rfl (by kernel_rfl)) rfl) ?_
      refine .oy 6 78 rfl rfl c4 (fun a w hS hI hp => does_val (x_load1 (d := .int .i64) rfl (hp.V 7 rfl rfl) (by kernel_rfl) rfl ((blk_cell (((hI.2).block ac (blk_lt aa)).trans aa) 12).trans rfl)) rfl) ?_
      refine .oy 6 78 rfl rfl c4 (fun a w hS hI hp => does_call (by kernel_rfl) (ar3 (hp.V 8 rfl rfl) (rfl) (rfl)) ((carillonref05_In.calls ag 0 255 aG _  fH).mono fun _ _ h => ⟨_, h.1, h.2.below, rfl⟩)) ?_
      refine .pt 6 9 rfl rfl rfl c4 rfl ?_
      refine .mv 10 rfl rfl rfl ?_
      iterate 3 refine .sn 11 83 rfl rfl ((Bool.eq_false_iff.2 c5)) ?_
      refine .pf 11 rfl rfl rfl ((Bool.eq_false_iff.2 c5)) (fun _ => rfl) ?_
      refine .mv 15 rfl rfl rfl ?_
      iterate 3 refine .sn 16 88 rfl rfl rfl ?_
      refine .pf 16 rfl rfl rfl rfl (fun _ => rfl) ?_
      refine .mv 20 rfl rfl rfl ?_
      iterate 3 refine .sn 21 93 rfl rfl rfl ?_
      refine .pf 21 rfl rfl rfl rfl (fun _ => rfl) ?_
      refine .mv 25 rfl rfl rfl ?_
      iterate 3 refine .sn 26 98 rfl rfl rfl ?_
      refine .pf 26 rfl rfl rfl rfl (fun _ => rfl) ?_
      exact .nil
     clear hS
     intro kC ip hS hN hp
     have aH : sl _ 102 = .bool false := hp 30 (by decide)
     have hS := hS.cons aH
     clear hp aH
     show wpList _ _ _ [_] _ _
     refine list_step rfl (R := fun v w' => Below _ _ w' ∧ (VB false) v w') (does_val (x_assign rfl (hS.get 0 rfl)) rfl) ?_
     rintro jy iq ⟨hb, he⟩
     have ht := below_step hN.1 hb
     have fW := below_step hN.2 hb
     have iH := below_step (bR ip) hb
     obtain rfl : jy = .bool false := he
     replace hS := (((hS.nil).cons (hS.get 2 rfl)).cons (hS.get 1 rfl)).cons (hS.get 0 rfl)
     refine hS.next (v := .bool false) (d := 4) rfl (by decide) (by rfl) ?_
     clear hS
     intro i3 hS
     refine wpList_nil ?_
     replace hS := (((hS.nil).cons (hS.get 0 rfl)).cons (hS.get 3 rfl)).cons (hS.get 2 rfl)
     (try simp only [Exit.then, Exit.inBlock])
     exact J3 _ _ cR cS cT cU cV cW cX cY cZ c0 bU af ag ay az aA ao bV bg aB bW bX bY ac c9 da db dc dd de df dg dh di bZ ca cb cc cd ce cf cg ch ci cj ck cl aX false H hS ht cn ((fW.block ac (blk_lt aa)).trans aa) co ((fW.block aX (blk_lt aj)).trans aj) cp
    rw [if_pos c5] at H
    obtain ⟨bh, f7, H⟩ := Option.bind_eq_some_iff.mp H
    by_cases c6 : bh = true
    rotate_left
    ·rw [if_neg c6] at H
     refine d8 _ _ ?_
     refine reg_seq_tail 31 (I := I2_ w ds) (ps := [VB cm, VB cm, VP ac 11, VI af, VB aq, VB aq, VB aq, VP ac 12, VI ag, VB aG, VB aG, VB aG, VP ac 16, VI ao, VB bh, VB bh, VB bh, VU, VU, VU, VB false, VB false, VU, VU, VU, VB false, VB false, VU, VU, VU, VB false]) (by kernel_rfl) ?_ ?_ rfl hS ⟨dy, (bR ds)⟩ ?_ ?_
     ·exact bs2
     ·exact .v (.v (.v (.v (.v (.v (.v (.v (.v (.v (.v (.v (.v (.v (.v (.v (.v (.v (.v (.v (.v (.v (.v (.v (.v (.v (.v (.v (.v (.v (.v (.nil)))))))))))))))))))))))))))))))
     ·refine .ms 2 rfl rfl rfl ?_
      refine .mv 0 rfl rfl rfl ?_
      refine .oy 1 73 rfl rfl c3 (fun a w hS hI hp => does_val (x_fieldE (b := 0) rfl (hS.get 0 rfl) Try.underlying28 rfl rfl (by kernel_rfl)) rfl) ?_
      refine .oy 1 73 rfl rfl c3 (fun a w hS hI hp => does_val (x_load1 (d := .int .i64) rfl (hp.V 2 rfl rfl) (by kernel_rfl) rfl ((blk_cell (((hI.2).block ac (blk_lt aa)).trans aa) 11).trans rfl)) rfl) ?_
      refine .oy 1 73 rfl rfl c3 (fun a w hS hI hp => does_call (by kernel_rfl) (ar3 (hp.V 3 rfl rfl) (rfl) (rfl)) ((carillonref05_In.calls af (-32768) 32767 aq _  fj).mono fun _ _ h => ⟨_, h.1, h.2.below, rfl⟩)) ?_
      refine .pt 1 4 rfl rfl rfl c3 rfl ?_
      refine .mv 5 rfl rfl rfl ?_
      refine .oy 6 78 rfl rfl c4 (fun a w hS hI hp => does_val (x_fieldE (b := 0) rfl (hS.get 0 rfl) Try.underlying28 rfl rfl (by kernel_rfl)) rfl) ?_
      refine .oy 6 78 rfl rfl c4 (fun a w hS hI hp => does_val (x_load1 (d := .int .i64) rfl (hp.V 7 rfl rfl) (by kernel_rfl) rfl ((blk_cell (((hI.2).block ac (blk_lt aa)).trans aa) 12).trans rfl)) rfl) ?_
      refine .oy 6 78 rfl rfl c4 (fun a w hS hI hp => does_call (by kernel_rfl) (ar3 (hp.V 8 rfl rfl) (rfl) (rfl)) ((carillonref05_In.calls ag 0 255 aG _  fH).mono fun _ _ h => ⟨_, h.1, h.2.below, rfl⟩)) ?_
      refine .pt 6 9 rfl rfl rfl c4 rfl ?_
      refine .mv 10 rfl rfl rfl ?_
      refine .oy 11 83 rfl rfl c5 (fun a w hS hI hp => does_val (x_fieldE (b := 0) rfl (hS.get 0 rfl) Try.underlying28 rfl rfl (by kernel_rfl)) rfl) ?_
      refine .oy 11 83 rfl rfl c5 (fun a w hS hI hp => does_val (x_load1 (d := .int .i64) rfl (hp.V 12 rfl rfl) (by kernel_rfl) rfl ((blk_cell (((hI.2).block ac (blk_lt aa)).trans aa) 16).trans rfl)) rfl) ?_
      refine .oy 11 83 rfl rfl c5 (fun a w hS hI hp => does_call (by kernel_rfl) (ar3 (hp.V 13 rfl rfl) (rfl) (rfl)) ((carillonref05_In.calls ao 0 255 bh _  f7).mono fun _ _ h => ⟨_, h.1, h.2.below, rfl⟩)) ?_
      refine .pt 11 14 rfl rfl rfl c5 rfl ?_
      refine .mv 15 rfl rfl rfl ?_
      iterate 3 refine .sn 16 88 rfl rfl ((Bool.eq_false_iff.2 c6)) ?_
      refine .pf 16 rfl rfl rfl ((Bool.eq_false_iff.2 c6)) (fun _ => rfl) ?_
      refine .mv 20 rfl rfl rfl ?_
      iterate 3 refine .sn 21 93 rfl rfl rfl ?_
      refine .pf 21 rfl rfl rfl rfl (fun _ => rfl) ?_
      refine .mv 25 rfl rfl rfl ?_
      iterate 3 refine .sn 26 98 rfl rfl rfl ?_
      refine .pf 26 rfl rfl rfl rfl (fun _ => rfl) ?_
      exact .nil
     clear hS
     intro i1 iq hS hO hp
     have aH : sl _ 102 = .bool false := hp 30 (by decide)
     have hS := hS.cons aH
     clear hp aH
     show wpList _ _ _ [_] _ _
     refine list_step rfl (R := fun v w' => Below _ _ w' ∧ (VB false) v w') (does_val (x_assign rfl (hS.get 0 rfl)) rfl) ?_
     rintro jz ir ⟨hb, he⟩
     have hu := below_step hO.1 hb
     have fX := below_step hO.2 hb
     have iI := below_step (bR iq) hb
     obtain rfl : jz = .bool false := he
     replace hS := (((hS.nil).cons (hS.get 2 rfl)).cons (hS.get 1 rfl)).cons (hS.get 0 rfl)
     refine hS.next (v := .bool false) (d := 4) rfl (by decide) (by rfl) ?_
     clear hS
     intro i4 hS
     refine wpList_nil ?_
     replace hS := (((hS.nil).cons (hS.get 0 rfl)).cons (hS.get 3 rfl)).cons (hS.get 2 rfl)
     (try simp only [Exit.then, Exit.inBlock])
     exact J3 _ _ cR cS cT cU cV cW cX cY cZ c0 bU af ag ay az aA ao bV bg aB bW bX bY ac c9 da db dc dd de df dg dh di bZ ca cb cc cd ce cf cg ch ci cj ck cl aX false H hS hu cn ((fX.block ac (blk_lt aa)).trans aa) co ((fX.block aX (blk_lt aj)).trans aj) cp
    rw [if_pos c6] at H
    obtain ⟨cr, gL, H⟩ := Option.bind_eq_some_iff.mp H
    by_cases c7 : cr = true
    rotate_left
    ·rw [if_neg c7] at H
     refine d8 _ _ ?_
     refine reg_seq_tail 31 (I := I2_ w ds) (ps := [VB cm, VB cm, VP ac 11, VI af, VB aq, VB aq, VB aq, VP ac 12, VI ag, VB aG, VB aG, VB aG, VP ac 16, VI ao, VB bh, VB bh, VB bh, VP ac 19, VI aB, VB cr, VB cr, VB cr, VU, VU, VU, VB false, VB false, VU, VU, VU, VB false]) (by kernel_rfl) ?_ ?_ rfl hS ⟨dy, (bR ds)⟩ ?_ ?_
     ·exact bs2
     ·exact .v (.v (.v (.v (.v (.v (.v (.v (.v (.v (.v (.v (.v (.v (.v (.v (.v (.v (.v (.v (.v (.v (.v (.v (.v (.v (.v (.v (.v (.v (.v (.nil)))))))))))))))))))))))))))))))
     ·refine .ms 2 rfl rfl rfl ?_
      refine .mv 0 rfl rfl rfl ?_
      refine .oy 1 73 rfl rfl c3 (fun a w hS hI hp => does_val (x_fieldE (b := 0) rfl (hS.get 0 rfl) Try.underlying28 rfl rfl (by kernel_rfl)) rfl) ?_
      refine .oy 1 73 rfl rfl c3 (fun a w hS hI hp => does_val (x_load1 (d := .int .i64) rfl (hp.V 2 rfl rfl) (by kernel_rfl) rfl ((blk_cell (((hI.2).block ac (blk_lt aa)).trans aa) 11).trans rfl)) rfl) ?_
      refine .oy 1 73 rfl rfl c3 (fun a w hS hI hp => does_call (by kernel_rfl) (ar3 (hp.V 3 rfl rfl) (rfl) (rfl)) ((carillonref05_In.calls af (-32768) 32767 aq _  fj).mono fun _ _ h => ⟨_, h.1, h.2.below, rfl⟩)) ?_
      refine .pt 1 4 rfl rfl rfl c3 rfl ?_
      refine .mv 5 rfl rfl rfl ?_
      refine .oy 6 78 rfl rfl c4 (fun a w hS hI hp => does_val (x_fieldE (b := 0) rfl (hS.get 0 rfl) Try.underlying28 rfl rfl (by kernel_rfl)) rfl) ?_
      refine .oy 6 78 rfl rfl c4 (fun a w hS hI hp => does_val (x_load1 (d := .int .i64) rfl (hp.V 7 rfl rfl) (by kernel_rfl) rfl ((blk_cell (((hI.2).block ac (blk_lt aa)).trans aa) 12).trans rfl)) rfl) ?_
      refine .oy 6 78 rfl rfl c4 (fun a w hS hI hp => does_call (by kernel_rfl) (ar3 (hp.V 8 rfl rfl) (rfl) (rfl)) ((carillonref05_In.calls ag 0 255 aG _  fH).mono fun _ _ h => ⟨_, h.1, h.2.below, rfl⟩)) ?_
      refine .pt 6 9 rfl rfl rfl c4 rfl ?_
      refine .mv 10 rfl rfl rfl ?_
      refine .oy 11 83 rfl rfl c5 (fun a w hS hI hp => does_val (x_fieldE (b := 0) rfl (hS.get 0 rfl) Try.underlying28 rfl rfl (by kernel_rfl)) rfl) ?_
      refine .oy 11 83 rfl rfl c5 (fun a w hS hI hp => does_val (x_load1 (d := .int .i64) rfl (hp.V 12 rfl rfl) (by kernel_rfl) rfl ((blk_cell (((hI.2).block ac (blk_lt aa)).trans aa) 16).trans rfl)) rfl) ?_
      refine .oy 11 83 rfl rfl c5 (fun a w hS hI hp => does_call (by kernel_rfl) (ar3 (hp.V 13 rfl rfl) (rfl) (rfl)) ((carillonref05_In.calls ao 0 255 bh _  f7).mono fun _ _ h => ⟨_, h.1, h.2.below, rfl⟩)) ?_
      refine .pt 11 14 rfl rfl rfl c5 rfl ?_
      refine .mv 15 rfl rfl rfl ?_
      refine .oy 16 88 rfl rfl c6 (fun a w hS hI hp => does_val (x_fieldE (b := 0) rfl (hS.get 0 rfl) Try.underlying28 rfl rfl (by kernel_rfl)) rfl) ?_
      refine .oy 16 88 rfl rfl c6 (fun a w hS hI hp => does_val (x_load1 (d := .int .i64) rfl (hp.V 17 rfl rfl) (by kernel_rfl) rfl ((blk_cell (((hI.2).block ac (blk_lt aa)).trans aa) 19).trans rfl)) rfl) ?_
      refine .oy 16 88 rfl rfl c6 (fun a w hS hI hp => does_call (by kernel_rfl) (ar3 (hp.V 18 rfl rfl) (rfl) (rfl)) ((carillonref05_In.calls aB 0 255 cr _  gL).mono fun _ _ h => ⟨_, h.1, h.2.below, rfl⟩)) ?_
      refine .pt 16 19 rfl rfl rfl c6 rfl ?_
      refine .mv 20 rfl rfl rfl ?_
      iterate 3 refine .sn 21 93 rfl rfl ((Bool.eq_false_iff.2 c7)) ?_
      refine .pf 21 rfl rfl rfl ((Bool.eq_false_iff.2 c7)) (fun _ => rfl) ?_
      refine .mv 25 rfl rfl rfl ?_
      iterate 3 refine .sn 26 98 rfl rfl rfl ?_
      refine .pf 26 rfl rfl rfl rfl (fun _ => rfl) ?_
      exact .nil
     clear hS
     intro i2 ir hS hP hp
     have aH : sl _ 102 = .bool false := hp 30 (by decide)
     have hS := hS.cons aH
     clear hp aH
     show wpList _ _ _ [_] _ _
     refine list_step rfl (R := fun v w' => Below _ _ w' ∧ (VB false) v w') (does_val (x_assign rfl (hS.get 0 rfl)) rfl) ?_
     rintro jA it ⟨hb, he⟩
     have hw := below_step hP.1 hb
     have fY := below_step hP.2 hb
     have iJ := below_step (bR ir) hb
     obtain rfl : jA = .bool false := he
     replace hS := (((hS.nil).cons (hS.get 2 rfl)).cons (hS.get 1 rfl)).cons (hS.get 0 rfl)
     refine hS.next (v := .bool false) (d := 4) rfl (by decide) (by rfl) ?_
     clear hS
     intro kD hS
     refine wpList_nil ?_
     replace hS := (((hS.nil).cons (hS.get 0 rfl)).cons (hS.get 3 rfl)).cons (hS.get 2 rfl)
     (try simp only [Exit.then, Exit.inBlock])
     exact J3 _ _ cR cS cT cU cV cW cX cY cZ c0 bU af ag ay az aA ao bV bg aB bW bX bY ac c9 da db dc dd de df dg dh di bZ ca cb cc cd ce cf cg ch ci cj ck cl aX false H hS hw cn ((fY.block ac (blk_lt aa)).trans aa) co ((fY.block aX (blk_lt aj)).trans aj) cp
    rw [if_pos c7] at H
    obtain ⟨et, g8, H⟩ := Option.bind_eq_some_iff.mp H
    refine d8 _ _ ?_
    by_cases c8 : et = true
    rotate_left
    ·rw [if_neg c8] at H
     refine reg_seq_tail 31 (I := I2_ w ds) (ps := [VB cm, VB cm, VP ac 11, VI af, VB aq, VB aq, VB aq, VP ac 12, VI ag, VB aG, VB aG, VB aG, VP ac 16, VI ao, VB bh, VB bh, VB bh, VP ac 19, VI aB, VB cr, VB cr, VB cr, VP ac 13, IsV (.agg #[.int .i64 ay, .int .i64 az, .int .i64 aA]), VB et, VB et, VB et, VU, VU, VU, VB false]) (by kernel_rfl) ?_ ?_ rfl hS ⟨dy, (bR ds)⟩ ?_ ?_
     ·exact bs2
     ·exact .v (.v (.v (.v (.v (.v (.v (.v (.v (.v (.v (.v (.v (.v (.v (.v (.v (.v (.v (.v (.v (.v (.v (.v (.v (.v (.v (.v (.v (.v (.v (.nil)))))))))))))))))))))))))))))))
     ·refine .ms 2 rfl rfl rfl ?_
      refine .mv 0 rfl rfl rfl ?_
      refine .oy 1 73 rfl rfl c3 (fun a w hS hI hp => does_val (x_fieldE (b := 0) rfl (hS.get 0 rfl) Try.underlying28 rfl rfl (by kernel_rfl)) rfl) ?_
      refine .oy 1 73 rfl rfl c3 (fun a w hS hI hp => does_val (x_load1 (d := .int .i64) rfl (hp.V 2 rfl rfl) (by kernel_rfl) rfl ((blk_cell (((hI.2).block ac (blk_lt aa)).trans aa) 11).trans rfl)) rfl) ?_
      refine .oy 1 73 rfl rfl c3 (fun a w hS hI hp => does_call (by kernel_rfl) (ar3 (hp.V 3 rfl rfl) (rfl) (rfl)) ((carillonref05_In.calls af (-32768) 32767 aq _  fj).mono fun _ _ h => ⟨_, h.1, h.2.below, rfl⟩)) ?_
      refine .pt 1 4 rfl rfl rfl c3 rfl ?_
      refine .mv 5 rfl rfl rfl ?_
      refine .oy 6 78 rfl rfl c4 (fun a w hS hI hp => does_val (x_fieldE (b := 0) rfl (hS.get 0 rfl) Try.underlying28 rfl rfl (by kernel_rfl)) rfl) ?_
      refine .oy 6 78 rfl rfl c4 (fun a w hS hI hp => does_val (x_load1 (d := .int .i64) rfl (hp.V 7 rfl rfl) (by kernel_rfl) rfl ((blk_cell (((hI.2).block ac (blk_lt aa)).trans aa) 12).trans rfl)) rfl) ?_
      refine .oy 6 78 rfl rfl c4 (fun a w hS hI hp => does_call (by kernel_rfl) (ar3 (hp.V 8 rfl rfl) (rfl) (rfl)) ((carillonref05_In.calls ag 0 255 aG _  fH).mono fun _ _ h => ⟨_, h.1, h.2.below, rfl⟩)) ?_
      refine .pt 6 9 rfl rfl rfl c4 rfl ?_
      refine .mv 10 rfl rfl rfl ?_
      refine .oy 11 83 rfl rfl c5 (fun a w hS hI hp => does_val (x_fieldE (b := 0) rfl (hS.get 0 rfl) Try.underlying28 rfl rfl (by kernel_rfl)) rfl) ?_
      refine .oy 11 83 rfl rfl c5 (fun a w hS hI hp => does_val (x_load1 (d := .int .i64) rfl (hp.V 12 rfl rfl) (by kernel_rfl) rfl ((blk_cell (((hI.2).block ac (blk_lt aa)).trans aa) 16).trans rfl)) rfl) ?_
      refine .oy 11 83 rfl rfl c5 (fun a w hS hI hp => does_call (by kernel_rfl) (ar3 (hp.V 13 rfl rfl) (rfl) (rfl)) ((carillonref05_In.calls ao 0 255 bh _  f7).mono fun _ _ h => ⟨_, h.1, h.2.below, rfl⟩)) ?_
      refine .pt 11 14 rfl rfl rfl c5 rfl ?_
      refine .mv 15 rfl rfl rfl ?_
      refine .oy 16 88 rfl rfl c6 (fun a w hS hI hp => does_val (x_fieldE (b := 0) rfl (hS.get 0 rfl) Try.underlying28 rfl rfl (by kernel_rfl)) rfl) ?_
      refine .oy 16 88 rfl rfl c6 (fun a w hS hI hp => does_val (x_load1 (d := .int .i64) rfl (hp.V 17 rfl rfl) (by kernel_rfl) rfl ((blk_cell (((hI.2).block ac (blk_lt aa)).trans aa) 19).trans rfl)) rfl) ?_
      refine .oy 16 88 rfl rfl c6 (fun a w hS hI hp => does_call (by kernel_rfl) (ar3 (hp.V 18 rfl rfl) (rfl) (rfl)) ((carillonref05_In.calls aB 0 255 cr _  gL).mono fun _ _ h => ⟨_, h.1, h.2.below, rfl⟩)) ?_
      refine .pt 16 19 rfl rfl rfl c6 rfl ?_
      refine .mv 20 rfl rfl rfl ?_
      refine .oy 21 93 rfl rfl c7 (fun a w hS hI hp => does_val (x_fieldE (b := 0) rfl (hS.get 0 rfl) Try.underlying28 rfl rfl (by kernel_rfl)) rfl) ?_
      refine .oy 21 93 rfl rfl c7 (fun a w hS hI hp => does_loadmid (cs := [.int .i64 ay, .int .i64 az, .int .i64 aA]) rfl (hp.V 22 rfl rfl) (((hI.2).block ac (blk_lt aa)).trans aa) (by kernel_rfl) Try.underlying26 rfl (by kernel_rfl) rfl) ?_
      refine .oy 21 93 rfl rfl c7 (fun a w hS hI hp => does_call (by kernel_rfl) (ar1 (hp.V 23 rfl rfl)) ((carillonref05_May.calls ay az aA et _  g8).mono fun _ _ h => ⟨_, h.1, h.2, rfl⟩)) ?_
      refine .pt 21 24 rfl rfl rfl c7 rfl ?_
      refine .mv 25 rfl rfl rfl ?_
      iterate 3 refine .sn 26 98 rfl rfl ((Bool.eq_false_iff.2 c8)) ?_
      refine .pf 26 rfl rfl rfl ((Bool.eq_false_iff.2 c8)) (fun _ => rfl) ?_
      exact .nil
     clear hS
     intro i3 it hS hQ hp
     have aH : sl _ 102 = .bool false := hp 30 (by decide)
     have hS := hS.cons aH
     clear hp aH
     show wpList _ _ _ [_] _ _
     refine list_step rfl (R := fun v w' => Below _ _ w' ∧ (VB false) v w') (does_val (x_assign rfl (hS.get 0 rfl)) rfl) ?_
     rintro jB iu ⟨hb, he⟩
     have hx := below_step hQ.1 hb
     have fZ := below_step hQ.2 hb
     have iK := below_step (bR it) hb
     obtain rfl : jB = .bool false := he
     replace hS := (((hS.nil).cons (hS.get 2 rfl)).cons (hS.get 1 rfl)).cons (hS.get 0 rfl)
     refine hS.next (v := .bool false) (d := 4) rfl (by decide) (by rfl) ?_
     clear hS
     intro kE hS
     refine wpList_nil ?_
     replace hS := (((hS.nil).cons (hS.get 0 rfl)).cons (hS.get 3 rfl)).cons (hS.get 2 rfl)
     (try simp only [Exit.then, Exit.inBlock])
     exact J3 _ _ cR cS cT cU cV cW cX cY cZ c0 bU af ag ay az aA ao bV bg aB bW bX bY ac c9 da db dc dd de df dg dh di bZ ca cb cc cd ce cf cg ch ci cj ck cl aX false H hS hx cn ((fZ.block ac (blk_lt aa)).trans aa) co ((fZ.block aX (blk_lt aj)).trans aj) cp
    rw [if_pos c8] at H
    obtain ⟨fh, iS, H⟩ := Option.bind_eq_some_iff.mp H
    refine reg_seq_tail 31 (I := I2_ w ds) (ps := [VB cm, VB cm, VP ac 11, VI af, VB aq, VB aq, VB aq, VP ac 12, VI ag, VB aG, VB aG, VB aG, VP ac 16, VI ao, VB bh, VB bh, VB bh, VP ac 19, VI aB, VB cr, VB cr, VB cr, VP ac 13, IsV (.agg #[.int .i64 ay, .int .i64 az, .int .i64 aA]), VB et, VB et, VB et, VP ac 18, VI bg, VB fh, VB fh]) (by kernel_rfl) ?_ ?_ rfl hS ⟨dy, (bR ds)⟩ ?_ ?_
    ·exact bs2
    ·exact .v (.v (.v (.v (.v (.v (.v (.v (.v (.v (.v (.v (.v (.v (.v (.v (.v (.v (.v (.v (.v (.v (.v (.v (.v (.v (.v (.v (.v (.v (.v (.nil)))))))))))))))))))))))))))))))
    ·refine .ms 2 rfl rfl rfl ?_
     refine .mv 0 rfl rfl rfl ?_
     refine .oy 1 73 rfl rfl c3 (fun a w hS hI hp => does_val (x_fieldE (b := 0) rfl (hS.get 0 rfl) Try.underlying28 rfl rfl (by kernel_rfl)) rfl) ?_
     refine .oy 1 73 rfl rfl c3 (fun a w hS hI hp => does_val (x_load1 (d := .int .i64) rfl (hp.V 2 rfl rfl) (by kernel_rfl) rfl ((blk_cell (((hI.2).block ac (blk_lt aa)).trans aa) 11).trans rfl)) rfl) ?_
     refine .oy 1 73 rfl rfl c3 (fun a w hS hI hp => does_call (by kernel_rfl) (ar3 (hp.V 3 rfl rfl) (rfl) (rfl)) ((carillonref05_In.calls af (-32768) 32767 aq _  fj).mono fun _ _ h => ⟨_, h.1, h.2.below, rfl⟩)) ?_
     refine .pt 1 4 rfl rfl rfl c3 rfl ?_
     refine .mv 5 rfl rfl rfl ?_
     refine .oy 6 78 rfl rfl c4 (fun a w hS hI hp => does_val (x_fieldE (b := 0) rfl (hS.get 0 rfl) Try.underlying28 rfl rfl (by kernel_rfl)) rfl) ?_
     refine .oy 6 78 rfl rfl c4 (fun a w hS hI hp => does_val (x_load1 (d := .int .i64) rfl (hp.V 7 rfl rfl) (by kernel_rfl) rfl ((blk_cell (((hI.2).block ac (blk_lt aa)).trans aa) 12).trans rfl)) rfl) ?_
     refine .oy 6 78 rfl rfl c4 (fun a w hS hI hp => does_call (by kernel_rfl) (ar3 (hp.V 8 rfl rfl) (rfl) (rfl)) ((carillonref05_In.calls ag 0 255 aG _  fH).mono fun _ _ h => ⟨_, h.1, h.2.below, rfl⟩)) ?_
     refine .pt 6 9 rfl rfl rfl c4 rfl ?_
     refine .mv 10 rfl rfl rfl ?_
     refine .oy 11 83 rfl rfl c5 (fun a w hS hI hp => does_val (x_fieldE (b := 0) rfl (hS.get 0 rfl) Try.underlying28 rfl rfl (by kernel_rfl)) rfl) ?_
     refine .oy 11 83 rfl rfl c5 (fun a w hS hI hp => does_val (x_load1 (d := .int .i64) rfl (hp.V 12 rfl rfl) (by kernel_rfl) rfl ((blk_cell (((hI.2).block ac (blk_lt aa)).trans aa) 16).trans rfl)) rfl) ?_
     refine .oy 11 83 rfl rfl c5 (fun a w hS hI hp => does_call (by kernel_rfl) (ar3 (hp.V 13 rfl rfl) (rfl) (rfl)) ((carillonref05_In.calls ao 0 255 bh _  f7).mono fun _ _ h => ⟨_, h.1, h.2.below, rfl⟩)) ?_
     refine .pt 11 14 rfl rfl rfl c5 rfl ?_
     refine .mv 15 rfl rfl rfl ?_
     refine .oy 16 88 rfl rfl c6 (fun a w hS hI hp => does_val (x_fieldE (b := 0) rfl (hS.get 0 rfl) Try.underlying28 rfl rfl (by kernel_rfl)) rfl) ?_
     refine .oy 16 88 rfl rfl c6 (fun a w hS hI hp => does_val (x_load1 (d := .int .i64) rfl (hp.V 17 rfl rfl) (by kernel_rfl) rfl ((blk_cell (((hI.2).block ac (blk_lt aa)).trans aa) 19).trans rfl)) rfl) ?_
     refine .oy 16 88 rfl rfl c6 (fun a w hS hI hp => does_call (by kernel_rfl) (ar3 (hp.V 18 rfl rfl) (rfl) (rfl)) ((carillonref05_In.calls aB 0 255 cr _  gL).mono fun _ _ h => ⟨_, h.1, h.2.below, rfl⟩)) ?_
     refine .pt 16 19 rfl rfl rfl c6 rfl ?_
     refine .mv 20 rfl rfl rfl ?_
     refine .oy 21 93 rfl rfl c7 (fun a w hS hI hp => does_val (x_fieldE (b := 0) rfl (hS.get 0 rfl) Try.underlying28 rfl rfl (by kernel_rfl)) rfl) ?_
     refine .oy 21 93 rfl rfl c7 (fun a w hS hI hp => does_loadmid (cs := [.int .i64 ay, .int .i64 az, .int .i64 aA]) rfl (hp.V 22 rfl rfl) (((hI.2).block ac (blk_lt aa)).trans aa) (by kernel_rfl) Try.underlying26 rfl (by kernel_rfl) rfl) ?_
     refine .oy 21 93 rfl rfl c7 (fun a w hS hI hp => does_call (by kernel_rfl) (ar1 (hp.V 23 rfl rfl)) ((carillonref05_May.calls ay az aA et _  g8).mono fun _ _ h => ⟨_, h.1, h.2, rfl⟩)) ?_
     refine .pt 21 24 rfl rfl rfl c7 rfl ?_
     refine .mv 25 rfl rfl rfl ?_
     refine .oy 26 98 rfl rfl c8 (fun a w hS hI hp => does_val (x_fieldE (b := 0) rfl (hS.get 0 rfl) Try.underlying28 rfl rfl (by kernel_rfl)) rfl) ?_
     refine .oy 26 98 rfl rfl c8 (fun a w hS hI hp => does_val (x_load1 (d := .int .i64) rfl (hp.V 27 rfl rfl) (by kernel_rfl) rfl ((blk_cell (((hI.2).block ac (blk_lt aa)).trans aa) 18).trans rfl)) rfl) ?_
     refine .oy 26 98 rfl rfl c8 (fun a w hS hI hp => does_call (by kernel_rfl) (ar3 (hp.V 28 rfl rfl) (rfl) (rfl)) ((carillonref05_In.calls bg 0 65535 fh _  iS).mono fun _ _ h => ⟨_, h.1, h.2.below, rfl⟩)) ?_
     refine .pt 26 29 rfl rfl rfl c8 rfl ?_
     exact .nil
    clear hS
    intro i4 iu hS hR hp
    have aH : sl _ 102 = .bool fh := hp 30 (by decide)
    have hS := hS.cons aH
    clear hp aH
    show wpList _ _ _ [_] _ _
    refine list_step rfl (R := fun v w' => Below _ _ w' ∧ (VB fh) v w') (does_val (x_assign rfl (hS.get 0 rfl)) rfl) ?_
    rintro jC lg ⟨hb, he⟩
    have hy := below_step hR.1 hb
    have f0 := below_step hR.2 hb
    have iL := below_step (bR iu) hb
    obtain rfl : jC = .bool fh := he
    replace hS := (((hS.nil).cons (hS.get 2 rfl)).cons (hS.get 1 rfl)).cons (hS.get 0 rfl)
    refine hS.next (v := .bool fh) (d := 4) rfl (by decide) (by rfl) ?_
    clear hS
    intro kF hS
    refine wpList_nil ?_
    replace hS := (((hS.nil).cons (hS.get 0 rfl)).cons (hS.get 3 rfl)).cons (hS.get 2 rfl)
    (try simp only [Exit.then, Exit.inBlock])
    exact J3 _ _ cR cS cT cU cV cW cX cY cZ c0 bU af ag ay az aA ao bV bg aB bW bX bY ac c9 da db dc dd de df dg dh di bZ ca cb cc cd ce cf cg ch ci cj ck cl aX fh H hS hy cn ((f0.block ac (blk_lt aa)).trans aa) co ((f0.block aX (blk_lt aj)).trans aj) cp
   refine reg_float (I := I3_ w fO gK) (C := fun x => x.heap[ab]? = some (.cells (carillonref07_Check.c1 aD ea eb ec ed ee ef eg eh ei dl ai ak al am an aw aE aI aY aF aJ aZ) 28 (0, 0))) [true, true, true, true, true, true, true, true, true, true, true, true, true, true, true, false, false, false, false, false, false, false, false, false, false, false, false, false] [.pointer (some ⟨ab, 11, none⟩), .int .i64 ai, .pointer (some ⟨ab, 12, none⟩), .int .i64 ak, .pointer (some ⟨ab, 13, none⟩), .agg #[.int .i64 al, .int .i64 am, .int .i64 an], .pointer (some ⟨ab, 16, none⟩), .int .i64 aw, .pointer (some ⟨ab, 17, none⟩), .int .u64 aE, .pointer (some ⟨ab, 18, none⟩), .int .i64 aI, .pointer (some ⟨ab, 19, none⟩), .int .i64 aY, .pointer (some ⟨ad, 11, none⟩), undef, undef, undef, undef, undef, undef, undef, undef, undef, undef, undef, undef, undef] [0, 1, 0, 4, 0, 16, 0, 64, 0, 256, 0, 1024, 0, 4096, 3, 16387, 49167, 114703, 245823, 507967, 1032447, 2081023, 4178943, 8373247, 16764927, 33542143, 67108863, 134217727] (by kernel_rfl) (by kernel_rfl) rfl ?_ ?_ hS ⟨gp.1, gp.2.1, (bR gK)⟩ ?_ ?_
   ·exact bs3
   ·exact fun x hI => ((hI.2.1.block ab (blk_lt aC)).trans aC)
   ·intro a hS hp
    refine .g (fun w hC => GRun.on rfl (x_fieldE (b := 0) rfl (hS.get 2 rfl) Try.underlying28 rfl rfl (by kernel_rfl))) ?_
    refine .g (fun w hC => GRun.on rfl (x_load1 (d := .int .i64) rfl ((hp.get 0 rfl rfl rfl)) (by kernel_rfl) rfl ((blk_cell ((((Below.refl _ _)).block ab (blk_lt hC)).trans hC) 11).trans rfl))) ?_
    refine .g (fun w hC => GRun.on rfl (x_fieldE (b := 0) rfl (hS.get 2 rfl) Try.underlying28 rfl rfl (by kernel_rfl))) ?_
    refine .g (fun w hC => GRun.on rfl (x_load1 (d := .int .i64) rfl ((hp.get 2 rfl rfl rfl)) (by kernel_rfl) rfl ((blk_cell ((((Below.refl _ _)).block ab (blk_lt hC)).trans hC) 12).trans rfl))) ?_
    refine .g (fun w hC => GRun.on rfl (x_fieldE (b := 0) rfl (hS.get 2 rfl) Try.underlying28 rfl rfl (by kernel_rfl))) ?_
    refine .g (fun w hC => GRun.on rfl (x_loadmid (cs := [.int .i64 al, .int .i64 am, .int .i64 an]) rfl ((hp.get 4 rfl rfl rfl)) ((((Below.refl _ _)).block ab (blk_lt hC)).trans hC) (by kernel_rfl) Try.underlying26 rfl (by kernel_rfl))) ?_
    refine .g (fun w hC => GRun.on rfl (x_fieldE (b := 0) rfl (hS.get 2 rfl) Try.underlying28 rfl rfl (by kernel_rfl))) ?_
    refine .g (fun w hC => GRun.on rfl (x_load1 (d := .int .i64) rfl ((hp.get 6 rfl rfl rfl)) (by kernel_rfl) rfl ((blk_cell ((((Below.refl _ _)).block ab (blk_lt hC)).trans hC) 16).trans rfl))) ?_
    refine .g (fun w hC => GRun.on rfl (x_fieldE (b := 0) rfl (hS.get 2 rfl) Try.underlying28 rfl rfl (by kernel_rfl))) ?_
    refine .g (fun w hC => GRun.on rfl (x_load1 (d := .int .u64) rfl ((hp.get 8 rfl rfl rfl)) (by kernel_rfl) rfl ((blk_cell ((((Below.refl _ _)).block ab (blk_lt hC)).trans hC) 17).trans rfl))) ?_
    refine .g (fun w hC => GRun.on rfl (x_fieldE (b := 0) rfl (hS.get 2 rfl) Try.underlying28 rfl rfl (by kernel_rfl))) ?_
    refine .g (fun w hC => GRun.on rfl (x_load1 (d := .int .i64) rfl ((hp.get 10 rfl rfl rfl)) (by kernel_rfl) rfl ((blk_cell ((((Below.refl _ _)).block ab (blk_lt hC)).trans hC) 18).trans rfl))) ?_
    refine .g (fun w hC => GRun.on rfl (x_fieldE (b := 0) rfl (hS.get 2 rfl) Try.underlying28 rfl rfl (by kernel_rfl))) ?_
    refine .g (fun w hC => GRun.on rfl (x_load1 (d := .int .i64) rfl ((hp.get 12 rfl rfl rfl)) (by kernel_rfl) rfl ((blk_cell ((((Below.refl _ _)).block ab (blk_lt hC)).trans hC) 19).trans rfl))) ?_
    refine .g (fun w hC => GRun.on rfl (x_fieldE (b := 0) rfl (hS.get 3 rfl) Try.underlying28 rfl rfl (by kernel_rfl))) ?_
    iterate 13 refine .t ?_
    exact .nil
   clear hS
   intro iZ g5 hS hp cw
   have hS := hS.cons (show sl _ 52 = .int .i64 ai from hp.get 1 rfl rfl rfl)
   have hS := hS.cons (show sl _ 54 = .int .i64 ak from hp.get 3 rfl rfl rfl)
   have hS := hS.cons (show sl _ 56 = .agg #[.int .i64 al, .int .i64 am, .int .i64 an] from hp.get 5 rfl rfl rfl)
   have hS := hS.cons (show sl _ 58 = .int .i64 aw from hp.get 7 rfl rfl rfl)
   have hS := hS.cons (show sl _ 60 = .int .u64 aE from hp.get 9 rfl rfl rfl)
   have hS := hS.cons (show sl _ 62 = .int .i64 aI from hp.get 11 rfl rfl rfl)
   have hS := hS.cons (show sl _ 64 = .int .i64 aY from hp.get 13 rfl rfl rfl)
   have hS := hS.cons (show sl _ 65 = .pointer (some ⟨ad, 11, none⟩) from hp.get 14 rfl rfl rfl)
   clear hp
   show ListC _ _ _ _ [_, _, _, _, _, _, _, _, _, _, _, _, _] _ _
   refine lc_step rfl (does_store (g := ad) (off := 11) (v := .int .i64 ai) (new := (carillonref07_Check.c1 aN aO aP aQ aR aS aT aU aV aW ax ai cu bn bo bp bi be ba aK bf bb aL)) rfl (hS.get 0 rfl) (hS.get 7 rfl) ((cw.2.1.block ad (blk_lt dk)).trans dk) (by kernel_rfl) (by kernel_rfl) (by kernel_rfl) (by kernel_rfl)) ?_
   rintro kR ie ⟨rfl, gP, hT⟩
   have fl := hT.blk ((cw.2.1.block ab (blk_lt aC)).trans aC) (Ne.symm au)
   have hf := hT.below cw.1 ar (cw.1).size
   clear hT
   refine ⟨(((bR ie).block ab (blk_lt fl)).trans fl), ?_⟩
   refine lc_step rfl (R := fun v w' => Below _ _ w' ∧ (VP ad 12) v w') (does_val (x_fieldE (b := 0) rfl (hS.get 11 rfl) Try.underlying28 rfl rfl (by kernel_rfl)) rfl) ?_
   rintro jo jL ⟨hb, he⟩
   have gv := below_step hf hb
   have ek := below_step (bR ie) hb
   obtain rfl : jo = .pointer (some ⟨ad, 12, none⟩) := he
   refine ⟨((ek.block ab (blk_lt fl)).trans fl), ?_⟩
   refine hS.nextC (v := .pointer (some ⟨ad, 12, none⟩)) (d := 66) rfl (by decide) (by rfl) ?_
   clear hS
   intro ks hS
   refine lc_step rfl (does_store (g := ad) (off := 12) (v := .int .i64 ak) (new := (carillonref07_Check.c1 aN aO aP aQ aR aS aT aU aV aW ax ai ak bn bo bp bi be ba aK bf bb aL)) rfl (hS.get 0 rfl) (hS.get 7 rfl) ((ek.block ad (blk_lt gP)).trans gP) (by kernel_rfl) (by kernel_rfl) (by kernel_rfl) (by kernel_rfl)) ?_
   rintro kT ih ⟨rfl, gR, hT⟩
   have fo := hT.blk ((ek.block ab (blk_lt fl)).trans fl) (Ne.symm au)
   have hh := hT.below gv ar (gv).size
   clear hT
   refine ⟨(((bR ih).block ab (blk_lt fo)).trans fo), ?_⟩
   refine lc_step rfl (R := fun v w' => Below _ _ w' ∧ (VP ad 13) v w') (does_val (x_fieldE (b := 0) rfl (hS.get 12 rfl) Try.underlying28 rfl rfl (by kernel_rfl)) rfl) ?_
   rintro jq la ⟨hb, he⟩
   have gx := below_step hh hb
   have em := below_step (bR ih) hb
   obtain rfl : jq = .pointer (some ⟨ad, 13, none⟩) := he
   refine ⟨((em.block ab (blk_lt fo)).trans fo), ?_⟩
   refine hS.nextC (v := .pointer (some ⟨ad, 13, none⟩)) (d := 67) rfl (by decide) (by rfl) ?_
   clear hS
   intro ku hS
   refine lc_step rfl (does_store (g := ad) (off := 13) (v := .agg #[.int .i64 al, .int .i64 am, .int .i64 an]) (new := (carillonref07_Check.c1 aN aO aP aQ aR aS aT aU aV aW ax ai ak al am an bi be ba aK bf bb aL)) rfl (hS.get 0 rfl) (hS.get 7 rfl) ((em.block ad (blk_lt gR)).trans gR) (by kernel_rfl) (by kernel_rfl) (by kernel_rfl) (by kernel_rfl)) ?_
   rintro kV ij ⟨rfl, gT, hT⟩
   have fq := hT.blk ((em.block ab (blk_lt fo)).trans fo) (Ne.symm au)
   have hj := hT.below gx ar (gx).size
   clear hT
   refine ⟨(((bR ij).block ab (blk_lt fq)).trans fq), ?_⟩
   refine lc_step rfl (R := fun v w' => Below _ _ w' ∧ (VP ad 16) v w') (does_val (x_fieldE (b := 0) rfl (hS.get 13 rfl) Try.underlying28 rfl rfl (by kernel_rfl)) rfl) ?_
   rintro js lc ⟨hb, he⟩
   have gz := below_step hj hb
   have eo := below_step (bR ij) hb
   obtain rfl : js = .pointer (some ⟨ad, 16, none⟩) := he
   refine ⟨((eo.block ab (blk_lt fq)).trans fq), ?_⟩
   refine hS.nextC (v := .pointer (some ⟨ad, 16, none⟩)) (d := 68) rfl (by decide) (by rfl) ?_
   clear hS
   intro kw hS
   refine lc_step rfl (does_store (g := ad) (off := 16) (v := .int .i64 aw) (new := (carillonref07_Check.c1 aN aO aP aQ aR aS aT aU aV aW ax ai ak al am an aw be ba aK bf bb aL)) rfl (hS.get 0 rfl) (hS.get 7 rfl) ((eo.block ad (blk_lt gT)).trans gT) (by kernel_rfl) (by kernel_rfl) (by kernel_rfl) (by kernel_rfl)) ?_
   rintro kX ik ⟨rfl, gV, hT⟩
   have fr := hT.blk ((eo.block ab (blk_lt fq)).trans fq) (Ne.symm au)
   have hl := hT.below gz ar (gz).size
   clear hT
   refine ⟨(((bR ik).block ab (blk_lt fr)).trans fr), ?_⟩
   refine lc_step rfl (R := fun v w' => Below _ _ w' ∧ (VP ad 17) v w') (does_val (x_fieldE (b := 0) rfl (hS.get 14 rfl) Try.underlying28 rfl rfl (by kernel_rfl)) rfl) ?_
   rintro jt ld ⟨hb, he⟩
   have gA := below_step hl hb
   have ep := below_step (bR ik) hb
   obtain rfl : jt = .pointer (some ⟨ad, 17, none⟩) := he
   refine ⟨((ep.block ab (blk_lt fr)).trans fr), ?_⟩
   refine hS.nextC (v := .pointer (some ⟨ad, 17, none⟩)) (d := 69) rfl (by decide) (by rfl) ?_
   clear hS
   intro kx hS
   refine lc_step rfl (does_store (g := ad) (off := 17) (v := .int .u64 aE) (new := (carillonref07_Check.c1 aN aO aP aQ aR aS aT aU aV aW ax ai ak al am an aw aE ba aK bf bb aL)) rfl (hS.get 0 rfl) (hS.get 7 rfl) ((ep.block ad (blk_lt gV)).trans gV) (by kernel_rfl) (by kernel_rfl) (by kernel_rfl) (by kernel_rfl)) ?_
   rintro kY il ⟨rfl, gW, hT⟩
   have fs := hT.blk ((ep.block ab (blk_lt fr)).trans fr) (Ne.symm au)
   have hm := hT.below gA ar (gA).size
   clear hT
   refine ⟨(((bR il).block ab (blk_lt fs)).trans fs), ?_⟩
   refine lc_step rfl (R := fun v w' => Below _ _ w' ∧ (VP ad 18) v w') (does_val (x_fieldE (b := 0) rfl (hS.get 15 rfl) Try.underlying28 rfl rfl (by kernel_rfl)) rfl) ?_
   rintro ju le ⟨hb, he⟩
   have gB := below_step hm hb
   have eq := below_step (bR il) hb
   obtain rfl : ju = .pointer (some ⟨ad, 18, none⟩) := he
   refine ⟨((eq.block ab (blk_lt fs)).trans fs), ?_⟩
   refine hS.nextC (v := .pointer (some ⟨ad, 18, none⟩)) (d := 70) rfl (by decide) (by rfl) ?_
   clear hS
   intro ky hS
   refine lc_step rfl (does_store (g := ad) (off := 18) (v := .int .i64 aI) (new := (carillonref07_Check.c1 aN aO aP aQ aR aS aT aU aV aW ax ai ak al am an aw aE aI aK bf bb aL)) rfl (hS.get 0 rfl) (hS.get 7 rfl) ((eq.block ad (blk_lt gW)).trans gW) (by kernel_rfl) (by kernel_rfl) (by kernel_rfl) (by kernel_rfl)) ?_
   rintro kZ im ⟨rfl, gX, hT⟩
   have ft := hT.blk ((eq.block ab (blk_lt fs)).trans fs) (Ne.symm au)
   have hn := hT.below gB ar (gB).size
   clear hT
   refine ⟨(((bR im).block ab (blk_lt ft)).trans ft), ?_⟩
   refine lc_step rfl (R := fun v w' => Below _ _ w' ∧ (VP ad 19) v w') (does_val (x_fieldE (b := 0) rfl (hS.get 16 rfl) Try.underlying28 rfl rfl (by kernel_rfl)) rfl) ?_
   rintro jv lf ⟨hb, he⟩
   have gC := below_step hn hb
   have er := below_step (bR im) hb
   obtain rfl : jv = .pointer (some ⟨ad, 19, none⟩) := he
   refine ⟨((er.block ab (blk_lt ft)).trans ft), ?_⟩
   refine hS.nextC (v := .pointer (some ⟨ad, 19, none⟩)) (d := 71) rfl (by decide) (by rfl) ?_
   clear hS
   intro kz hS
   refine lc_step rfl (does_store (g := ad) (off := 19) (v := .int .i64 aY) (new := (carillonref07_Check.c1 aN aO aP aQ aR aS aT aU aV aW ax ai ak al am an aw aE aI aY bf bb aL)) rfl (hS.get 0 rfl) (hS.get 7 rfl) ((er.block ad (blk_lt gX)).trans gX) (by kernel_rfl) (by kernel_rfl) (by kernel_rfl) (by kernel_rfl)) ?_
   rintro k0 g7 ⟨rfl, gY, hT⟩
   have gn := hT.blk ((er.block ab (blk_lt ft)).trans ft) (Ne.symm au)
   have ho := hT.below gC ar (gC).size
   clear hT
   refine ⟨(((bR g7).block ab (blk_lt gn)).trans gn), ?_⟩
   refine lc_nil ?_
   replace hS := (((hS.nil).cons (hS.get 18 rfl)).cons (hS.get 17 rfl)).cons (hS.get 16 rfl)
   (try simp only [Exit.then, Exit.inBlock])
   exact J4 _ _ aD ea eb ec ed ee ef eg eh ei dl ai ak al am an aw aE aI aY aF aJ aZ ab aN aO aP aQ aR aS aT aU aV aW ax ai ak al am an aw aE aI aY bf bb aL ad gt H hS ho fK (((bR g7).block ab (blk_lt gn)).trans gn) ar (((bR g7).block ad (blk_lt gY)).trans gY) au
  obtain ⟨gI, iQ, H⟩ := Option.bind_eq_some_iff.mp H
  refine wp_seq_k (fun k2 i7 => ?_)
  refine reg_seq (I := I2_ w gH) (ps := [VP bd 0, VI d9, VB gI]) (by kernel_rfl) ?_ ?_ rfl hS ⟨iB, (bR gH)⟩ ?_ ?_
  ·exact bs2
  ·exact .v (.v (.v (.nil)))
  ·refine .on rfl (fun a w hS hI hp => does_val (x_fieldE (b := 0) rfl (hS.get 0 rfl) Try.underlying28 rfl rfl (by kernel_rfl)) rfl) ?_
   refine .on rfl (fun a w hS hI hp => does_val (x_load1 (d := .int .i64) rfl (hp.V 0 rfl rfl) (by kernel_rfl) rfl ((blk_cell (((hI.2).block bd (blk_lt bk)).trans bk) 0).trans rfl)) rfl) ?_
   refine .on rfl (fun a w hS hI hp => does_call (by kernel_rfl) (ar1 (hp.V 1 rfl rfl)) ((carillonref07_targeted.calls d9 gI _  iQ).mono fun _ _ h => ⟨_, h.1, h.2.below, rfl⟩)) ?_
   exact .nil
  clear hS
  intro kj h9 hS fL hp
  have jh : sl _ 37 = .bool gI := hp 2 (by decide)
  have hS := hS.cons jh
  clear hp jh
  refine i7 _ _ ?_
  by_cases c2 : gI = true
  rotate_left
  ·rw [if_neg c2] at H
   refine wp_cond_false ((hS.get 0 rfl).trans (bF (Bool.eq_false_iff.2 c2))) ?_
   refine wp_skip ?_
   replace hS := (((hS.nil).cons (hS.get 3 rfl)).cons (hS.get 2 rfl)).cons (hS.get 1 rfl)
   (try simp only [Exit.then, Exit.inBlock])
   exact J2 _ _ d9 fv fw fx fy fz fA fB fC aM av ev ew ex ey ez eA eB eC eD eE eF eG bd eH eI eJ eK eL eM eN eO eP gs fT dz dA dB dC dD dE dF dG dH dI dJ dK bm fE H hS fL.1 fJ ((fL.2.block bd (blk_lt bk)).trans bk) fb ((fL.2.block bm (blk_lt fa)).trans fa) fe
  rw [if_pos c2] at H
  refine wp_cond_true ((hS.get 0 rfl).trans (bT c2)) ?_
  refine wp_seq_k (fun k3 i8 => ?_)
  refine reg_seq_tail 3 (I := I3_ w gH h9) (ps := [VP bd 9, IsV (.agg #[.int .u64 aM, .int .i64 av]), VP bm 9]) (by kernel_rfl) ?_ ?_ rfl hS ⟨fL.1, fL.2, (bR h9)⟩ ?_ ?_
  ·exact bs3
  ·exact .v (.v (.v (.nil)))
  ·refine .on rfl (fun a w hS hI hp => does_val (x_fieldE (b := 0) rfl (hS.get 1 rfl) Try.underlying28 rfl rfl (by kernel_rfl)) rfl) ?_
   refine .on rfl (fun a w hS hI hp => does_loadmid (cs := [.int .u64 aM, .int .i64 av]) rfl (hp.V 0 rfl rfl) (((hI.2.1).block bd (blk_lt bk)).trans bk) (by kernel_rfl) Try.underlying24 rfl (by kernel_rfl) rfl) ?_
   refine .on rfl (fun a w hS hI hp => does_val (x_fieldE (b := 0) rfl (hS.get 2 rfl) Try.underlying28 rfl rfl (by kernel_rfl)) rfl) ?_
   exact .nil
  clear hS
  intro kk k7 hS go hp
  replace hS := (((hS.nil).cons (hS.get 3 rfl)).cons (hS.get 2 rfl)).cons (hS.get 1 rfl)
  have ji : sl _ 39 = .agg #[.int .u64 aM, .int .i64 av] := hp 1 (by decide)
  have jj : sl _ 40 = .pointer (some ⟨bm, 9, none⟩) := hp 2 (by decide)
  have hS := hS.cons ji
  have hS := hS.cons jj
  clear hp ji jj
  show wpList _ _ _ [_] _ _
  refine list_step rfl (does_store (g := bm) (off := 9) (v := .agg #[.int .u64 aM, .int .i64 av]) (new := (carillonref07_Check.c1 eH eI eJ eK eL eM eN eO eP aM av dz dA dB dC dD dE dF dG dH dI dJ dK)) rfl (hS.get 0 rfl) (hS.get 1 rfl) ((go.2.1.block bm (blk_lt fa)).trans fa) (by kernel_rfl) (by kernel_rfl) (by kernel_rfl) (by kernel_rfl)) ?_
  rintro kQ gJ ⟨rfl, fD, hT⟩
  have fk := hT.blk ((go.2.1.block bd (blk_lt bk)).trans bk) (Ne.symm fe)
  have gu := hT.below go.1 fb (go.1).size
  clear hT
  refine wpList_nil ?_
  refine i8 _ _ ?_
  by_cases c3 : fE = true
  rotate_left
  ·rw [if_neg c3] at H
   refine reg_seq_tail 6 (I := I2_ w gJ) (ps := [VB fE, VB fE, VU, VU, VU, VB false]) (by kernel_rfl) ?_ ?_ rfl hS ⟨gu, (bR gJ)⟩ ?_ ?_
   ·exact bs2
   ·exact .v (.v (.v (.v (.v (.v (.nil))))))
   ·refine .ms 4 rfl rfl rfl ?_
    refine .mv 0 rfl rfl rfl ?_
    iterate 3 refine .sn 1 42 rfl rfl ((Bool.eq_false_iff.2 c3)) ?_
    refine .pf 1 rfl rfl rfl ((Bool.eq_false_iff.2 c3)) (fun _ => rfl) ?_
    exact .nil
   clear hS
   intro kl jK hS hH hp
   replace hS := (((hS.nil).cons (hS.get 4 rfl)).cons (hS.get 3 rfl)).cons (hS.get 2 rfl)
   have gZ : sl _ 46 = .bool false := hp 5 (by decide)
   have hS := hS.cons gZ
   clear hp gZ
   show wpList _ _ _ [_] _ _
   refine list_step rfl (R := fun v w' => Below _ _ w' ∧ (VB false) v w') (does_val (x_assign rfl (hS.get 0 rfl)) rfl) ?_
   rintro jm ia ⟨hb, he⟩
   have ha := below_step hH.1 hb
   have fF := below_step hH.2 hb
   have iD := below_step (bR jK) hb
   obtain rfl : jm = .bool false := he
   replace hS := (((hS.nil).cons (hS.get 2 rfl)).cons (hS.get 1 rfl)).cons (hS.get 0 rfl)
   refine hS.next (v := .bool false) (d := 4) rfl (by decide) (by rfl) ?_
   clear hS
   intro kn hS
   refine wpList_nil ?_
   replace hS := (((hS.nil).cons (hS.get 0 rfl)).cons (hS.get 3 rfl)).cons (hS.get 2 rfl)
   (try simp only [Exit.then, Exit.inBlock])
   exact J2 _ _ d9 fv fw fx fy fz fA fB fC aM av ev ew ex ey ez eA eB eC eD eE eF eG bd eH eI eJ eK eL eM eN eO eP aM av dz dA dB dC dD dE dF dG dH dI dJ dK bm false H hS ha fJ ((fF.block bd (blk_lt fk)).trans fk) fb ((fF.block bm (blk_lt fD)).trans fD) fe
  rw [if_pos c3] at H
  obtain ⟨fg, iR, H⟩ := Option.bind_eq_some_iff.mp H
  refine reg_seq_tail 6 (I := I2_ w gJ) (ps := [VB fE, VB fE, VP bd 9, IsV (.agg #[.int .u64 aM, .int .i64 av]), VB fg, VB fg]) (by kernel_rfl) ?_ ?_ rfl hS ⟨gu, (bR gJ)⟩ ?_ ?_
  ·exact bs2
  ·exact .v (.v (.v (.v (.v (.v (.nil))))))
  ·refine .ms 4 rfl rfl rfl ?_
   refine .mv 0 rfl rfl rfl ?_
   refine .oy 1 42 rfl rfl c3 (fun a w hS hI hp => does_val (x_fieldE (b := 0) rfl (hS.get 2 rfl) Try.underlying28 rfl rfl (by kernel_rfl)) rfl) ?_
   refine .oy 1 42 rfl rfl c3 (fun a w hS hI hp => does_loadmid (cs := [.int .u64 aM, .int .i64 av]) rfl (hp.V 2 rfl rfl) (((hI.2).block bd (blk_lt fk)).trans fk) (by kernel_rfl) Try.underlying24 rfl (by kernel_rfl) rfl) ?_
   refine .oy 1 42 rfl rfl c3 (fun a w hS hI hp => does_call (by kernel_rfl) (ar1 (hp.V 3 rfl rfl)) ((carillonref04_May.calls aM av fg _  iR).mono fun _ _ h => ⟨_, h.1, h.2, rfl⟩)) ?_
   refine .pt 1 4 rfl rfl rfl c3 rfl ?_
   exact .nil
  clear hS
  intro km ia hS hJ hp
  replace hS := (((hS.nil).cons (hS.get 4 rfl)).cons (hS.get 3 rfl)).cons (hS.get 2 rfl)
  have gZ : sl _ 46 = .bool fg := hp 5 (by decide)
  have hS := hS.cons gZ
  clear hp gZ
  show wpList _ _ _ [_] _ _
  refine list_step rfl (R := fun v w' => Below _ _ w' ∧ (VB fg) v w') (does_val (x_assign rfl (hS.get 0 rfl)) rfl) ?_
  rintro jn k8 ⟨hb, he⟩
  have hd := below_step hJ.1 hb
  have fG := below_step hJ.2 hb
  have iE := below_step (bR ia) hb
  obtain rfl : jn = .bool fg := he
  replace hS := (((hS.nil).cons (hS.get 2 rfl)).cons (hS.get 1 rfl)).cons (hS.get 0 rfl)
  refine hS.next (v := .bool fg) (d := 4) rfl (by decide) (by rfl) ?_
  clear hS
  intro ko hS
  refine wpList_nil ?_
  replace hS := (((hS.nil).cons (hS.get 0 rfl)).cons (hS.get 3 rfl)).cons (hS.get 2 rfl)
  (try simp only [Exit.then, Exit.inBlock])
  exact J2 _ _ d9 fv fw fx fy fz fA fB fC aM av ev ew ex ey ez eA eB eC eD eE eF eG bd eH eI eJ eK eL eM eN eO eP aM av dz dA dB dC dD dE dF dG dH dI dJ dK bm fg H hS hd fJ ((fG.block bd (blk_lt fk)).trans fk) fb ((fG.block bm (blk_lt fD)).trans fD) fe
 obtain ⟨h8, j6, H⟩ := Option.bind_eq_some_iff.mp H
 refine wp_seq_k (fun lq kc => ?_)
 refine reg_seq (I := I5_ w w3 w9 ib jY) (ps := [VP g4 0, VI dj, VB h8]) (by kernel_rfl) ?_ ?_ rfl hS ⟨g2.1, g2.2.1, g2.2.2.1, g2.2.2.2, (bR jY)⟩ ?_ ?_
 ·exact bs5
 ·exact .v (.v (.v (.nil)))
 ·refine .on rfl (fun a w hS hI hp => does_val (x_fieldE (b := 0) rfl (hS.get 2 rfl) Try.underlying28 rfl rfl (by kernel_rfl)) rfl) ?_
  refine .on rfl (fun a w hS hI hp => does_val (x_load1 (d := .int .i64) rfl (hp.V 0 rfl rfl) (by kernel_rfl) rfl ((blk_cell (((hI.2.1).block g4 (blk_lt ah)).trans ah) 0).trans rfl)) rfl) ?_
  refine .on rfl (fun a w hS hI hp => does_call (by kernel_rfl) (ar1 (hp.V 1 rfl rfl)) ((carillonref07_stamped.calls dj h8 _  j6).mono fun _ _ h => ⟨_, h.1, h.2.below, rfl⟩)) ?_
  exact .nil
 clear hS
 intro lj jZ hS f5 hp
 have jd : sl _ 25 = .bool h8 := hp 2 (by decide)
 have hS := hS.cons jd
 clear hp jd
 refine kc _ _ ?_
 by_cases c2 : h8 = true
 rotate_left
 ·rw [if_neg c2] at H
  refine wp_cond_false ((hS.get 0 rfl).trans (bF (Bool.eq_false_iff.2 c2))) ?_
  refine wp_skip ?_
  replace hS := (((hS.nil).cons (hS.get 1 rfl)).cons (hS.get 2 rfl)).cons (hS.get 3 rfl)
  (try simp only [Exit.then, Exit.inBlock])
  exact J1 _ _ dj dt du dv dn dp dw dx ej gN f8 f9 ga gb gc gd ge gf gg gh gi gj gk g4 dj dt du dv dn dp dw dx 0 0 0 0 0 0 0 0 0 0 0 0 0 0 0 fI true H hS f5.1 h5 ((f5.2.1.block g4 (blk_lt ah)).trans ah) (Nat.le_trans (fN.1).size dq) ((f5.2.2.2.1.block fI (blk_lt gl)).trans gl) h6
 rw [if_pos c2] at H
 obtain ⟨gG, j7, H⟩ := Option.bind_eq_some_iff.mp H
 refine wp_cond_true ((hS.get 0 rfl).trans (bT c2)) ?_
 refine wp_seq_k (fun lr kd => ?_)
 refine reg_seq_tail 3 (I := I5_ w w3 w9 ib jZ) (ps := [VP g4 8, VI ej, VP fI 8]) (by kernel_rfl) ?_ ?_ rfl hS ⟨f5.1, f5.2.1, f5.2.2.1, f5.2.2.2.1, (bR jZ)⟩ ?_ ?_
 ·exact bs5
 ·exact .v (.v (.v (.nil)))
 ·refine .on rfl (fun a w hS hI hp => does_val (x_fieldE (b := 0) rfl (hS.get 3 rfl) Try.underlying28 rfl rfl (by kernel_rfl)) rfl) ?_
  refine .on rfl (fun a w hS hI hp => does_val (x_load1 (d := .int .i64) rfl (hp.V 0 rfl rfl) (by kernel_rfl) rfl ((blk_cell (((hI.2.1).block g4 (blk_lt ah)).trans ah) 8).trans rfl)) rfl) ?_
  refine .on rfl (fun a w hS hI hp => does_val (x_fieldE (b := 0) rfl (hS.get 2 rfl) Try.underlying28 rfl rfl (by kernel_rfl)) rfl) ?_
  exact .nil
 clear hS
 intro lk lu hS f6 hp
 replace hS := (((hS.nil).cons (hS.get 3 rfl)).cons (hS.get 2 rfl)).cons (hS.get 1 rfl)
 have je : sl _ 27 = .int .i64 ej := hp 1 (by decide)
 have jf : sl _ 28 = .pointer (some ⟨fI, 8, none⟩) := hp 2 (by decide)
 have hS := hS.cons je
 have hS := hS.cons jf
 clear hp je jf
 show wpList _ _ _ [_] _ _
 refine list_step rfl (does_store (g := fI) (off := 8) (v := .int .i64 ej) (new := (carillonref07_Check.c1 dj dt du dv dn dp dw dx ej 0 0 0 0 0 0 0 0 0 0 0 0 0 0)) rfl (hS.get 0 rfl) (hS.get 1 rfl) ((f6.2.2.2.1.block fI (blk_lt gl)).trans gl) (by kernel_rfl) (by kernel_rfl) (by kernel_rfl) (by kernel_rfl)) ?_
 rintro lo j0 ⟨rfl, hG, hT⟩
 have iz := hT.below f6.1 (Nat.le_trans (fN.1).size dq) (f6.1).size
 have h0 := hT.below f6.2.1 (Nat.le_trans (fN.2).size dq) (f6.2.1).size
 have h1 := hT.below f6.2.2.1 dq (f6.2.2.1).size
 clear hT
 refine wpList_nil ?_
 refine kd _ _ ?_
 refine reg_seq_tail 6 (I := I4_ w w3 w9 j0) (ps := [VB true, VB true, VP g4 8, VI ej, VB gG, VB gG]) (by kernel_rfl) ?_ ?_ rfl hS ⟨iz, h0, h1, (bR j0)⟩ ?_ ?_
 ·exact bs4
 ·exact .v (.v (.v (.v (.v (.v (.nil))))))
 ·refine .ms 2 rfl rfl rfl ?_
  refine .mv 0 rfl rfl rfl ?_
  refine .oy 1 30 rfl rfl rfl (fun a w hS hI hp => does_val (x_fieldE (b := 0) rfl (hS.get 4 rfl) Try.underlying28 rfl rfl (by kernel_rfl)) rfl) ?_
  refine .oy 1 30 rfl rfl rfl (fun a w hS hI hp => does_val (x_load1 (d := .int .i64) rfl (hp.V 2 rfl rfl) (by kernel_rfl) rfl ((blk_cell (((hI.2.1).block g4 (blk_lt ah)).trans ah) 8).trans rfl)) rfl) ?_
  refine .oy 1 30 rfl rfl rfl (fun a w hS hI hp => does_call (by kernel_rfl) (ar1 (hp.V 3 rfl rfl)) ((carillonref02_May.calls ej gG _  j7).mono fun _ _ h => ⟨_, h.1, h.2.below, rfl⟩)) ?_
  refine .pt 1 4 rfl rfl rfl rfl rfl ?_
  exact .nil
 clear hS
 intro ll k1 hS g3 hp
 replace hS := (((hS.nil).cons (hS.get 4 rfl)).cons (hS.get 3 rfl)).cons (hS.get 2 rfl)
 have jg : sl _ 34 = .bool gG := hp 5 (by decide)
 have hS := hS.cons jg
 clear hp jg
 show wpList _ _ _ [_] _ _
 refine list_step rfl (R := fun v w' => Below _ _ w' ∧ (VB gG) v w') (does_val (x_assign rfl (hS.get 0 rfl)) rfl) ?_
 rintro ke lv ⟨hb, he⟩
 have iA := below_step g3.1 hb
 have h2 := below_step g3.2.1 hb
 have j9 := below_step g3.2.2.1 hb
 have hq := below_step g3.2.2.2 hb
 have jP := below_step (bR k1) hb
 obtain rfl : ke = .bool gG := he
 replace hS := (((hS.nil).cons (hS.get 3 rfl)).cons (hS.get 2 rfl)).cons (hS.get 0 rfl)
 refine hS.next (v := .bool gG) (d := 4) rfl (by decide) (by rfl) ?_
 clear hS
 intro lm hS
 refine wpList_nil ?_
 replace hS := (((hS.nil).cons (hS.get 0 rfl)).cons (hS.get 2 rfl)).cons (hS.get 3 rfl)
 (try simp only [Exit.then, Exit.inBlock])
 exact J1 _ _ dj dt du dv dn dp dw dx ej gN f8 f9 ga gb gc gd ge gf gg gh gi gj gk g4 dj dt du dv dn dp dw dx ej 0 0 0 0 0 0 0 0 0 0 0 0 0 0 fI gG H hS iA h5 ((h2.block g4 (blk_lt ah)).trans ah) (Nat.le_trans (fN.1).size dq) ((hq.block fI (blk_lt hG)).trans hG) h6
mutual
def carillonref07_Len.j0 : Nat → Int → Bool → Option (Int)
  | 0, _, _ => none
  | k + 1, x3, x4 => if x4 = true then (some 10) else (if x3 = 2 then (carillonref07_Len.j1 k x3 (x3 == 2)) else (if x3 = 3 then (carillonref07_Len.j1 k x3 (x3 == 3)) else (if x3 = 10 then (carillonref07_Len.j1 k x3 (x3 == 10)) else (carillonref07_Len.j1 k x3 (x3 == 9)))))
def carillonref07_Len.j1 : Nat → Int → Bool → Option (Int)
  | 0, _, _ => none
  | k + 1, x3, x9 => if x9 = true then (some 20) else (if x3 = 11 then (some 30) else (if x3 = 13 then (some 14) else (some 0)))
end
def carillonref07_Len.f (k : Nat) (a0 : Int) : Option (Int) := if a0 = 0 then (carillonref07_Len.j0 k a0 (a0 == 0)) else (if a0 = 1 then (carillonref07_Len.j0 k a0 (a0 == 1)) else (if a0 = 8 then (carillonref07_Len.j0 k a0 (a0 == 8)) else (carillonref07_Len.j0 k a0 (a0 == 12))))
set_option maxHeartbeats 8000000 in
set_option maxRecDepth 100000 in
theorem carillonref07_Len.calls (k : Nat) (a0 : Int) (r : Int) (w : World) (h : carillonref07_Len.f k a0 = some r) :
    Calls Try.prog 25 #[.int .i64 a0] w fun e w' => e = .returned (.int .i64 r) ∧ Drawn0 w w' := by
  have H : (if a0 = 0 then (carillonref07_Len.j0 k a0 (a0 == 0)) else (if a0 = 1 then (carillonref07_Len.j0 k a0 (a0 == 1)) else (if a0 = 8 then (carillonref07_Len.j0 k a0 (a0 == 8)) else (carillonref07_Len.j0 k a0 (a0 == 12))))) = some r := h
  clear h
  have HC2 := Aside0.mk H
  clear H
  go_enter Try.func25, Try.ntmps25
  go_upto_if 4 with (fail)
  go_cut [4] (fun v4 wc => ∃ (kq : Nat) (x4_1 : Bool), v4 = .bool x4_1 ∧ Aside0 (carillonref07_Len.j0 kq a0 x4_1 = some r) ∧ Aside0 (kq ≤ k) ∧ Drawn0 w wc)
  case first =>
    have H := HC2.out
    clear HC2
    by_cases c3 : a0 = 0
    · rw [if_pos c3] at H
      have c3b0 : (a0 == 0) = true := beq_iff_eq.mpr c3
      have c3b1 : (a0 != 0) = false := bne_eq_false_iff_eq.mpr c3
      clear c3
      (first | rw [c3b0] | (simp only [i64_w, i32_w]; rw [c3b0]) | skip)
      have H' := Aside0.mk H
      clear H
      go_wp2
      go_meet
      case rel => exact ⟨_, ((a0 == 0)), (by first | rfl | (simp; done) | (simp [*]; done)), H', ⟨by first | omega | exact Nat.le_refl _⟩, by repeat (first | exact Drawn0.refl _ | apply Drawn0.step)⟩
    · rw [if_neg c3] at H
      have c3b0 : (a0 == 0) = false := beq_eq_false_iff_ne.mpr c3
      have c3b1 : (a0 != 0) = true := bne_iff_ne.mpr c3
      (first | rw [c3b0] | (simp only [i64_w, i32_w]; rw [c3b0]) | skip)
      by_cases c4 : a0 = 1
      · rw [if_pos c4] at H
        have c4b0 : (a0 == 1) = true := beq_iff_eq.mpr c4
        have c4b1 : (a0 != 1) = false := bne_eq_false_iff_eq.mpr c4
        clear c4
        have H' := Aside0.mk H
        clear H
        go_wp2
        go_meet
        case rel => exact ⟨_, ((a0 == 1)), (by first | rfl | (simp; done) | (simp [*]; done)), H', ⟨by first | omega | exact Nat.le_refl _⟩, by repeat (first | exact Drawn0.refl _ | apply Drawn0.step)⟩
      · rw [if_neg c4] at H
        have c4b0 : (a0 == 1) = false := beq_eq_false_iff_ne.mpr c4
        have c4b1 : (a0 != 1) = true := bne_iff_ne.mpr c4
        by_cases c5 : a0 = 8
        · rw [if_pos c5] at H
          have c5b0 : (a0 == 8) = true := beq_iff_eq.mpr c5
          have c5b1 : (a0 != 8) = false := bne_eq_false_iff_eq.mpr c5
          clear c5
          have H' := Aside0.mk H
          clear H
          go_wp2
          go_meet
          case rel => exact ⟨_, ((a0 == 8)), (by first | rfl | (simp; done) | (simp [*]; done)), H', ⟨by first | omega | exact Nat.le_refl _⟩, by repeat (first | exact Drawn0.refl _ | apply Drawn0.step)⟩
        · rw [if_neg c5] at H
          have c5b0 : (a0 == 8) = false := beq_eq_false_iff_ne.mpr c5
          have c5b1 : (a0 != 8) = true := bne_iff_ne.mpr c5
          have H' := Aside0.mk H
          clear H
          go_wp2
          go_meet
          case rel => exact ⟨_, ((a0 == 12)), (by first | rfl | (simp; done) | (simp [*]; done)), H', ⟨by first | omega | exact Nat.le_refl _⟩, by repeat (first | exact Drawn0.refl _ | apply Drawn0.step)⟩
  case rest =>
    clear HC2
    try clear c2
    try clear p2
    try clear c3
    try clear c3b0
    try clear c3b1
    try clear c4
    try clear c4b0
    try clear c4b1
    try clear c5
    try clear c5b0
    try clear c5b1
    obtain ⟨kq, x4_1, rfl, HA, HJ1, ⟨mc1, rfl⟩⟩ := hcut
    cases kq with
    | zero => exact absurd HA.out (by simp [carillonref07_Len.j0])
    | succ kj1 =>
      have H := HA.out
      clear HA
      simp only [carillonref07_Len.j0] at H
      by_cases c6 : x4_1 = true
      · subst c6
        have H1 : (some 10) = some r := by rw [if_pos rfl] at H; exact H
        clear H
        have H := H1
        clear H1
        obtain rfl := Option.some.inj H
        go_wp2
        all_goals
          go_ret
          exact ⟨by first | rfl | (simp; done) | (simp [*]; done), by repeat (first | exact Drawn0.refl _ | apply Drawn0.step)⟩
      · replace c6 := Bool.eq_false_iff.mpr c6
        subst c6
        have H1 : (if a0 = 2 then (carillonref07_Len.j1 kj1 a0 (a0 == 2)) else (if a0 = 3 then (carillonref07_Len.j1 kj1 a0 (a0 == 3)) else (if a0 = 10 then (carillonref07_Len.j1 kj1 a0 (a0 == 10)) else (carillonref07_Len.j1 kj1 a0 (a0 == 9))))) = some r := by rw [if_neg (show ¬ (false = true) by decide)] at H; exact H
        clear H
        have H := H1
        clear H1
        have HC7 := Aside0.mk H
        clear H
        go_upto_if 9 with (fail)
        go_cut [9] (fun v9 wc => ∃ (kq : Nat) (x9_6 : Bool), v9 = .bool x9_6 ∧ Aside0 (carillonref07_Len.j1 kq a0 x9_6 = some r) ∧ Aside0 (kq ≤ kj1) ∧ Drawn0 w wc)
        case first =>
          have H := HC7.out
          clear HC7
          by_cases c8 : a0 = 2
          · rw [if_pos c8] at H
            have c8b0 : (a0 == 2) = true := beq_iff_eq.mpr c8
            have c8b1 : (a0 != 2) = false := bne_eq_false_iff_eq.mpr c8
            clear c8
            (first | rw [c8b0] | (simp only [i64_w, i32_w]; rw [c8b0]) | skip)
            have H' := Aside0.mk H
            clear H
            go_wp2
            go_meet
            case rel => exact ⟨_, ((a0 == 2)), (by first | rfl | (simp; done) | (simp [*]; done)), H', ⟨by have := HJ1.out; first | omega | exact Nat.le_refl _⟩, by repeat (first | exact Drawn0.refl _ | apply Drawn0.step)⟩
          · rw [if_neg c8] at H
            have c8b0 : (a0 == 2) = false := beq_eq_false_iff_ne.mpr c8
            have c8b1 : (a0 != 2) = true := bne_iff_ne.mpr c8
            (first | rw [c8b0] | (simp only [i64_w, i32_w]; rw [c8b0]) | skip)
            by_cases c9 : a0 = 3
            · rw [if_pos c9] at H
              have c9b0 : (a0 == 3) = true := beq_iff_eq.mpr c9
              have c9b1 : (a0 != 3) = false := bne_eq_false_iff_eq.mpr c9
              clear c9
              have H' := Aside0.mk H
              clear H
              go_wp2
              go_meet
              case rel => exact ⟨_, ((a0 == 3)), (by first | rfl | (simp; done) | (simp [*]; done)), H', ⟨by have := HJ1.out; first | omega | exact Nat.le_refl _⟩, by repeat (first | exact Drawn0.refl _ | apply Drawn0.step)⟩
            · rw [if_neg c9] at H
              have c9b0 : (a0 == 3) = false := beq_eq_false_iff_ne.mpr c9
              have c9b1 : (a0 != 3) = true := bne_iff_ne.mpr c9
              by_cases c10 : a0 = 10
              · rw [if_pos c10] at H
                have c10b0 : (a0 == 10) = true := beq_iff_eq.mpr c10
                have c10b1 : (a0 != 10) = false := bne_eq_false_iff_eq.mpr c10
                clear c10
                have H' := Aside0.mk H
                clear H
                go_wp2
                go_meet
                case rel => exact ⟨_, ((a0 == 10)), (by first | rfl | (simp; done) | (simp [*]; done)), H', ⟨by have := HJ1.out; first | omega | exact Nat.le_refl _⟩, by repeat (first | exact Drawn0.refl _ | apply Drawn0.step)⟩
              · rw [if_neg c10] at H
                have c10b0 : (a0 == 10) = false := beq_eq_false_iff_ne.mpr c10
                have c10b1 : (a0 != 10) = true := bne_iff_ne.mpr c10
                have H' := Aside0.mk H
                clear H
                go_wp2
                go_meet
                case rel => exact ⟨_, ((a0 == 9)), (by first | rfl | (simp; done) | (simp [*]; done)), H', ⟨by have := HJ1.out; first | omega | exact Nat.le_refl _⟩, by repeat (first | exact Drawn0.refl _ | apply Drawn0.step)⟩
        case rest =>
          clear HC7
          try clear c1
          try clear c2
          try clear p2
          try clear c3
          try clear c3b0
          try clear c3b1
          try clear c4
          try clear c4b0
          try clear c4b1
          try clear c5
          try clear c5b0
          try clear c5b1
          try clear c6
          try clear c8
          try clear c8b0
          try clear c8b1
          try clear c9
          try clear c9b0
          try clear c9b1
          try clear c10
          try clear c10b0
          try clear c10b1
          try clear p2
          obtain ⟨kq, x9_6, rfl, HA, HJ6, ⟨mc6, rfl⟩⟩ := hcut
          cases kq with
          | zero => exact absurd HA.out (by simp [carillonref07_Len.j1])
          | succ kj6 =>
            have H := HA.out
            clear HA
            simp only [carillonref07_Len.j1] at H
            by_cases c11 : x9_6 = true
            · subst c11
              have H1 : (some 20) = some r := by rw [if_pos rfl] at H; exact H
              clear H
              have H := H1
              clear H1
              obtain rfl := Option.some.inj H
              go_wp2
              all_goals
                go_ret
                exact ⟨by first | rfl | (simp; done) | (simp [*]; done), by repeat (first | exact Drawn0.refl _ | apply Drawn0.step)⟩
            · replace c11 := Bool.eq_false_iff.mpr c11
              subst c11
              have H1 : (if a0 = 11 then (some 30) else (if a0 = 13 then (some 14) else (some 0))) = some r := by rw [if_neg (show ¬ (false = true) by decide)] at H; exact H
              clear H
              have H := H1
              clear H1
              by_cases c12 : a0 = 11
              · rw [if_pos c12] at H
                have c12b0 : (a0 == 11) = true := beq_iff_eq.mpr c12
                have c12b1 : (a0 != 11) = false := bne_eq_false_iff_eq.mpr c12
                clear c12
                obtain rfl := Option.some.inj H
                go_wp2
                all_goals
                  go_ret
                  exact ⟨by first | rfl | (simp; done) | (simp [*]; done), by repeat (first | exact Drawn0.refl _ | apply Drawn0.step)⟩
              · rw [if_neg c12] at H
                have c12b0 : (a0 == 11) = false := beq_eq_false_iff_ne.mpr c12
                have c12b1 : (a0 != 11) = true := bne_iff_ne.mpr c12
                by_cases c13 : a0 = 13
                · rw [if_pos c13] at H
                  have c13b0 : (a0 == 13) = true := beq_iff_eq.mpr c13
                  have c13b1 : (a0 != 13) = false := bne_eq_false_iff_eq.mpr c13
                  clear c13
                  obtain rfl := Option.some.inj H
                  go_wp2
                  all_goals
                    go_ret
                    exact ⟨by first | rfl | (simp; done) | (simp [*]; done), by repeat (first | exact Drawn0.refl _ | apply Drawn0.step)⟩
                · rw [if_neg c13] at H
                  have c13b0 : (a0 == 13) = false := beq_eq_false_iff_ne.mpr c13
                  have c13b1 : (a0 != 13) = true := bne_iff_ne.mpr c13
                  obtain rfl := Option.some.inj H
                  go_wp2
                  all_goals
                    go_ret
                    exact ⟨by first | rfl | (simp; done) | (simp [*]; done), by repeat (first | exact Drawn0.refl _ | apply Drawn0.step)⟩
end Go.Proofs.Ytiomlbkakiienaa.P
