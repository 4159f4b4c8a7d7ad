/- Functions and loops of the given program as Lean functions, and that the code comes to what they say: written by this session's own program; Lean checks it. -/
import Derived.Test.YtpoocfapmgmfkaaZzPx0
import Derived.Test.YtpoocfapmgmfkaaZzPx3
import Derived.Test.YtpoocfapmgmfkaaZzPx6
import Derived.Test.YtpoocfapmgmfkaaZzPx8
namespace Go.Proofs.Ytpoocfapmgmfkaa.P
open Go.RowKit Go.Proofs.YtpoocfapmgmfkaaW.PrintWords Go.Proofs.YtpoocfapmgmfkaaW.PrintLast Go.Proofs.YtpoocfapmgmfkaaW.PrintMore
attribute [local go_sem] max2_int min2_int max_two min_two max_three min_three max_four min_four   -- for this text's walks alone
set_option linter.unusedVariables false
set_option linter.unusedSimpArgs false
/-! ### body_Get: function 18: by our own printer -/
def body_Get.j4 (k : Nat) (x4_3_0 x4_3_1 x4_3_2 x4_3_3 x4_3_4 x4_3_5 x4_3_6 x4_3_7 x4_3_8 x4_3_9 x4_3_10 x4_3_11 x4_3_12 x4_3_13 x4_3_14 x4_3_15 x4_3_16 x4_3_17 x4_3_18 x4_3_19 x4_3_20 x4_3_21 x4_3_22 x4_6_0 x4_6_1 x4_6_2 x4_6_3 x4_6_4 x4_6_5 x4_6_6 x4_6_7 x4_6_8 x4_6_9 x4_6_10 x4_6_11 x4_6_12 x4_6_13 x4_6_14 x4_6_15 x4_6_16 x4_6_17 x4_6_18 x4_6_19 x4_6_20 x4_6_21 x4_6_22 x4_9 x4_10 : Int) : Option (Int × Int × Int × Int × Int × Int × Int × Int × Int × Int × Int × Int × Int × Int × Int × Int × Int × Int × Int × Int × Int × Int × Int × Int × Int) := some (x4_3_0, x4_3_1, x4_3_2, x4_3_3, x4_3_4, x4_3_5, x4_3_6, x4_3_7, x4_3_8, x4_3_9, x4_3_10, x4_3_11, x4_3_12, x4_3_13, x4_3_14, x4_3_15, x4_3_16, x4_3_17, x4_3_18, x4_3_19, x4_3_20, x4_3_21, x4_3_22, wrap64 (x4_9 + x4_10), 0)
def body_Get.j3 (k : Nat) (y3_1 : List Int) (x3_2 x3_3_0 x3_3_1 x3_3_2 x3_3_3 x3_3_4 x3_3_5 x3_3_6 x3_3_7 x3_3_8 x3_3_9 x3_3_10 x3_3_11 x3_3_12 x3_3_13 x3_3_14 x3_3_15 x3_3_16 x3_3_17 x3_3_18 x3_3_19 x3_3_20 x3_3_21 x3_3_22 x3_6_0 x3_6_1 x3_6_2 x3_6_3 x3_6_4 x3_6_5 x3_6_6 x3_6_7 x3_6_8 x3_6_9 x3_6_10 x3_6_11 x3_6_12 x3_6_13 x3_6_14 x3_6_15 x3_6_16 x3_6_17 x3_6_18 x3_6_19 x3_6_20 x3_6_21 x3_6_22 x3_9 x3_10 : Int) : Option (Int × Int × Int × Int × Int × Int × Int × Int × Int × Int × Int × Int × Int × Int × Int × Int × Int × Int × Int × Int × Int × Int × Int × Int × Int) := if x3_3_0 = 11 then ((octets_Signed.f k y3_1 x3_2 2).bind fun t3009 => ((octets_Get.f k y3_1 (wrap64 (x3_2 + 3)) 1).bind fun t3015 => ((quality_Get.f k y3_1 (wrap64 (x3_2 + 4))).bind fun t3021 => ((octets_Get.f k y3_1 (wrap64 (x3_2 + 8)) 1).bind fun t3027 => ((octets_GetId.f k y3_1 (wrap64 (x3_2 + 9))).bind fun t3033 => ((octets_Get.f k y3_1 (wrap64 (x3_2 + 17)) 2).bind fun t3039 => ((octets_Get.f k y3_1 (wrap64 (x3_2 + 19)) 1).bind fun t3044 => (body_Get.j4 k x3_3_0 x3_3_1 x3_3_2 x3_3_3 x3_3_4 x3_3_5 x3_3_6 x3_3_7 x3_3_8 x3_3_9 x3_3_10 t3009.1 t3015.1 t3021.1 t3021.2.1 t3021.2.2.1 t3027.1 t3033.1 t3039.1 t3044.1 x3_3_20 x3_3_21 x3_3_22 x3_6_0 x3_6_1 x3_6_2 x3_6_3 x3_6_4 x3_6_5 x3_6_6 x3_6_7 x3_6_8 x3_6_9 x3_6_10 x3_6_11 x3_6_12 x3_6_13 x3_6_14 x3_6_15 x3_6_16 x3_6_17 x3_6_18 x3_6_19 x3_6_20 x3_6_21 x3_6_22 x3_9 x3_10)))))))) else (if x3_3_0 = 13 then (if 0 ≤ x3_2 then (if x3_2 < (y3_1.length : Int) then (if 0 ≤ (wrap64 (x3_2 + 1)) then (if (wrap64 (x3_2 + 1)) < (y3_1.length : Int) then (if 0 ≤ (wrap64 (x3_2 + 2)) then (if (wrap64 (x3_2 + 2)) < (y3_1.length : Int) then (body_Get.j4 k x3_3_0 x3_3_1 x3_3_2 x3_3_3 x3_3_4 x3_3_5 x3_3_6 x3_3_7 x3_3_8 x3_3_9 x3_3_10 x3_3_11 x3_3_12 x3_3_13 x3_3_14 x3_3_15 x3_3_16 x3_3_17 x3_3_18 x3_3_19 (wrap64 (rd y3_1 x3_2)) (wrap64 (rd y3_1 (wrap64 (x3_2 + 1)))) (wrap64 (Go.bits .and .u8 (rd y3_1 (wrap64 (x3_2 + 2))) 15)) x3_6_0 x3_6_1 x3_6_2 x3_6_3 x3_6_4 x3_6_5 x3_6_6 x3_6_7 x3_6_8 x3_6_9 x3_6_10 x3_6_11 x3_6_12 x3_6_13 x3_6_14 x3_6_15 x3_6_16 x3_6_17 x3_6_18 x3_6_19 x3_6_20 x3_6_21 x3_6_22 x3_9 x3_10) else (none)) else (none)) else (none)) else (none)) else (none)) else (none)) else (body_Get.j4 k x3_3_0 x3_3_1 x3_3_2 x3_3_3 x3_3_4 x3_3_5 x3_3_6 x3_3_7 x3_3_8 x3_3_9 x3_3_10 x3_3_11 x3_3_12 x3_3_13 x3_3_14 x3_3_15 x3_3_16 x3_3_17 x3_3_18 x3_3_19 x3_3_20 x3_3_21 x3_3_22 x3_6_0 x3_6_1 x3_6_2 x3_6_3 x3_6_4 x3_6_5 x3_6_6 x3_6_7 x3_6_8 x3_6_9 x3_6_10 x3_6_11 x3_6_12 x3_6_13 x3_6_14 x3_6_15 x3_6_16 x3_6_17 x3_6_18 x3_6_19 x3_6_20 x3_6_21 x3_6_22 x3_9 x3_10))
def body_Get.j2 (k : Nat) (y2_1 : List Int) (x2_2 x2_3_0 x2_3_1 x2_3_2 x2_3_3 x2_3_4 x2_3_5 x2_3_6 x2_3_7 x2_3_8 x2_3_9 x2_3_10 x2_3_11 x2_3_12 x2_3_13 x2_3_14 x2_3_15 x2_3_16 x2_3_17 x2_3_18 x2_3_19 x2_3_20 x2_3_21 x2_3_22 x2_6_0 x2_6_1 x2_6_2 x2_6_3 x2_6_4 x2_6_5 x2_6_6 x2_6_7 x2_6_8 x2_6_9 x2_6_10 x2_6_11 x2_6_12 x2_6_13 x2_6_14 x2_6_15 x2_6_16 x2_6_17 x2_6_18 x2_6_19 x2_6_20 x2_6_21 x2_6_22 x2_9 x2_10 : Int) : Option (Int × Int × Int × Int × Int × Int × Int × Int × Int × Int × Int × Int × Int × Int × Int × Int × Int × Int × Int × Int × Int × Int × Int × Int × Int) := (stamp_Get.f k y2_1 x2_2).bind fun t2003 => (if t2003.2 = true then ((body_targeted.f x2_3_0).bind fun t2021 => (if t2021 = true then ((ident_Get.f k y2_1 (wrap64 (x2_2 + 10))).bind fun t2025 => (body_Get.j3 k y2_1 (wrap64 ((wrap64 (x2_2 + 10)) + 10)) x2_3_0 x2_3_1 x2_3_2 x2_3_3 x2_3_4 x2_3_5 x2_3_6 x2_3_7 t2003.1 t2025.1 t2025.2.1 x2_3_11 x2_3_12 x2_3_13 x2_3_14 x2_3_15 x2_3_16 x2_3_17 x2_3_18 x2_3_19 x2_3_20 x2_3_21 x2_3_22 x2_6_0 x2_6_1 x2_6_2 x2_6_3 x2_6_4 x2_6_5 x2_6_6 x2_6_7 x2_6_8 x2_6_9 x2_6_10 x2_6_11 x2_6_12 x2_6_13 x2_6_14 x2_6_15 x2_6_16 x2_6_17 x2_6_18 x2_6_19 x2_6_20 x2_6_21 x2_6_22 x2_9 x2_10)) else (body_Get.j3 k y2_1 (wrap64 (x2_2 + 10)) x2_3_0 x2_3_1 x2_3_2 x2_3_3 x2_3_4 x2_3_5 x2_3_6 x2_3_7 t2003.1 x2_3_9 x2_3_10 x2_3_11 x2_3_12 x2_3_13 x2_3_14 x2_3_15 x2_3_16 x2_3_17 x2_3_18 x2_3_19 x2_3_20 x2_3_21 x2_3_22 x2_6_0 x2_6_1 x2_6_2 x2_6_3 x2_6_4 x2_6_5 x2_6_6 x2_6_7 x2_6_8 x2_6_9 x2_6_10 x2_6_11 x2_6_12 x2_6_13 x2_6_14 x2_6_15 x2_6_16 x2_6_17 x2_6_18 x2_6_19 x2_6_20 x2_6_21 x2_6_22 x2_9 x2_10))) else (some (0, 0, 0, 0, 0, 0, 0, 0, 0, 0, 0, 0, 0, 0, 0, 0, 0, 0, 0, 0, 0, 0, 0, 0, 10)))
def body_Get.j1 (k : Nat) (y1_1 : List Int) (x1_2 x1_3_0 x1_3_1 x1_3_2 x1_3_3 x1_3_4 x1_3_5 x1_3_6 x1_3_7 x1_3_8 x1_3_9 x1_3_10 x1_3_11 x1_3_12 x1_3_13 x1_3_14 x1_3_15 x1_3_16 x1_3_17 x1_3_18 x1_3_19 x1_3_20 x1_3_21 x1_3_22 x1_6_0 x1_6_1 x1_6_2 x1_6_3 x1_6_4 x1_6_5 x1_6_6 x1_6_7 x1_6_8 x1_6_9 x1_6_10 x1_6_11 x1_6_12 x1_6_13 x1_6_14 x1_6_15 x1_6_16 x1_6_17 x1_6_18 x1_6_19 x1_6_20 x1_6_21 x1_6_22 x1_9 x1_10 : Int) : Option (Int × Int × Int × Int × Int × Int × Int × Int × Int × Int × Int × Int × Int × Int × Int × Int × Int × Int × Int × Int × Int × Int × Int × Int × Int) := (body_targeted.f x1_3_0).bind fun t1003 => (if t1003 = true then ((ident_Get.f k y1_1 x1_2).bind fun t1007 => (body_Get.j3 k y1_1 (wrap64 (x1_2 + 10)) x1_3_0 x1_3_1 x1_3_2 x1_3_3 x1_3_4 x1_3_5 x1_3_6 x1_3_7 x1_3_8 t1007.1 t1007.2.1 x1_3_11 x1_3_12 x1_3_13 x1_3_14 x1_3_15 x1_3_16 x1_3_17 x1_3_18 x1_3_19 x1_3_20 x1_3_21 x1_3_22 x1_6_0 x1_6_1 x1_6_2 x1_6_3 x1_6_4 x1_6_5 x1_6_6 x1_6_7 x1_6_8 x1_6_9 x1_6_10 x1_6_11 x1_6_12 x1_6_13 x1_6_14 x1_6_15 x1_6_16 x1_6_17 x1_6_18 x1_6_19 x1_6_20 x1_6_21 x1_6_22 x1_9 x1_10)) else (body_Get.j3 k y1_1 x1_2 x1_3_0 x1_3_1 x1_3_2 x1_3_3 x1_3_4 x1_3_5 x1_3_6 x1_3_7 x1_3_8 x1_3_9 x1_3_10 x1_3_11 x1_3_12 x1_3_13 x1_3_14 x1_3_15 x1_3_16 x1_3_17 x1_3_18 x1_3_19 x1_3_20 x1_3_21 x1_3_22 x1_6_0 x1_6_1 x1_6_2 x1_6_3 x1_6_4 x1_6_5 x1_6_6 x1_6_7 x1_6_8 x1_6_9 x1_6_10 x1_6_11 x1_6_12 x1_6_13 x1_6_14 x1_6_15 x1_6_16 x1_6_17 x1_6_18 x1_6_19 x1_6_20 x1_6_21 x1_6_22 x1_9 x1_10))
def body_Get.f (k : Nat) (a0_0 a0_1 a0_2 a0_3 a0_4 a0_5 a0_6 a0_7 a0_8 a0_9 a0_10 a0_11 a0_12 a0_13 a0_14 a0_15 a0_16 a0_17 a0_18 a0_19 a0_20 a0_21 a0_22 : Int) (l1 : List Int) (a2 : Int) : Option (Int × Int × Int × Int × Int × Int × Int × Int × Int × Int × Int × Int × Int × Int × Int × Int × Int × Int × Int × Int × Int × Int × Int × Int × Int) := (body_Len.f k a0_0).bind fun t14 => (if a2 < 0 then (some (0, 0, 0, 0, 0, 0, 0, 0, 0, 0, 0, 0, 0, 0, 0, 0, 0, 0, 0, 0, 0, 0, 0, 0, 2)) else (if a2 > (l1.length : Int) then (some (0, 0, 0, 0, 0, 0, 0, 0, 0, 0, 0, 0, 0, 0, 0, 0, 0, 0, 0, 0, 0, 0, 0, 0, 2)) else (if (wrap64 ((l1.length : Int) - a2)) < t14 then (some (0, 0, 0, 0, 0, 0, 0, 0, 0, 0, 0, 0, 0, 0, 0, 0, 0, 0, 0, 0, 0, 0, 0, 0, 2)) else (if t14 = 0 then (body_Get.j1 k l1 a2 a0_0 a0_1 a0_2 a0_3 a0_4 a0_5 a0_6 a0_7 a0_8 a0_9 a0_10 a0_11 a0_12 a0_13 a0_14 a0_15 a0_16 a0_17 a0_18 a0_19 a0_20 a0_21 a0_22 0 0 0 0 0 0 0 0 0 0 0 0 0 0 0 0 0 0 0 0 0 0 0 a2 t14) else ((body_stamped.f a0_0).bind fun t23 => (if t23 = true then (body_Get.j2 k l1 a2 a0_0 a0_1 a0_2 a0_3 a0_4 a0_5 a0_6 a0_7 a0_8 a0_9 a0_10 a0_11 a0_12 a0_13 a0_14 a0_15 a0_16 a0_17 a0_18 a0_19 a0_20 a0_21 a0_22 0 0 0 0 0 0 0 0 0 0 0 0 0 0 0 0 0 0 0 0 0 0 0 a2 t14) else (body_Get.j1 k l1 a2 a0_0 a0_1 a0_2 a0_3 a0_4 a0_5 a0_6 a0_7 a0_8 a0_9 a0_10 a0_11 a0_12 a0_13 a0_14 a0_15 a0_16 a0_17 a0_18 a0_19 a0_20 a0_21 a0_22 0 0 0 0 0 0 0 0 0 0 0 0 0 0 0 0 0 0 0 0 0 0 0 a2 t14)))))))
abbrev body_Get.v0 (x0 x1 x2 x3 x4 x5 x6 x7 x8 x9 x10 x11 x12 x13 x14 x15 x16 x17 x18 x19 x20 x21 x22 : Int) : Value := .agg #[.int .i64 x0, .int .i64 x1, .int .i64 x2, .int .i64 x3, .int .u64 x4, .int .i64 x5, .int .i64 x6, .int .i64 x7, .int .i64 x8, .int .u64 x9, .int .i64 x10, .int .i64 x11, .int .i64 x12, .int .i64 x13, .int .i64 x14, .int .i64 x15, .int .i64 x16, .int .u64 x17, .int .i64 x18, .int .i64 x19, .int .i64 x20, .int .i64 x21, .int .i64 x22]
abbrev body_Get.c1 (x0 x1 x2 x3 x4 x5 x6 x7 x8 x9 x10 x11 x12 x13 x14 x15 x16 x17 x18 x19 x20 x21 x22 : Int) : Array Value := #[.int .i64 x0, .int .i64 x1, .int .i64 x2, .int .i64 x3, .int .u64 x4, .int .i64 x5, .int .i64 x6, .int .i64 x7, .int .i64 x8, .int .u64 x9, .int .i64 x10, .int .i64 x11, .int .i64 x12, .int .i64 x13, .int .i64 x14, .int .i64 x15, .int .i64 x16, .int .u64 x17, .int .i64 x18, .int .i64 x19, .int .i64 x20, .int .i64 x21, .int .i64 x22]
open Go.Proofs.Ytpoocfapmgmfkaa.E in
set_option maxHeartbeats 60000000 in
set_option maxRecDepth 100000 in
theorem body_Get.calls (k : Nat) (a0_0 a0_1 a0_2 a0_3 a0_4 a0_5 a0_6 a0_7 a0_8 a0_9 a0_10 a0_11 a0_12 a0_13 a0_14 a0_15 a0_16 a0_17 a0_18 a0_19 a0_20 a0_21 a0_22 : Int) (A1 : Option Addr) (cp1 : Nat) (l1 : List Int) (a2 r1 r2 r3 r4 r5 r6 r7 r8 r9 r10 r11 r12 r13 r14 r15 r16 r17 r18 r19 r20 r21 r22 r23 r24 r25 : Int) (w : World) (HR1 : Kd.C (Kd.int .u8) w A1 l1.length l1) (HC1 : l1.length ≤ cp1) (h : body_Get.f k a0_0 a0_1 a0_2 a0_3 a0_4 a0_5 a0_6 a0_7 a0_8 a0_9 a0_10 a0_11 a0_12 a0_13 a0_14 a0_15 a0_16 a0_17 a0_18 a0_19 a0_20 a0_21 a0_22 l1 a2 = some (r1, r2, r3, r4, r5, r6, r7, r8, r9, r10, r11, r12, r13, r14, r15, r16, r17, r18, r19, r20, r21, r22, r23, r24, r25)) :
  Calls Try.prog 18 #[.agg #[.int .i64 a0_0, .int .i64 a0_1, .int .i64 a0_2, .int .i64 a0_3, .int .u64 a0_4, .int .i64 a0_5, .int .i64 a0_6, .int .i64 a0_7, .int .i64 a0_8, .int .u64 a0_9, .int .i64 a0_10, .int .i64 a0_11, .int .i64 a0_12, .int .i64 a0_13, .int .i64 a0_14, .int .i64 a0_15, .int .i64 a0_16, .int .u64 a0_17, .int .i64 a0_18, .int .i64 a0_19, .int .i64 a0_20, .int .i64 a0_21, .int .i64 a0_22], .slice A1 l1.length cp1, .int .i64 a2] w fun e w' => e = .returned (.tuple #[.agg #[.int .i64 r1, .int .i64 r2, .int .i64 r3, .int .i64 r4, .int .u64 r5, .int .i64 r6, .int .i64 r7, .int .i64 r8, .int .i64 r9, .int .u64 r10, .int .i64 r11, .int .i64 r12, .int .i64 r13, .int .i64 r14, .int .i64 r15, .int .i64 r16, .int .i64 r17, .int .u64 r18, .int .i64 r19, .int .i64 r20, .int .i64 r21, .int .i64 r22, .int .i64 r23], .int .i64 r24, .int .i64 r25]) ∧ Below w.heap.size w w' := by
 have H := h
 clear h
 unfold body_Get.f at H
 refine calls_of_wp (fn := Try.f18) (by kernel_rfl) rfl ?_
 have hS := St.enter #[(body_Get.v0 a0_0 a0_1 a0_2 a0_3 a0_4 a0_5 a0_6 a0_7 a0_8 a0_9 a0_10 a0_11 a0_12 a0_13 a0_14 a0_15 a0_16 a0_17 a0_18 a0_19 a0_20 a0_21 a0_22), .slice A1 l1.length cp1, .int .i64 a2] 151 (by simp) [(0, (body_Get.v0 a0_0 a0_1 a0_2 a0_3 a0_4 a0_5 a0_6 a0_7 a0_8 a0_9 a0_10 a0_11 a0_12 a0_13 a0_14 a0_15 a0_16 a0_17 a0_18 a0_19 a0_20 a0_21 a0_22)), (1, .slice A1 l1.length cp1), (2, .int .i64 a2)] (by simp)
 have HB0 := Below.refl w.heap.size w
 refine wp_seq_k (fun K1 hK1 => ?_)
 refine reg_seq_tail 1 (N := 151) (bs := [(0, (body_Get.v0 a0_0 a0_1 a0_2 a0_3 a0_4 a0_5 a0_6 a0_7 a0_8 a0_9 a0_10 a0_11 a0_12 a0_13 a0_14 a0_15 a0_16 a0_17 a0_18 a0_19 a0_20 a0_21 a0_22)), (1, .slice A1 l1.length cp1), (2, .int .i64 a2)]) (I := fun x => Below w.heap.size w x) (ps := [IsB (body_Get.c1 a0_0 a0_1 a0_2 a0_3 a0_4 a0_5 a0_6 a0_7 a0_8 a0_9 a0_10 a0_11 a0_12 a0_13 a0_14 a0_15 a0_16 a0_17 a0_18 a0_19 a0_20 a0_21 a0_22) 29 w.heap.size]) (by kernel_rfl) ?_ ?_ rfl hS HB0 ?_ ?_
 ·exact fun x y hI hb => below_step hI hb
 ·exact .cons (Stays.b _ _ _) (.nil)
 ·refine .on rfl (fun a w hS hI hp => does_var (x_box rfl (congrArg Value.cells (hS.get 0 rfl))) (hI).size) ?_
  exact .nil
 clear hS
 intro at2 w3 hS hI hp
 have hBw3_w := hI
 replace hS := ((hS.nil).cons (hS.get 2 rfl)).cons (hS.get 1 rfl)
 obtain ⟨g4, hv3, hgeg4, hbxg4⟩ := (show IsB _ 29 _ (sl _ 3) _ from hp 0 (by decide))
 have hBw3_w3 := Below.refl w3.heap.size w3
 have hS := hS.cons hv3
 clear hp hI hv3
 show wpList _ _ _ [_, _, _] _ _
 refine list_step rfl (R := fun v w' => Below _ _ w' ∧ (IsB (body_Get.c1 0 0 0 0 0 0 0 0 0 0 0 0 0 0 0 0 0 0 0 0 0 0 0) 29 w3.heap.size) v w') (does_var (x_alloc rfl (by kernel_rfl)) (hBw3_w3).size) ?_
 rintro vw5 w5 ⟨hb, he⟩
 have hBw5_w := below_step hBw3_w hb
 have hBw5_w3 := below_step hBw3_w3 hb
 have hBw5_w5 := Below.refl w5.heap.size w5
 obtain ⟨g6, rfl, hgeg6, hbxg6⟩ := he
 have hne7 : g6 ≠ g4 := Nat.ne_of_gt (Nat.lt_of_lt_of_le (blk_lt ((hBw3_w3.block g4 (blk_lt hbxg4)).trans hbxg4)) hgeg6)
 refine hS.next (v := .pointer (some ⟨g6, 0, none⟩)) (d := 6) rfl (by decide) (by rfl) ?_
 clear hS
 intro at8 hS
 refine list_step rfl (R := fun v w' => Below _ _ w' ∧ (VI 0) v w') (does_val (x_assign rfl (rfl)) rfl) ?_
 rintro vw9 w9 ⟨hb, he⟩
 have hBw9_w := below_step hBw5_w hb
 have hBw9_w3 := below_step hBw5_w3 hb
 have hBw9_w5 := below_step hBw5_w5 hb
 have hBw9_w9 := Below.refl w9.heap.size w9
 obtain rfl : vw9 = .int .i64 0 := he
 refine hS.next (v := .int .i64 0) (d := 7) rfl (by decide) (by rfl) ?_
 clear hS
 intro at10 hS
 refine list_step rfl (R := fun v w' => Below _ _ w' ∧ (VI 0) v w') (does_val (x_assign rfl (rfl)) rfl) ?_
 rintro vw11 w11 ⟨hb, he⟩
 have hBw11_w := below_step hBw9_w hb
 have hBw11_w3 := below_step hBw9_w3 hb
 have hBw11_w5 := below_step hBw9_w5 hb
 have hBw11_w9 := below_step hBw9_w9 hb
 have hBw11_w11 := Below.refl w11.heap.size w11
 obtain rfl : vw11 = .int .i64 0 := he
 refine hS.next (v := .int .i64 0) (d := 8) rfl (by decide) (by rfl) ?_
 clear hS
 intro at12 hS
 refine wpList_nil ?_
 refine hK1 _ _ ?_
 (try clear hK1 K1)
 refine wp_scope_fwd 0 (fun aL1 wL1 => ∃ (y1_1 : List Int) (AL1_1 : Option Addr) (CL1_1 : Nat) (x1_2 x1_3_0 x1_3_1 x1_3_2 x1_3_3 x1_3_4 x1_3_5 x1_3_6 x1_3_7 x1_3_8 x1_3_9 x1_3_10 x1_3_11 x1_3_12 x1_3_13 x1_3_14 x1_3_15 x1_3_16 x1_3_17 x1_3_18 x1_3_19 x1_3_20 x1_3_21 x1_3_22 : Int) (gL1_3 : Nat) (x1_6_0 x1_6_1 x1_6_2 x1_6_3 x1_6_4 x1_6_5 x1_6_6 x1_6_7 x1_6_8 x1_6_9 x1_6_10 x1_6_11 x1_6_12 x1_6_13 x1_6_14 x1_6_15 x1_6_16 x1_6_17 x1_6_18 x1_6_19 x1_6_20 x1_6_21 x1_6_22 : Int) (gL1_6 : Nat) (x1_9 x1_10 : Int) , body_Get.j1 k y1_1 x1_2 x1_3_0 x1_3_1 x1_3_2 x1_3_3 x1_3_4 x1_3_5 x1_3_6 x1_3_7 x1_3_8 x1_3_9 x1_3_10 x1_3_11 x1_3_12 x1_3_13 x1_3_14 x1_3_15 x1_3_16 x1_3_17 x1_3_18 x1_3_19 x1_3_20 x1_3_21 x1_3_22 x1_6_0 x1_6_1 x1_6_2 x1_6_3 x1_6_4 x1_6_5 x1_6_6 x1_6_7 x1_6_8 x1_6_9 x1_6_10 x1_6_11 x1_6_12 x1_6_13 x1_6_14 x1_6_15 x1_6_16 x1_6_17 x1_6_18 x1_6_19 x1_6_20 x1_6_21 x1_6_22 x1_9 x1_10 = some (r1, r2, r3, r4, r5, r6, r7, r8, r9, r10, r11, r12, r13, r14, r15, r16, r17, r18, r19, r20, r21, r22, r23, r24, r25) ∧ St 151 [(1, .slice AL1_1 y1_1.length CL1_1), (2, .int .i64 x1_2), (3, .pointer (some ⟨gL1_3, 0, none⟩)), (6, .pointer (some ⟨gL1_6, 0, none⟩)), (9, .int .i64 x1_9), (10, .int .i64 x1_10)] aL1 ∧ Below w.heap.size w wL1 ∧ y1_1.length ≤ CL1_1 ∧ Kd.C (Kd.int .u8) w AL1_1 y1_1.length y1_1 ∧ w.heap.size ≤ gL1_3 ∧ wL1.heap[gL1_3]? = some (.cells (body_Get.c1 x1_3_0 x1_3_1 x1_3_2 x1_3_3 x1_3_4 x1_3_5 x1_3_6 x1_3_7 x1_3_8 x1_3_9 x1_3_10 x1_3_11 x1_3_12 x1_3_13 x1_3_14 x1_3_15 x1_3_16 x1_3_17 x1_3_18 x1_3_19 x1_3_20 x1_3_21 x1_3_22) 29 (0, 0)) ∧ w.heap.size ≤ gL1_6 ∧ wL1.heap[gL1_6]? = some (.cells (body_Get.c1 x1_6_0 x1_6_1 x1_6_2 x1_6_3 x1_6_4 x1_6_5 x1_6_6 x1_6_7 x1_6_8 x1_6_9 x1_6_10 x1_6_11 x1_6_12 x1_6_13 x1_6_14 x1_6_15 x1_6_16 x1_6_17 x1_6_18 x1_6_19 x1_6_20 x1_6_21 x1_6_22) 29 (0, 0)) ∧ gL1_6 ≠ gL1_3) rfl ?_ (fun J1 => ?_)
 ·clear H hS
  rintro aL1 wL1 ⟨y1_1, AL1_1, CL1_1, x1_2, x1_3_0, x1_3_1, x1_3_2, x1_3_3, x1_3_4, x1_3_5, x1_3_6, x1_3_7, x1_3_8, x1_3_9, x1_3_10, x1_3_11, x1_3_12, x1_3_13, x1_3_14, x1_3_15, x1_3_16, x1_3_17, x1_3_18, x1_3_19, x1_3_20, x1_3_21, x1_3_22, gL1_3, x1_6_0, x1_6_1, x1_6_2, x1_6_3, x1_6_4, x1_6_5, x1_6_6, x1_6_7, x1_6_8, x1_6_9, x1_6_10, x1_6_11, x1_6_12, x1_6_13, x1_6_14, x1_6_15, x1_6_16, x1_6_17, x1_6_18, x1_6_19, x1_6_20, x1_6_21, x1_6_22, gL1_6, x1_9, x1_10, H, hS, hBwL1_w, hr1_1, hcL1_1, hgeLgL1_3, hbxLgL1_3, hgeLgL1_6, hbxLgL1_6, hneL1_6_3⟩
  unfold body_Get.j1 at H
  (try dsimp only at H)
  have hBwL1_wL1 := Below.refl wL1.heap.size wL1
  refine wp_seq_k (fun K1001 hK1001 => ?_)
  have J3 : ∀ (aL3 : Act) (wL3 : World) (y3_1 : List Int) (AL3_1 : Option Addr) (CL3_1 : Nat) (x3_2 x3_3_0 x3_3_1 x3_3_2 x3_3_3 x3_3_4 x3_3_5 x3_3_6 x3_3_7 x3_3_8 x3_3_9 x3_3_10 x3_3_11 x3_3_12 x3_3_13 x3_3_14 x3_3_15 x3_3_16 x3_3_17 x3_3_18 x3_3_19 x3_3_20 x3_3_21 x3_3_22 : Int) (gL3_3 : Nat) (x3_6_0 x3_6_1 x3_6_2 x3_6_3 x3_6_4 x3_6_5 x3_6_6 x3_6_7 x3_6_8 x3_6_9 x3_6_10 x3_6_11 x3_6_12 x3_6_13 x3_6_14 x3_6_15 x3_6_16 x3_6_17 x3_6_18 x3_6_19 x3_6_20 x3_6_21 x3_6_22 : Int) (gL3_6 : Nat) (x3_9 x3_10 : Int), body_Get.j3 k y3_1 x3_2 x3_3_0 x3_3_1 x3_3_2 x3_3_3 x3_3_4 x3_3_5 x3_3_6 x3_3_7 x3_3_8 x3_3_9 x3_3_10 x3_3_11 x3_3_12 x3_3_13 x3_3_14 x3_3_15 x3_3_16 x3_3_17 x3_3_18 x3_3_19 x3_3_20 x3_3_21 x3_3_22 x3_6_0 x3_6_1 x3_6_2 x3_6_3 x3_6_4 x3_6_5 x3_6_6 x3_6_7 x3_6_8 x3_6_9 x3_6_10 x3_6_11 x3_6_12 x3_6_13 x3_6_14 x3_6_15 x3_6_16 x3_6_17 x3_6_18 x3_6_19 x3_6_20 x3_6_21 x3_6_22 x3_9 x3_10 = some (r1, r2, r3, r4, r5, r6, r7, r8, r9, r10, r11, r12, r13, r14, r15, r16, r17, r18, r19, r20, r21, r22, r23, r24, r25) → St 151 [(1, .slice AL3_1 y3_1.length CL3_1), (2, .int .i64 x3_2), (3, .pointer (some ⟨gL3_3, 0, none⟩)), (6, .pointer (some ⟨gL3_6, 0, none⟩)), (9, .int .i64 x3_9), (10, .int .i64 x3_10)] aL3 → Below w.heap.size w wL3 → y3_1.length ≤ CL3_1 → Kd.C (Kd.int .u8) w AL3_1 y3_1.length y3_1 → w.heap.size ≤ gL3_3 → wL3.heap[gL3_3]? = some (.cells (body_Get.c1 x3_3_0 x3_3_1 x3_3_2 x3_3_3 x3_3_4 x3_3_5 x3_3_6 x3_3_7 x3_3_8 x3_3_9 x3_3_10 x3_3_11 x3_3_12 x3_3_13 x3_3_14 x3_3_15 x3_3_16 x3_3_17 x3_3_18 x3_3_19 x3_3_20 x3_3_21 x3_3_22) 29 (0, 0)) → w.heap.size ≤ gL3_6 → wL3.heap[gL3_6]? = some (.cells (body_Get.c1 x3_6_0 x3_6_1 x3_6_2 x3_6_3 x3_6_4 x3_6_5 x3_6_6 x3_6_7 x3_6_8 x3_6_9 x3_6_10 x3_6_11 x3_6_12 x3_6_13 x3_6_14 x3_6_15 x3_6_16 x3_6_17 x3_6_18 x3_6_19 x3_6_20 x3_6_21 x3_6_22) 29 (0, 0)) → gL3_6 ≠ gL3_3 → K1001 aL3 wL3 := by
   intro aL3 wL3 y3_1 AL3_1 CL3_1 x3_2 x3_3_0 x3_3_1 x3_3_2 x3_3_3 x3_3_4 x3_3_5 x3_3_6 x3_3_7 x3_3_8 x3_3_9 x3_3_10 x3_3_11 x3_3_12 x3_3_13 x3_3_14 x3_3_15 x3_3_16 x3_3_17 x3_3_18 x3_3_19 x3_3_20 x3_3_21 x3_3_22 gL3_3 x3_6_0 x3_6_1 x3_6_2 x3_6_3 x3_6_4 x3_6_5 x3_6_6 x3_6_7 x3_6_8 x3_6_9 x3_6_10 x3_6_11 x3_6_12 x3_6_13 x3_6_14 x3_6_15 x3_6_16 x3_6_17 x3_6_18 x3_6_19 x3_6_20 x3_6_21 x3_6_22 gL3_6 x3_9 x3_10 H hS hBwL3_w hr3_1 hcL3_1 hgeLgL3_3 hbxLgL3_3 hgeLgL3_6 hbxLgL3_6 hneL3_6_3
   unfold body_Get.j3 at H
   (try dsimp only at H)
   have hBwL3_wL3 := Below.refl wL3.heap.size wL3
   refine hK1001 _ _ ?_
   (try clear hK1001 K1001)
   refine wp_seq_k (fun K3001 hK3001 => ?_)
   have J4 : ∀ (aL4 : Act) (wL4 : World) (x4_3_0 x4_3_1 x4_3_2 x4_3_3 x4_3_4 x4_3_5 x4_3_6 x4_3_7 x4_3_8 x4_3_9 x4_3_10 x4_3_11 x4_3_12 x4_3_13 x4_3_14 x4_3_15 x4_3_16 x4_3_17 x4_3_18 x4_3_19 x4_3_20 x4_3_21 x4_3_22 : Int) (gL4_3 : Nat) (x4_6_0 x4_6_1 x4_6_2 x4_6_3 x4_6_4 x4_6_5 x4_6_6 x4_6_7 x4_6_8 x4_6_9 x4_6_10 x4_6_11 x4_6_12 x4_6_13 x4_6_14 x4_6_15 x4_6_16 x4_6_17 x4_6_18 x4_6_19 x4_6_20 x4_6_21 x4_6_22 : Int) (gL4_6 : Nat) (x4_9 x4_10 : Int), body_Get.j4 k x4_3_0 x4_3_1 x4_3_2 x4_3_3 x4_3_4 x4_3_5 x4_3_6 x4_3_7 x4_3_8 x4_3_9 x4_3_10 x4_3_11 x4_3_12 x4_3_13 x4_3_14 x4_3_15 x4_3_16 x4_3_17 x4_3_18 x4_3_19 x4_3_20 x4_3_21 x4_3_22 x4_6_0 x4_6_1 x4_6_2 x4_6_3 x4_6_4 x4_6_5 x4_6_6 x4_6_7 x4_6_8 x4_6_9 x4_6_10 x4_6_11 x4_6_12 x4_6_13 x4_6_14 x4_6_15 x4_6_16 x4_6_17 x4_6_18 x4_6_19 x4_6_20 x4_6_21 x4_6_22 x4_9 x4_10 = some (r1, r2, r3, r4, r5, r6, r7, r8, r9, r10, r11, r12, r13, r14, r15, r16, r17, r18, r19, r20, r21, r22, r23, r24, r25) → St 151 [(3, .pointer (some ⟨gL4_3, 0, none⟩)), (6, .pointer (some ⟨gL4_6, 0, none⟩)), (9, .int .i64 x4_9), (10, .int .i64 x4_10)] aL4 → Below w.heap.size w wL4 → w.heap.size ≤ gL4_3 → wL4.heap[gL4_3]? = some (.cells (body_Get.c1 x4_3_0 x4_3_1 x4_3_2 x4_3_3 x4_3_4 x4_3_5 x4_3_6 x4_3_7 x4_3_8 x4_3_9 x4_3_10 x4_3_11 x4_3_12 x4_3_13 x4_3_14 x4_3_15 x4_3_16 x4_3_17 x4_3_18 x4_3_19 x4_3_20 x4_3_21 x4_3_22) 29 (0, 0)) → w.heap.size ≤ gL4_6 → wL4.heap[gL4_6]? = some (.cells (body_Get.c1 x4_6_0 x4_6_1 x4_6_2 x4_6_3 x4_6_4 x4_6_5 x4_6_6 x4_6_7 x4_6_8 x4_6_9 x4_6_10 x4_6_11 x4_6_12 x4_6_13 x4_6_14 x4_6_15 x4_6_16 x4_6_17 x4_6_18 x4_6_19 x4_6_20 x4_6_21 x4_6_22) 29 (0, 0)) → gL4_6 ≠ gL4_3 → K3001 aL4 wL4 := by
    intro aL4 wL4 x4_3_0 x4_3_1 x4_3_2 x4_3_3 x4_3_4 x4_3_5 x4_3_6 x4_3_7 x4_3_8 x4_3_9 x4_3_10 x4_3_11 x4_3_12 x4_3_13 x4_3_14 x4_3_15 x4_3_16 x4_3_17 x4_3_18 x4_3_19 x4_3_20 x4_3_21 x4_3_22 gL4_3 x4_6_0 x4_6_1 x4_6_2 x4_6_3 x4_6_4 x4_6_5 x4_6_6 x4_6_7 x4_6_8 x4_6_9 x4_6_10 x4_6_11 x4_6_12 x4_6_13 x4_6_14 x4_6_15 x4_6_16 x4_6_17 x4_6_18 x4_6_19 x4_6_20 x4_6_21 x4_6_22 gL4_6 x4_9 x4_10 H hS hBwL4_w hgeLgL4_3 hbxLgL4_3 hgeLgL4_6 hbxLgL4_6 hneL4_6_3
    unfold body_Get.j4 at H
    (try dsimp only at H)
    simp only [Option.some.injEq, Prod.mk.injEq] at H
    obtain ⟨rfl, rfl, rfl, rfl, rfl, rfl, rfl, rfl, rfl, rfl, rfl, rfl, rfl, rfl, rfl, rfl, rfl, rfl, rfl, rfl, rfl, rfl, rfl, rfl, rfl⟩ := H
    have hBwL4_wL4 := Below.refl wL4.heap.size wL4
    refine hK3001 _ _ ?_
    (try clear hK3001 K3001)
    refine wp_seq_k (fun K4001 hK4001 => ?_)
    refine reg_seq_tail 4 (N := 151) (bs := [(3, .pointer (some ⟨gL4_3, 0, none⟩)), (6, .pointer (some ⟨gL4_6, 0, none⟩)), (9, .int .i64 x4_9), (10, .int .i64 x4_10)]) (I := fun x => Below w.heap.size w x ∧ Below wL4.heap.size wL4 x) (ps := [IsV ((body_Get.v0 x4_3_0 x4_3_1 x4_3_2 x4_3_3 x4_3_4 x4_3_5 x4_3_6 x4_3_7 x4_3_8 x4_3_9 x4_3_10 x4_3_11 x4_3_12 x4_3_13 x4_3_14 x4_3_15 x4_3_16 x4_3_17 x4_3_18 x4_3_19 x4_3_20 x4_3_21 x4_3_22)), VI x4_9, VI x4_10, VI (wrap64 (x4_9 + x4_10))]) (by kernel_rfl) ?_ ?_ rfl hS ⟨hBwL4_w, hBwL4_wL4⟩ ?_ ?_
    ·exact fun x y hI hb => ⟨below_step hI.1 hb, below_step hI.2 hb⟩
    ·exact .v (.v (.v (.v (.nil))))
    ·refine .on rfl (fun a w hS hI hp => does_loadrow rfl (hS.get 0 rfl) (((hI.2).block gL4_3 (blk_lt hbxLgL4_3)).trans hbxLgL4_3) Try.underlying29 rfl (by kernel_rfl) rfl) ?_
     refine .ms 2 rfl rfl rfl ?_
     refine .ms 3 rfl rfl rfl ?_
     refine .on rfl (fun a w hS hI hp => does_val (x_bin rfl (hp.V 1 rfl rfl) (hp.V 2 rfl rfl) (b_add _ _ _ _ _)) rfl) ?_
     exact .nil
    clear hS
    intro at4002 w4003 hS hI hp
    have hBw4003_w := hI.1
    have hBw4003_wL4 := hI.2
    replace hS := (hS.nil).cons (hS.get 1 rfl)
    have hv147 : sl _ 147 = (body_Get.v0 x4_3_0 x4_3_1 x4_3_2 x4_3_3 x4_3_4 x4_3_5 x4_3_6 x4_3_7 x4_3_8 x4_3_9 x4_3_10 x4_3_11 x4_3_12 x4_3_13 x4_3_14 x4_3_15 x4_3_16 x4_3_17 x4_3_18 x4_3_19 x4_3_20 x4_3_21 x4_3_22) := hp 0 (by decide)
    have hv150 : sl _ 150 = .int .i64 (wrap64 (x4_9 + x4_10)) := hp 3 (by decide)
    have hBw4003_w4003 := Below.refl w4003.heap.size w4003
    have hS := hS.cons hv147
    have hS := hS.cons hv150
    clear hp hI hv147 hv150
    show wpList _ _ _ [_, _, _] _ _
    refine list_step rfl (does_storeAll (g := gL4_6) (cs := (body_Get.c1 x4_3_0 x4_3_1 x4_3_2 x4_3_3 x4_3_4 x4_3_5 x4_3_6 x4_3_7 x4_3_8 x4_3_9 x4_3_10 x4_3_11 x4_3_12 x4_3_13 x4_3_14 x4_3_15 x4_3_16 x4_3_17 x4_3_18 x4_3_19 x4_3_20 x4_3_21 x4_3_22)) rfl (hS.get 2 rfl) (hS.get 1 rfl) ((hBw4003_wL4.block gL4_6 (blk_lt hbxLgL4_6)).trans hbxLgL4_6) (by kernel_rfl) (by kernel_rfl) (by kernel_rfl)) ?_
    rintro vw4004 w4004 ⟨rfl, hbxw4004, hT⟩
    have hn4005 := hT.blk ((hBw4003_wL4.block gL4_3 (blk_lt hbxLgL4_3)).trans hbxLgL4_3) (Ne.symm hneL4_6_3)
    have hBw4004_w := hT.below hBw4003_w hgeLgL4_6 (hBw4003_w).size
    have hBw4004_w4004 := Below.refl w4004.heap.size w4004
    clear hT
    refine list_step rfl (R := fun v w' => Below _ _ w' ∧ (VI (wrap64 (x4_9 + x4_10))) v w') (does_val (x_assign rfl (hS.get 0 rfl)) rfl) ?_
    rintro vw4006 w4006 ⟨hb, he⟩
    have hBw4006_w := below_step hBw4004_w hb
    have hBw4006_w4004 := below_step hBw4004_w4004 hb
    have hBw4006_w4006 := Below.refl w4006.heap.size w4006
    obtain rfl : vw4006 = .int .i64 (wrap64 (x4_9 + x4_10)) := he
    refine hS.next (v := .int .i64 (wrap64 (x4_9 + x4_10))) (d := 7) rfl (by decide) (by rfl) ?_
    clear hS
    intro at4007 hS
    refine list_step rfl (R := fun v w' => Below _ _ w' ∧ (VI 0) v w') (does_val (x_assign rfl (rfl)) rfl) ?_
    rintro vw4008 w4008 ⟨hb, he⟩
    have hBw4008_w := below_step hBw4006_w hb
    have hBw4008_w4004 := below_step hBw4006_w4004 hb
    have hBw4008_w4006 := below_step hBw4006_w4006 hb
    have hBw4008_w4008 := Below.refl w4008.heap.size w4008
    obtain rfl : vw4008 = .int .i64 0 := he
    refine hS.next (v := .int .i64 0) (d := 8) rfl (by decide) (by rfl) ?_
    clear hS
    intro at4009 hS
    refine wpList_nil ?_
    refine hK4001 _ _ ?_
    (try clear hK4001 K4001)
    refine wp_ret ?_
    (try simp only [Exit.then, Exit.inBlock, Exit.jump, Exit.noGoto])
    exact bodyPost_ret (v := .tuple #[(body_Get.v0 x4_3_0 x4_3_1 x4_3_2 x4_3_3 x4_3_4 x4_3_5 x4_3_6 x4_3_7 x4_3_8 x4_3_9 x4_3_10 x4_3_11 x4_3_12 x4_3_13 x4_3_14 x4_3_15 x4_3_16 x4_3_17 x4_3_18 x4_3_19 x4_3_20 x4_3_21 x4_3_22), .int .i64 (wrap64 (x4_9 + x4_10)), .int .i64 0]) (results_list (rs := [.cell 6 29, .tmp 7, .tmp 8]) rfl (by simp) (Vals.cell gL4_6 29 (body_Get.c1 x4_3_0 x4_3_1 x4_3_2 x4_3_3 x4_3_4 x4_3_5 x4_3_6 x4_3_7 x4_3_8 x4_3_9 x4_3_10 x4_3_11 x4_3_12 x4_3_13 x4_3_14 x4_3_15 x4_3_16 x4_3_17 x4_3_18 x4_3_19 x4_3_20 x4_3_21 x4_3_22) (0, 0) _ (hS.get 4 rfl) ((hBw4008_w4004.block gL4_6 (blk_lt hbxw4004)).trans hbxw4004) Try.underlying29 rfl (by kernel_rfl) (Vals.at (hS.get 1 rfl) (Vals.at (hS.get 0 rfl) .nil)))) hS.nodef ⟨rfl, hBw4008_w⟩
   by_cases c1 : x3_3_0 = 11
   rotate_left
   ·rw [if_neg c1] at H
    by_cases c2 : x3_3_0 = 13
    rotate_left
    ·rw [if_neg c2] at H
     refine wp_seq_k (fun K3002 hK3002 => ?_)
     refine reg_seq (N := 151) (bs := [(1, .slice AL3_1 y3_1.length CL3_1), (2, .int .i64 x3_2), (3, .pointer (some ⟨gL3_3, 0, none⟩)), (6, .pointer (some ⟨gL3_6, 0, none⟩)), (9, .int .i64 x3_9), (10, .int .i64 x3_10)]) (I := fun x => Below w.heap.size w x ∧ Below wL3.heap.size wL3 x) (ps := [VP gL3_3 0, VI x3_3_0]) (by kernel_rfl) ?_ ?_ rfl hS ⟨hBwL3_w, hBwL3_wL3⟩ ?_ ?_
     ·exact fun x y hI hb => ⟨below_step hI.1 hb, below_step hI.2 hb⟩
     ·exact .v (.v (.nil))
     ·refine .on rfl (fun a w hS hI hp => does_val (x_fieldE (b := 0) rfl (hS.get 2 rfl) Try.underlying29 rfl rfl (by kernel_rfl)) rfl) ?_
      refine .on rfl (fun a w hS hI hp => does_val (x_load1 (d := .int .i64) rfl (hp.V 0 rfl rfl) (by kernel_rfl) rfl ((blk_cell (((hI.2).block gL3_3 (blk_lt hbxLgL3_3)).trans hbxLgL3_3) 0).trans rfl)) rfl) ?_
      exact .nil
     clear hS
     intro at3003 w3004 hS hI hp
     have hBw3004_w := hI.1
     have hBw3004_wL3 := hI.2
     have hv66 : sl _ 66 = .int .i64 x3_3_0 := hp 1 (by decide)
     have hBw3004_w3004 := Below.refl w3004.heap.size w3004
     have hS := hS.cons hv66
     clear hp hI hv66
     refine hK3002 _ _ ?_
     (try clear hK3002 K3002)
     refine wp_block ?_
     refine wp_seq_k (fun K3005 hK3005 => ?_)
     refine reg_seq (N := 151) (bs := [(66, .int .i64 x3_3_0), (1, .slice AL3_1 y3_1.length CL3_1), (2, .int .i64 x3_2), (3, .pointer (some ⟨gL3_3, 0, none⟩)), (6, .pointer (some ⟨gL3_6, 0, none⟩)), (9, .int .i64 x3_9), (10, .int .i64 x3_10)]) (I := fun x => Below w.heap.size w x ∧ Below wL3.heap.size wL3 x ∧ Below w3004.heap.size w3004 x) (ps := [VB (decide (x3_3_0 = 11)), VB (decide (x3_3_0 = 11))]) (by kernel_rfl) ?_ ?_ rfl hS ⟨hBw3004_w, hBw3004_wL3, hBw3004_w3004⟩ ?_ ?_
     ·exact fun x y hI hb => ⟨below_step hI.1 hb, below_step hI.2.1 hb, below_step hI.2.2 hb⟩
     ·exact .v (.v (.nil))
     ·refine .on rfl (fun a w hS hI hp => does_val (x_bin rfl (hS.get 0 rfl) (rfl) (b_eql _ _ _ _ _ _)) rfl) ?_
      refine .asg 0 rfl rfl rfl rfl ?_
      exact .nil
     clear hS
     intro at3006 w3007 hS hI hp
     have hBw3007_w := hI.1
     have hBw3007_wL3 := hI.2.1
     have hBw3007_w3004 := hI.2.2
     have hv67 : sl _ 67 = .bool (decide (x3_3_0 = 11)) := hp 1 (by decide)
     have hBw3007_w3007 := Below.refl w3007.heap.size w3007
     have hS := hS.cons hv67
     clear hp hI hv67
     refine hK3005 _ _ ?_
     (try clear hK3005 K3005)
     refine wp_cond_false ((hS.get 0 rfl).trans (bF (decide_eq_false c1))) ?_
     refine wp_seq_k (fun K3008 hK3008 => ?_)
     refine reg_seq (N := 151) (bs := [(67, .bool (decide (x3_3_0 = 11))), (66, .int .i64 x3_3_0), (1, .slice AL3_1 y3_1.length CL3_1), (2, .int .i64 x3_2), (3, .pointer (some ⟨gL3_3, 0, none⟩)), (6, .pointer (some ⟨gL3_6, 0, none⟩)), (9, .int .i64 x3_9), (10, .int .i64 x3_10)]) (I := fun x => Below w.heap.size w x ∧ Below wL3.heap.size wL3 x ∧ Below w3007.heap.size w3007 x) (ps := [VB (decide (x3_3_0 = 13)), VB (decide (x3_3_0 = 13))]) (by kernel_rfl) ?_ ?_ rfl hS ⟨hBw3007_w, hBw3007_wL3, hBw3007_w3007⟩ ?_ ?_
     ·exact fun x y hI hb => ⟨below_step hI.1 hb, below_step hI.2.1 hb, below_step hI.2.2 hb⟩
     ·exact .v (.v (.nil))
     ·refine .on rfl (fun a w hS hI hp => does_val (x_bin rfl (hS.get 1 rfl) (rfl) (b_eql _ _ _ _ _ _)) rfl) ?_
      refine .asg 0 rfl rfl rfl rfl ?_
      exact .nil
     clear hS
     intro at3009 w3010 hS hI hp
     have hBw3010_w := hI.1
     have hBw3010_wL3 := hI.2.1
     have hBw3010_w3007 := hI.2.2
     replace hS := ((((((hS.nil).cons (hS.get 7 rfl)).cons (hS.get 6 rfl)).cons (hS.get 5 rfl)).cons (hS.get 4 rfl)).cons (hS.get 3 rfl)).cons (hS.get 2 rfl)
     have hv124 : sl _ 124 = .bool (decide (x3_3_0 = 13)) := hp 1 (by decide)
     have hBw3010_w3010 := Below.refl w3010.heap.size w3010
     have hS := hS.cons hv124
     clear hp hI hv124
     refine hK3008 _ _ ?_
     (try clear hK3008 K3008)
     refine wp_cond_false ((hS.get 0 rfl).trans (bF (decide_eq_false c2))) ?_
     refine wp_skip ?_
     replace hS := ((((hS.nil).cons (hS.get 6 rfl)).cons (hS.get 5 rfl)).cons (hS.get 4 rfl)).cons (hS.get 3 rfl)
     (try simp only [Exit.then, Exit.inBlock])
     exact J4 _ _ x3_3_0 x3_3_1 x3_3_2 x3_3_3 x3_3_4 x3_3_5 x3_3_6 x3_3_7 x3_3_8 x3_3_9 x3_3_10 x3_3_11 x3_3_12 x3_3_13 x3_3_14 x3_3_15 x3_3_16 x3_3_17 x3_3_18 x3_3_19 x3_3_20 x3_3_21 x3_3_22 gL3_3 x3_6_0 x3_6_1 x3_6_2 x3_6_3 x3_6_4 x3_6_5 x3_6_6 x3_6_7 x3_6_8 x3_6_9 x3_6_10 x3_6_11 x3_6_12 x3_6_13 x3_6_14 x3_6_15 x3_6_16 x3_6_17 x3_6_18 x3_6_19 x3_6_20 x3_6_21 x3_6_22 gL3_6 x3_9 x3_10 H hS hBw3010_w hgeLgL3_3 ((hBw3010_wL3.block gL3_3 (blk_lt hbxLgL3_3)).trans hbxLgL3_3) hgeLgL3_6 ((hBw3010_wL3.block gL3_6 (blk_lt hbxLgL3_6)).trans hbxLgL3_6) hneL3_6_3
    rw [if_pos c2] at H
    by_cases c3 : 0 ≤ x3_2
    rotate_left
    ·rw [if_neg c3] at H
     exact absurd H (by simp)
    rw [if_pos c3] at H
    by_cases c4 : x3_2 < (y3_1.length : Int)
    rotate_left
    ·rw [if_neg c4] at H
     exact absurd H (by simp)
    rw [if_pos c4] at H
    by_cases c5 : 0 ≤ (wrap64 (x3_2 + 1))
    rotate_left
    ·rw [if_neg c5] at H
     exact absurd H (by simp)
    rw [if_pos c5] at H
    by_cases c6 : (wrap64 (x3_2 + 1)) < (y3_1.length : Int)
    rotate_left
    ·rw [if_neg c6] at H
     exact absurd H (by simp)
    rw [if_pos c6] at H
    by_cases c7 : 0 ≤ (wrap64 (x3_2 + 2))
    rotate_left
    ·rw [if_neg c7] at H
     exact absurd H (by simp)
    rw [if_pos c7] at H
    by_cases c8 : (wrap64 (x3_2 + 2)) < (y3_1.length : Int)
    rotate_left
    ·rw [if_neg c8] at H
     exact absurd H (by simp)
    rw [if_pos c8] at H
    refine wp_seq_k (fun K3002 hK3002 => ?_)
    refine reg_seq (N := 151) (bs := [(1, .slice AL3_1 y3_1.length CL3_1), (2, .int .i64 x3_2), (3, .pointer (some ⟨gL3_3, 0, none⟩)), (6, .pointer (some ⟨gL3_6, 0, none⟩)), (9, .int .i64 x3_9), (10, .int .i64 x3_10)]) (I := fun x => Below w.heap.size w x ∧ Below wL3.heap.size wL3 x) (ps := [VP gL3_3 0, VI x3_3_0]) (by kernel_rfl) ?_ ?_ rfl hS ⟨hBwL3_w, hBwL3_wL3⟩ ?_ ?_
    ·exact fun x y hI hb => ⟨below_step hI.1 hb, below_step hI.2 hb⟩
    ·exact .v (.v (.nil))
    ·refine .on rfl (fun a w hS hI hp => does_val (x_fieldE (b := 0) rfl (hS.get 2 rfl) Try.underlying29 rfl rfl (by kernel_rfl)) rfl) ?_
     refine .on rfl (fun a w hS hI hp => does_val (x_load1 (d := .int .i64) rfl (hp.V 0 rfl rfl) (by kernel_rfl) rfl ((blk_cell (((hI.2).block gL3_3 (blk_lt hbxLgL3_3)).trans hbxLgL3_3) 0).trans rfl)) rfl) ?_
     exact .nil
    clear hS
    intro at3003 w3004 hS hI hp
    have hBw3004_w := hI.1
    have hBw3004_wL3 := hI.2
    have hv66 : sl _ 66 = .int .i64 x3_3_0 := hp 1 (by decide)
    have hBw3004_w3004 := Below.refl w3004.heap.size w3004
    have hS := hS.cons hv66
    clear hp hI hv66
    refine hK3002 _ _ ?_
    (try clear hK3002 K3002)
    refine wp_block ?_
    refine wp_seq_k (fun K3005 hK3005 => ?_)
    refine reg_seq (N := 151) (bs := [(66, .int .i64 x3_3_0), (1, .slice AL3_1 y3_1.length CL3_1), (2, .int .i64 x3_2), (3, .pointer (some ⟨gL3_3, 0, none⟩)), (6, .pointer (some ⟨gL3_6, 0, none⟩)), (9, .int .i64 x3_9), (10, .int .i64 x3_10)]) (I := fun x => Below w.heap.size w x ∧ Below wL3.heap.size wL3 x ∧ Below w3004.heap.size w3004 x) (ps := [VB (decide (x3_3_0 = 11)), VB (decide (x3_3_0 = 11))]) (by kernel_rfl) ?_ ?_ rfl hS ⟨hBw3004_w, hBw3004_wL3, hBw3004_w3004⟩ ?_ ?_
    ·exact fun x y hI hb => ⟨below_step hI.1 hb, below_step hI.2.1 hb, below_step hI.2.2 hb⟩
    ·exact .v (.v (.nil))
    ·refine .on rfl (fun a w hS hI hp => does_val (x_bin rfl (hS.get 0 rfl) (rfl) (b_eql _ _ _ _ _ _)) rfl) ?_
     refine .asg 0 rfl rfl rfl rfl ?_
     exact .nil
    clear hS
    intro at3006 w3007 hS hI hp
    have hBw3007_w := hI.1
    have hBw3007_wL3 := hI.2.1
    have hBw3007_w3004 := hI.2.2
    have hv67 : sl _ 67 = .bool (decide (x3_3_0 = 11)) := hp 1 (by decide)
    have hBw3007_w3007 := Below.refl w3007.heap.size w3007
    have hS := hS.cons hv67
    clear hp hI hv67
    refine hK3005 _ _ ?_
    (try clear hK3005 K3005)
    refine wp_cond_false ((hS.get 0 rfl).trans (bF (decide_eq_false c1))) ?_
    refine wp_seq_k (fun K3008 hK3008 => ?_)
    refine reg_seq (N := 151) (bs := [(67, .bool (decide (x3_3_0 = 11))), (66, .int .i64 x3_3_0), (1, .slice AL3_1 y3_1.length CL3_1), (2, .int .i64 x3_2), (3, .pointer (some ⟨gL3_3, 0, none⟩)), (6, .pointer (some ⟨gL3_6, 0, none⟩)), (9, .int .i64 x3_9), (10, .int .i64 x3_10)]) (I := fun x => Below w.heap.size w x ∧ Below wL3.heap.size wL3 x ∧ Below w3007.heap.size w3007 x) (ps := [VB (decide (x3_3_0 = 13)), VB (decide (x3_3_0 = 13))]) (by kernel_rfl) ?_ ?_ rfl hS ⟨hBw3007_w, hBw3007_wL3, hBw3007_w3007⟩ ?_ ?_
    ·exact fun x y hI hb => ⟨below_step hI.1 hb, below_step hI.2.1 hb, below_step hI.2.2 hb⟩
    ·exact .v (.v (.nil))
    ·refine .on rfl (fun a w hS hI hp => does_val (x_bin rfl (hS.get 1 rfl) (rfl) (b_eql _ _ _ _ _ _)) rfl) ?_
     refine .asg 0 rfl rfl rfl rfl ?_
     exact .nil
    clear hS
    intro at3009 w3010 hS hI hp
    have hBw3010_w := hI.1
    have hBw3010_wL3 := hI.2.1
    have hBw3010_w3007 := hI.2.2
    replace hS := ((((((hS.nil).cons (hS.get 7 rfl)).cons (hS.get 6 rfl)).cons (hS.get 5 rfl)).cons (hS.get 4 rfl)).cons (hS.get 3 rfl)).cons (hS.get 2 rfl)
    have hv124 : sl _ 124 = .bool (decide (x3_3_0 = 13)) := hp 1 (by decide)
    have hBw3010_w3010 := Below.refl w3010.heap.size w3010
    have hS := hS.cons hv124
    clear hp hI hv124
    refine hK3008 _ _ ?_
    (try clear hK3008 K3008)
    refine wp_cond_true ((hS.get 0 rfl).trans (bT (decide_eq_true c2))) ?_
    obtain ⟨ad3011, hAad3011⟩ := row_some (0 : Int) (Kd.C_below hcL3_1 hBw3010_w) c3 c4
    refine reg_float (N := 151) (bs := [(124, .bool (decide (x3_3_0 = 13))), (1, .slice AL3_1 y3_1.length CL3_1), (2, .int .i64 x3_2), (3, .pointer (some ⟨gL3_3, 0, none⟩)), (6, .pointer (some ⟨gL3_6, 0, none⟩)), (9, .int .i64 x3_9), (10, .int .i64 x3_10)]) (I := fun x => Below w.heap.size w x ∧ Below wL3.heap.size wL3 x ∧ Below w3010.heap.size w3010 x) (C := fun x => Kd.C (Kd.int .u8) x AL3_1 y3_1.length y3_1) [true, true, true, true, true, true, true, true, true, true, true, true, true, true, true, true, true, true, true, false, false, false, false, false] [.slice AL3_1 y3_1.length CL3_1, .int .i64 x3_2, .pointer (some (ad3011.add ((x3_2 : Int).toNat * 1))), .int .u8 (rd y3_1 x3_2), .int .i64 (wrap64 (rd y3_1 x3_2)), .slice AL3_1 y3_1.length CL3_1, .int .i64 x3_2, .int .i64 (wrap64 (x3_2 + 1)), .pointer (some (ad3011.add ((wrap64 (x3_2 + 1) : Int).toNat * 1))), .int .u8 (rd y3_1 (wrap64 (x3_2 + 1))), .int .i64 (wrap64 (rd y3_1 (wrap64 (x3_2 + 1)))), .slice AL3_1 y3_1.length CL3_1, .int .i64 x3_2, .int .i64 (wrap64 (x3_2 + 2)), .pointer (some (ad3011.add ((wrap64 (x3_2 + 2) : Int).toNat * 1))), .int .u8 (rd y3_1 (wrap64 (x3_2 + 2))), .int .u8 (Go.bits .and .u8 (rd y3_1 (wrap64 (x3_2 + 2))) 15), .int .i64 (wrap64 (Go.bits .and .u8 (rd y3_1 (wrap64 (x3_2 + 2))) 15)), .pointer (some ⟨gL3_3, 20, none⟩), undef, undef, undef, undef, undef] [0, 0, 3, 7, 15, 0, 0, 64, 224, 480, 992, 0, 0, 4096, 14336, 30720, 63488, 129024, 31, 262175, 788479, 1837055, 4194303, 8388607] (by kernel_rfl) (by kernel_rfl) rfl ?_ ?_ hS ⟨hBw3010_w, hBw3010_wL3, hBw3010_w3010⟩ ?_ ?_
    ·exact fun x y hI hb => ⟨below_step hI.1 hb, below_step hI.2.1 hb, below_step hI.2.2 hb⟩
    ·exact fun x hI => (Kd.C_below hcL3_1 hI.1)
    ·intro a hS hp
     refine .g (fun w hC => GRun.on rfl (x_move rfl (hS.get 1 rfl))) ?_
     refine .g (fun w hC => GRun.on rfl (x_move rfl (hS.get 2 rfl))) ?_
     refine .g (fun w hC => GRun.on rfl (x_index (sz := 1) (e := 5) rfl ((hp.get 0 rfl rfl rfl).trans (by rw [hAad3011])) ((hp.get 1 rfl rfl rfl)) (by kernel_rfl) (by kernel_rfl) c3 c4)) ?_
     refine .g (fun w hC => GRun.on rfl (x_load1 (d := .int .u8) rfl ((hp.get 2 rfl rfl rfl)) (by kernel_rfl) rfl (row_cell1 (flat_int .u8) (0 : Int) (hAad3011 ▸ hC) x3_2 c3 c4 _ rfl))) ?_
     refine .g (fun w hC => GRun.on rfl ((i64_w (rd y3_1 x3_2)) ▸ x_convI rfl (by kernel_rfl) (by kernel_rfl) ((hp.get 3 rfl rfl rfl)))) ?_
     refine .g (fun w hC => GRun.on rfl (x_move rfl (hS.get 1 rfl))) ?_
     refine .g (fun w hC => GRun.on rfl (x_move rfl (hS.get 2 rfl))) ?_
     refine .g (fun w hC => GRun.on rfl (x_bin rfl ((hp.get 6 rfl rfl rfl)) (rfl) (b_add _ _ _ _ _))) ?_
     refine .g (fun w hC => GRun.on rfl (x_index (sz := 1) (e := 5) rfl ((hp.get 5 rfl rfl rfl).trans (by rw [hAad3011])) ((hp.get 7 rfl rfl rfl)) (by kernel_rfl) (by kernel_rfl) c5 c6)) ?_
     refine .g (fun w hC => GRun.on rfl (x_load1 (d := .int .u8) rfl ((hp.get 8 rfl rfl rfl)) (by kernel_rfl) rfl (row_cell1 (flat_int .u8) (0 : Int) (hAad3011 ▸ hC) (wrap64 (x3_2 + 1)) c5 c6 _ rfl))) ?_
     refine .g (fun w hC => GRun.on rfl ((i64_w (rd y3_1 (wrap64 (x3_2 + 1)))) ▸ x_convI rfl (by kernel_rfl) (by kernel_rfl) ((hp.get 9 rfl rfl rfl)))) ?_
     refine .g (fun w hC => GRun.on rfl (x_move rfl (hS.get 1 rfl))) ?_
     refine .g (fun w hC => GRun.on rfl (x_move rfl (hS.get 2 rfl))) ?_
     refine .g (fun w hC => GRun.on rfl (x_bin rfl ((hp.get 12 rfl rfl rfl)) (rfl) (b_add _ _ _ _ _))) ?_
     refine .g (fun w hC => GRun.on rfl (x_index (sz := 1) (e := 5) rfl ((hp.get 11 rfl rfl rfl).trans (by rw [hAad3011])) ((hp.get 13 rfl rfl rfl)) (by kernel_rfl) (by kernel_rfl) c7 c8)) ?_
     refine .g (fun w hC => GRun.on rfl (x_load1 (d := .int .u8) rfl ((hp.get 14 rfl rfl rfl)) (by kernel_rfl) rfl (row_cell1 (flat_int .u8) (0 : Int) (hAad3011 ▸ hC) (wrap64 (x3_2 + 2)) c7 c8 _ rfl))) ?_
     refine .g (fun w hC => GRun.on rfl (x_bin rfl ((hp.get 15 rfl rfl rfl)) (rfl) (b_and _ _ _ _ _ _))) ?_
     refine .g (fun w hC => GRun.on rfl ((i64_w (Go.bits .and .u8 (rd y3_1 (wrap64 (x3_2 + 2))) 15)) ▸ x_convI rfl (by kernel_rfl) (by kernel_rfl) ((hp.get 16 rfl rfl rfl)))) ?_
     refine .g (fun w hC => GRun.on rfl (x_fieldE (b := 0) rfl (hS.get 3 rfl) Try.underlying29 rfl rfl (by kernel_rfl))) ?_
     iterate 5 refine .t ?_
     exact .nil
    clear hS
    intro at3012 w3013 hS hp hI
    have hBw3013_w := hI.1
    have hBw3013_wL3 := hI.2.1
    have hBw3013_w3010 := hI.2.2
    have hBw3013_w3013 := Below.refl w3013.heap.size w3013
    have hS := hS.cons (show sl _ 130 = .int .i64 (wrap64 (rd y3_1 x3_2)) from hp.get 4 rfl rfl rfl)
    have hS := hS.cons (show sl _ 136 = .int .i64 (wrap64 (rd y3_1 (wrap64 (x3_2 + 1)))) from hp.get 10 rfl rfl rfl)
    have hS := hS.cons (show sl _ 143 = .int .i64 (wrap64 (Go.bits .and .u8 (rd y3_1 (wrap64 (x3_2 + 2))) 15)) from hp.get 17 rfl rfl rfl)
    have hS := hS.cons (show sl _ 144 = .pointer (some ⟨gL3_3, 20, none⟩) from hp.get 18 rfl rfl rfl)
    clear hp hI
    show ListC _ _ _ _ [_, _, _, _, _] _ _
    refine lc_step rfl (does_store (g := gL3_3) (off := 20) (v := .int .i64 (wrap64 (rd y3_1 x3_2))) (new := (body_Get.c1 x3_3_0 x3_3_1 x3_3_2 x3_3_3 x3_3_4 x3_3_5 x3_3_6 x3_3_7 x3_3_8 x3_3_9 x3_3_10 x3_3_11 x3_3_12 x3_3_13 x3_3_14 x3_3_15 x3_3_16 x3_3_17 x3_3_18 x3_3_19 (wrap64 (rd y3_1 x3_2)) x3_3_21 x3_3_22)) rfl (hS.get 0 rfl) (hS.get 3 rfl) ((hBw3013_wL3.block gL3_3 (blk_lt hbxLgL3_3)).trans hbxLgL3_3) (by kernel_rfl) (by kernel_rfl) (by kernel_rfl) (by kernel_rfl)) ?_
    rintro vw3014 w3014 ⟨rfl, hbxw3014, hT⟩
    have hn3015 := hT.blk ((hBw3013_wL3.block gL3_6 (blk_lt hbxLgL3_6)).trans hbxLgL3_6) hneL3_6_3
    have hBw3014_w := hT.below hBw3013_w hgeLgL3_3 (hBw3013_w).size
    have hBw3014_w3014 := Below.refl w3014.heap.size w3014
    clear hT
    refine ⟨(Kd.C_below hcL3_1 hBw3014_w), ?_⟩
    refine lc_step rfl (R := fun v w' => Below _ _ w' ∧ (VP gL3_3 21) v w') (does_val (x_fieldE (b := 0) rfl (hS.get 7 rfl) Try.underlying29 rfl rfl (by kernel_rfl)) rfl) ?_
    rintro vw3016 w3016 ⟨hb, he⟩
    have hBw3016_w := below_step hBw3014_w hb
    have hBw3016_w3014 := below_step hBw3014_w3014 hb
    have hBw3016_w3016 := Below.refl w3016.heap.size w3016
    obtain rfl : vw3016 = .pointer (some ⟨gL3_3, 21, none⟩) := he
    refine ⟨(Kd.C_below hcL3_1 hBw3016_w), ?_⟩
    refine hS.nextC (v := .pointer (some ⟨gL3_3, 21, none⟩)) (d := 145) rfl (by decide) (by rfl) ?_
    clear hS
    intro at3017 hS
    refine lc_step rfl (does_store (g := gL3_3) (off := 21) (v := .int .i64 (wrap64 (rd y3_1 (wrap64 (x3_2 + 1))))) (new := (body_Get.c1 x3_3_0 x3_3_1 x3_3_2 x3_3_3 x3_3_4 x3_3_5 x3_3_6 x3_3_7 x3_3_8 x3_3_9 x3_3_10 x3_3_11 x3_3_12 x3_3_13 x3_3_14 x3_3_15 x3_3_16 x3_3_17 x3_3_18 x3_3_19 (wrap64 (rd y3_1 x3_2)) (wrap64 (rd y3_1 (wrap64 (x3_2 + 1)))) x3_3_22)) rfl (hS.get 0 rfl) (hS.get 3 rfl) ((hBw3016_w3014.block gL3_3 (blk_lt hbxw3014)).trans hbxw3014) (by kernel_rfl) (by kernel_rfl) (by kernel_rfl) (by kernel_rfl)) ?_
    rintro vw3018 w3018 ⟨rfl, hbxw3018, hT⟩
    have hn3019 := hT.blk ((hBw3016_w3014.block gL3_6 (blk_lt hn3015)).trans hn3015) hneL3_6_3
    have hBw3018_w := hT.below hBw3016_w hgeLgL3_3 (hBw3016_w).size
    have hBw3018_w3018 := Below.refl w3018.heap.size w3018
    clear hT
    refine ⟨(Kd.C_below hcL3_1 hBw3018_w), ?_⟩
    refine lc_step rfl (R := fun v w' => Below _ _ w' ∧ (VP gL3_3 22) v w') (does_val (x_fieldE (b := 0) rfl (hS.get 8 rfl) Try.underlying29 rfl rfl (by kernel_rfl)) rfl) ?_
    rintro vw3020 w3020 ⟨hb, he⟩
    have hBw3020_w := below_step hBw3018_w hb
    have hBw3020_w3018 := below_step hBw3018_w3018 hb
    have hBw3020_w3020 := Below.refl w3020.heap.size w3020
    obtain rfl : vw3020 = .pointer (some ⟨gL3_3, 22, none⟩) := he
    refine ⟨(Kd.C_below hcL3_1 hBw3020_w), ?_⟩
    refine hS.nextC (v := .pointer (some ⟨gL3_3, 22, none⟩)) (d := 146) rfl (by decide) (by rfl) ?_
    clear hS
    intro at3021 hS
    refine lc_step rfl (does_store (g := gL3_3) (off := 22) (v := .int .i64 (wrap64 (Go.bits .and .u8 (rd y3_1 (wrap64 (x3_2 + 2))) 15))) (new := (body_Get.c1 x3_3_0 x3_3_1 x3_3_2 x3_3_3 x3_3_4 x3_3_5 x3_3_6 x3_3_7 x3_3_8 x3_3_9 x3_3_10 x3_3_11 x3_3_12 x3_3_13 x3_3_14 x3_3_15 x3_3_16 x3_3_17 x3_3_18 x3_3_19 (wrap64 (rd y3_1 x3_2)) (wrap64 (rd y3_1 (wrap64 (x3_2 + 1)))) (wrap64 (Go.bits .and .u8 (rd y3_1 (wrap64 (x3_2 + 2))) 15)))) rfl (hS.get 0 rfl) (hS.get 3 rfl) ((hBw3020_w3018.block gL3_3 (blk_lt hbxw3018)).trans hbxw3018) (by kernel_rfl) (by kernel_rfl) (by kernel_rfl) (by kernel_rfl)) ?_
    rintro vw3022 w3022 ⟨rfl, hbxw3022, hT⟩
    have hn3023 := hT.blk ((hBw3020_w3018.block gL3_6 (blk_lt hn3019)).trans hn3019) hneL3_6_3
    have hBw3022_w := hT.below hBw3020_w hgeLgL3_3 (hBw3020_w).size
    have hBw3022_w3022 := Below.refl w3022.heap.size w3022
    clear hT
    refine ⟨(Kd.C_below hcL3_1 hBw3022_w), ?_⟩
    refine lc_nil ?_
    replace hS := ((((hS.nil).cons (hS.get 12 rfl)).cons (hS.get 11 rfl)).cons (hS.get 10 rfl)).cons (hS.get 9 rfl)
    (try simp only [Exit.then, Exit.inBlock])
    exact J4 _ _ x3_3_0 x3_3_1 x3_3_2 x3_3_3 x3_3_4 x3_3_5 x3_3_6 x3_3_7 x3_3_8 x3_3_9 x3_3_10 x3_3_11 x3_3_12 x3_3_13 x3_3_14 x3_3_15 x3_3_16 x3_3_17 x3_3_18 x3_3_19 (wrap64 (rd y3_1 x3_2)) (wrap64 (rd y3_1 (wrap64 (x3_2 + 1)))) (wrap64 (Go.bits .and .u8 (rd y3_1 (wrap64 (x3_2 + 2))) 15)) gL3_3 x3_6_0 x3_6_1 x3_6_2 x3_6_3 x3_6_4 x3_6_5 x3_6_6 x3_6_7 x3_6_8 x3_6_9 x3_6_10 x3_6_11 x3_6_12 x3_6_13 x3_6_14 x3_6_15 x3_6_16 x3_6_17 x3_6_18 x3_6_19 x3_6_20 x3_6_21 x3_6_22 gL3_6 x3_9 x3_10 H hS hBw3022_w hgeLgL3_3 ((hBw3022_w3022.block gL3_3 (blk_lt hbxw3022)).trans hbxw3022) hgeLgL3_6 ((hBw3022_w3022.block gL3_6 (blk_lt hn3023)).trans hn3023) hneL3_6_3
   rw [if_pos c1] at H
   obtain ⟨t3009, At3009, H⟩ := Option.bind_eq_some_iff.mp H
   obtain ⟨t3009_1, t3009_2⟩ := t3009
   (try dsimp only at H)
   obtain ⟨t3015, At3015, H⟩ := Option.bind_eq_some_iff.mp H
   obtain ⟨t3015_1, t3015_2⟩ := t3015
   (try dsimp only at H)
   obtain ⟨t3021, At3021, H⟩ := Option.bind_eq_some_iff.mp H
   obtain ⟨t3021_1, t3021_2, t3021_3, t3021_4⟩ := t3021
   (try dsimp only at H)
   obtain ⟨t3027, At3027, H⟩ := Option.bind_eq_some_iff.mp H
   obtain ⟨t3027_1, t3027_2⟩ := t3027
   (try dsimp only at H)
   obtain ⟨t3033, At3033, H⟩ := Option.bind_eq_some_iff.mp H
   obtain ⟨t3033_1, t3033_2⟩ := t3033
   (try dsimp only at H)
   obtain ⟨t3039, At3039, H⟩ := Option.bind_eq_some_iff.mp H
   obtain ⟨t3039_1, t3039_2⟩ := t3039
   (try dsimp only at H)
   obtain ⟨t3044, At3044, H⟩ := Option.bind_eq_some_iff.mp H
   obtain ⟨t3044_1, t3044_2⟩ := t3044
   (try dsimp only at H)
   refine wp_seq_k (fun K3002 hK3002 => ?_)
   refine reg_seq (N := 151) (bs := [(1, .slice AL3_1 y3_1.length CL3_1), (2, .int .i64 x3_2), (3, .pointer (some ⟨gL3_3, 0, none⟩)), (6, .pointer (some ⟨gL3_6, 0, none⟩)), (9, .int .i64 x3_9), (10, .int .i64 x3_10)]) (I := fun x => Below w.heap.size w x ∧ Below wL3.heap.size wL3 x) (ps := [VP gL3_3 0, VI x3_3_0]) (by kernel_rfl) ?_ ?_ rfl hS ⟨hBwL3_w, hBwL3_wL3⟩ ?_ ?_
   ·exact fun x y hI hb => ⟨below_step hI.1 hb, below_step hI.2 hb⟩
   ·exact .v (.v (.nil))
   ·refine .on rfl (fun a w hS hI hp => does_val (x_fieldE (b := 0) rfl (hS.get 2 rfl) Try.underlying29 rfl rfl (by kernel_rfl)) rfl) ?_
    refine .on rfl (fun a w hS hI hp => does_val (x_load1 (d := .int .i64) rfl (hp.V 0 rfl rfl) (by kernel_rfl) rfl ((blk_cell (((hI.2).block gL3_3 (blk_lt hbxLgL3_3)).trans hbxLgL3_3) 0).trans rfl)) rfl) ?_
    exact .nil
   clear hS
   intro at3003 w3004 hS hI hp
   have hBw3004_w := hI.1
   have hBw3004_wL3 := hI.2
   have hv66 : sl _ 66 = .int .i64 x3_3_0 := hp 1 (by decide)
   have hBw3004_w3004 := Below.refl w3004.heap.size w3004
   have hS := hS.cons hv66
   clear hp hI hv66
   refine hK3002 _ _ ?_
   (try clear hK3002 K3002)
   refine wp_block ?_
   refine wp_seq_k (fun K3005 hK3005 => ?_)
   refine reg_seq (N := 151) (bs := [(66, .int .i64 x3_3_0), (1, .slice AL3_1 y3_1.length CL3_1), (2, .int .i64 x3_2), (3, .pointer (some ⟨gL3_3, 0, none⟩)), (6, .pointer (some ⟨gL3_6, 0, none⟩)), (9, .int .i64 x3_9), (10, .int .i64 x3_10)]) (I := fun x => Below w.heap.size w x ∧ Below wL3.heap.size wL3 x ∧ Below w3004.heap.size w3004 x) (ps := [VB (decide (x3_3_0 = 11)), VB (decide (x3_3_0 = 11))]) (by kernel_rfl) ?_ ?_ rfl hS ⟨hBw3004_w, hBw3004_wL3, hBw3004_w3004⟩ ?_ ?_
   ·exact fun x y hI hb => ⟨below_step hI.1 hb, below_step hI.2.1 hb, below_step hI.2.2 hb⟩
   ·exact .v (.v (.nil))
   ·refine .on rfl (fun a w hS hI hp => does_val (x_bin rfl (hS.get 0 rfl) (rfl) (b_eql _ _ _ _ _ _)) rfl) ?_
    refine .asg 0 rfl rfl rfl rfl ?_
    exact .nil
   clear hS
   intro at3006 w3007 hS hI hp
   have hBw3007_w := hI.1
   have hBw3007_wL3 := hI.2.1
   have hBw3007_w3004 := hI.2.2
   have hv67 : sl _ 67 = .bool (decide (x3_3_0 = 11)) := hp 1 (by decide)
   have hBw3007_w3007 := Below.refl w3007.heap.size w3007
   have hS := hS.cons hv67
   clear hp hI hv67
   refine hK3005 _ _ ?_
   (try clear hK3005 K3005)
   refine wp_cond_true ((hS.get 0 rfl).trans (bT (decide_eq_true c1))) ?_
   refine wp_seq_k (fun K3008 hK3008 => ?_)
   refine reg_seq_tail 7 (N := 151) (bs := [(67, .bool (decide (x3_3_0 = 11))), (66, .int .i64 x3_3_0), (1, .slice AL3_1 y3_1.length CL3_1), (2, .int .i64 x3_2), (3, .pointer (some ⟨gL3_3, 0, none⟩)), (6, .pointer (some ⟨gL3_6, 0, none⟩)), (9, .int .i64 x3_9), (10, .int .i64 x3_10)]) (I := fun x => Below w.heap.size w x ∧ Below wL3.heap.size wL3 x ∧ Below w3007.heap.size w3007 x) (ps := [IsV (.slice AL3_1 y3_1.length CL3_1), VI x3_2, IsV (.tuple #[.int .i64 t3009_1, .bool t3009_2]), IsV (.tuple #[.int .i64 t3009_1, .bool t3009_2]), VI t3009_1, VB t3009_2, VP gL3_3 11]) (by kernel_rfl) ?_ ?_ rfl hS ⟨hBw3007_w, hBw3007_wL3, hBw3007_w3007⟩ ?_ ?_
   ·exact fun x y hI hb => ⟨below_step hI.1 hb, below_step hI.2.1 hb, below_step hI.2.2 hb⟩
   ·exact .v (.v (.v (.v (.v (.v (.v (.nil)))))))
   ·refine .ms 2 rfl rfl rfl ?_
    refine .ms 3 rfl rfl rfl ?_
    refine .on rfl (fun a w hS hI hp => does_call (by kernel_rfl) (ar3 (hp.V 0 rfl rfl) (hp.V 1 rfl rfl) (rfl)) ((octets_Signed.calls k _ _ y3_1 x3_2 2 t3009_1 t3009_2 _ (Kd.C_below hcL3_1 hI.1) hr3_1 At3009).mono fun _ _ h => ⟨_, h.1, h.2.below, rfl⟩)) ?_
    refine .mv 2 rfl rfl rfl rfl ?_
    iterate 2 refine .on rfl (fun a w hS hI hp => does_val (x_extract rfl (hp.V 3 rfl rfl) rfl) rfl) ?_
    refine .on rfl (fun a w hS hI hp => does_val (x_fieldE (b := 0) rfl (hS.get 4 rfl) Try.underlying29 rfl rfl (by kernel_rfl)) rfl) ?_
    exact .nil
   clear hS
   intro at3010 w3011 hS hI hp
   have hBw3011_w := hI.1
   have hBw3011_wL3 := hI.2.1
   have hBw3011_w3007 := hI.2.2
   replace hS := ((((((hS.nil).cons (hS.get 7 rfl)).cons (hS.get 6 rfl)).cons (hS.get 5 rfl)).cons (hS.get 4 rfl)).cons (hS.get 3 rfl)).cons (hS.get 2 rfl)
   have hv73 : sl _ 73 = .int .i64 t3009_1 := hp 4 (by decide)
   have hv75 : sl _ 75 = .pointer (some ⟨gL3_3, 11, none⟩) := hp 6 (by decide)
   have hBw3011_w3011 := Below.refl w3011.heap.size w3011
   have hS := hS.cons hv73
   have hS := hS.cons hv75
   clear hp hI hv73 hv75
   show wpList _ _ _ [_] _ _
   refine list_step rfl (does_store (g := gL3_3) (off := 11) (v := .int .i64 t3009_1) (new := (body_Get.c1 x3_3_0 x3_3_1 x3_3_2 x3_3_3 x3_3_4 x3_3_5 x3_3_6 x3_3_7 x3_3_8 x3_3_9 x3_3_10 t3009_1 x3_3_12 x3_3_13 x3_3_14 x3_3_15 x3_3_16 x3_3_17 x3_3_18 x3_3_19 x3_3_20 x3_3_21 x3_3_22)) rfl (hS.get 0 rfl) (hS.get 1 rfl) ((hBw3011_wL3.block gL3_3 (blk_lt hbxLgL3_3)).trans hbxLgL3_3) (by kernel_rfl) (by kernel_rfl) (by kernel_rfl) (by kernel_rfl)) ?_
   rintro vw3012 w3012 ⟨rfl, hbxw3012, hT⟩
   have hn3013 := hT.blk ((hBw3011_wL3.block gL3_6 (blk_lt hbxLgL3_6)).trans hbxLgL3_6) hneL3_6_3
   have hBw3012_w := hT.below hBw3011_w hgeLgL3_3 (hBw3011_w).size
   have hBw3012_w3012 := Below.refl w3012.heap.size w3012
   clear hT
   refine wpList_nil ?_
   refine hK3008 _ _ ?_
   (try clear hK3008 K3008)
   refine wp_seq_k (fun K3014 hK3014 => ?_)
   refine reg_seq_tail 8 (N := 151) (bs := [(75, .pointer (some ⟨gL3_3, 11, none⟩)), (73, .int .i64 t3009_1), (1, .slice AL3_1 y3_1.length CL3_1), (2, .int .i64 x3_2), (3, .pointer (some ⟨gL3_3, 0, none⟩)), (6, .pointer (some ⟨gL3_6, 0, none⟩)), (9, .int .i64 x3_9), (10, .int .i64 x3_10)]) (I := fun x => Below w.heap.size w x ∧ Below w3012.heap.size w3012 x) (ps := [IsV (.slice AL3_1 y3_1.length CL3_1), VI x3_2, VI (wrap64 (x3_2 + 3)), IsV (.tuple #[.int .i64 t3015_1, .bool t3015_2]), IsV (.tuple #[.int .i64 t3015_1, .bool t3015_2]), VI t3015_1, VB t3015_2, VP gL3_3 12]) (by kernel_rfl) ?_ ?_ rfl hS ⟨hBw3012_w, hBw3012_w3012⟩ ?_ ?_
   ·exact fun x y hI hb => ⟨below_step hI.1 hb, below_step hI.2 hb⟩
   ·exact .v (.v (.v (.v (.v (.v (.v (.v (.nil))))))))
   ·refine .ms 2 rfl rfl rfl ?_
    refine .ms 3 rfl rfl rfl ?_
    refine .on rfl (fun a w hS hI hp => does_val (x_bin rfl (hp.V 1 rfl rfl) (rfl) (b_add _ _ _ _ _)) rfl) ?_
    refine .on rfl (fun a w hS hI hp => does_call (by kernel_rfl) (ar3 (hp.V 0 rfl rfl) (hp.V 2 rfl rfl) (rfl)) ((octets_Get.calls k _ _ y3_1 (wrap64 (x3_2 + 3)) 1 t3015_1 t3015_2 _ (Kd.C_below hcL3_1 hI.1) hr3_1 At3015).mono fun _ _ h => ⟨_, h.1, h.2.below, rfl⟩)) ?_
    refine .mv 3 rfl rfl rfl rfl ?_
    iterate 2 refine .on rfl (fun a w hS hI hp => does_val (x_extract rfl (hp.V 4 rfl rfl) rfl) rfl) ?_
    refine .on rfl (fun a w hS hI hp => does_val (x_fieldE (b := 0) rfl (hS.get 4 rfl) Try.underlying29 rfl rfl (by kernel_rfl)) rfl) ?_
    exact .nil
   clear hS
   intro at3016 w3017 hS hI hp
   have hBw3017_w := hI.1
   have hBw3017_w3012 := hI.2
   replace hS := ((((((hS.nil).cons (hS.get 7 rfl)).cons (hS.get 6 rfl)).cons (hS.get 5 rfl)).cons (hS.get 4 rfl)).cons (hS.get 3 rfl)).cons (hS.get 2 rfl)
   have hv81 : sl _ 81 = .int .i64 t3015_1 := hp 5 (by decide)
   have hv83 : sl _ 83 = .pointer (some ⟨gL3_3, 12, none⟩) := hp 7 (by decide)
   have hBw3017_w3017 := Below.refl w3017.heap.size w3017
   have hS := hS.cons hv81
   have hS := hS.cons hv83
   clear hp hI hv81 hv83
   show wpList _ _ _ [_] _ _
   refine list_step rfl (does_store (g := gL3_3) (off := 12) (v := .int .i64 t3015_1) (new := (body_Get.c1 x3_3_0 x3_3_1 x3_3_2 x3_3_3 x3_3_4 x3_3_5 x3_3_6 x3_3_7 x3_3_8 x3_3_9 x3_3_10 t3009_1 t3015_1 x3_3_13 x3_3_14 x3_3_15 x3_3_16 x3_3_17 x3_3_18 x3_3_19 x3_3_20 x3_3_21 x3_3_22)) rfl (hS.get 0 rfl) (hS.get 1 rfl) ((hBw3017_w3012.block gL3_3 (blk_lt hbxw3012)).trans hbxw3012) (by kernel_rfl) (by kernel_rfl) (by kernel_rfl) (by kernel_rfl)) ?_
   rintro vw3018 w3018 ⟨rfl, hbxw3018, hT⟩
   have hn3019 := hT.blk ((hBw3017_w3012.block gL3_6 (blk_lt hn3013)).trans hn3013) hneL3_6_3
   have hBw3018_w := hT.below hBw3017_w hgeLgL3_3 (hBw3017_w).size
   have hBw3018_w3018 := Below.refl w3018.heap.size w3018
   clear hT
   refine wpList_nil ?_
   refine hK3014 _ _ ?_
   (try clear hK3014 K3014)
   refine wp_seq_k (fun K3020 hK3020 => ?_)
   refine reg_seq_tail 8 (N := 151) (bs := [(83, .pointer (some ⟨gL3_3, 12, none⟩)), (81, .int .i64 t3015_1), (1, .slice AL3_1 y3_1.length CL3_1), (2, .int .i64 x3_2), (3, .pointer (some ⟨gL3_3, 0, none⟩)), (6, .pointer (some ⟨gL3_6, 0, none⟩)), (9, .int .i64 x3_9), (10, .int .i64 x3_10)]) (I := fun x => Below w.heap.size w x ∧ Below w3018.heap.size w3018 x) (ps := [IsV (.slice AL3_1 y3_1.length CL3_1), VI x3_2, VI (wrap64 (x3_2 + 4)), IsV (.tuple #[.agg #[.int .i64 t3021_1, .int .i64 t3021_2, .int .i64 t3021_3], .bool t3021_4]), IsV (.tuple #[.agg #[.int .i64 t3021_1, .int .i64 t3021_2, .int .i64 t3021_3], .bool t3021_4]), IsV (.agg #[.int .i64 t3021_1, .int .i64 t3021_2, .int .i64 t3021_3]), VB t3021_4, VP gL3_3 13]) (by kernel_rfl) ?_ ?_ rfl hS ⟨hBw3018_w, hBw3018_w3018⟩ ?_ ?_
   ·exact fun x y hI hb => ⟨below_step hI.1 hb, below_step hI.2 hb⟩
   ·exact .v (.v (.v (.v (.v (.v (.v (.v (.nil))))))))
   ·refine .ms 2 rfl rfl rfl ?_
    refine .ms 3 rfl rfl rfl ?_
    refine .on rfl (fun a w hS hI hp => does_val (x_bin rfl (hp.V 1 rfl rfl) (rfl) (b_add _ _ _ _ _)) rfl) ?_
    refine .on rfl (fun a w hS hI hp => does_call (by kernel_rfl) (ar2 (hp.V 0 rfl rfl) (hp.V 2 rfl rfl)) ((quality_Get.calls k _ _ y3_1 (wrap64 (x3_2 + 4)) t3021_1 t3021_2 t3021_3 t3021_4 _ (Kd.C_below hcL3_1 hI.1) hr3_1 At3021).mono fun _ _ h => ⟨_, h.1, h.2, rfl⟩)) ?_
    refine .mv 3 rfl rfl rfl rfl ?_
    iterate 2 refine .on rfl (fun a w hS hI hp => does_val (x_extract rfl (hp.V 4 rfl rfl) rfl) rfl) ?_
    refine .on rfl (fun a w hS hI hp => does_val (x_fieldE (b := 0) rfl (hS.get 4 rfl) Try.underlying29 rfl rfl (by kernel_rfl)) rfl) ?_
    exact .nil
   clear hS
   intro at3022 w3023 hS hI hp
   have hBw3023_w := hI.1
   have hBw3023_w3018 := hI.2
   replace hS := ((((((hS.nil).cons (hS.get 7 rfl)).cons (hS.get 6 rfl)).cons (hS.get 5 rfl)).cons (hS.get 4 rfl)).cons (hS.get 3 rfl)).cons (hS.get 2 rfl)
   have hv89 : sl _ 89 = .agg #[.int .i64 t3021_1, .int .i64 t3021_2, .int .i64 t3021_3] := hp 5 (by decide)
   have hv91 : sl _ 91 = .pointer (some ⟨gL3_3, 13, none⟩) := hp 7 (by decide)
   have hBw3023_w3023 := Below.refl w3023.heap.size w3023
   have hS := hS.cons hv89
   have hS := hS.cons hv91
   clear hp hI hv89 hv91
   show wpList _ _ _ [_] _ _
   refine list_step rfl (does_store (g := gL3_3) (off := 13) (v := .agg #[.int .i64 t3021_1, .int .i64 t3021_2, .int .i64 t3021_3]) (new := (body_Get.c1 x3_3_0 x3_3_1 x3_3_2 x3_3_3 x3_3_4 x3_3_5 x3_3_6 x3_3_7 x3_3_8 x3_3_9 x3_3_10 t3009_1 t3015_1 t3021_1 t3021_2 t3021_3 x3_3_16 x3_3_17 x3_3_18 x3_3_19 x3_3_20 x3_3_21 x3_3_22)) rfl (hS.get 0 rfl) (hS.get 1 rfl) ((hBw3023_w3018.block gL3_3 (blk_lt hbxw3018)).trans hbxw3018) (by kernel_rfl) (by kernel_rfl) (by kernel_rfl) (by kernel_rfl)) ?_
   rintro vw3024 w3024 ⟨rfl, hbxw3024, hT⟩
   have hn3025 := hT.blk ((hBw3023_w3018.block gL3_6 (blk_lt hn3019)).trans hn3019) hneL3_6_3
   have hBw3024_w := hT.below hBw3023_w hgeLgL3_3 (hBw3023_w).size
   have hBw3024_w3024 := Below.refl w3024.heap.size w3024
   clear hT
   refine wpList_nil ?_
   refine hK3020 _ _ ?_
   (try clear hK3020 K3020)
   refine wp_seq_k (fun K3026 hK3026 => ?_)
   refine reg_seq_tail 8 (N := 151) (bs := [(91, .pointer (some ⟨gL3_3, 13, none⟩)), (89, .agg #[.int .i64 t3021_1, .int .i64 t3021_2, .int .i64 t3021_3]), (1, .slice AL3_1 y3_1.length CL3_1), (2, .int .i64 x3_2), (3, .pointer (some ⟨gL3_3, 0, none⟩)), (6, .pointer (some ⟨gL3_6, 0, none⟩)), (9, .int .i64 x3_9), (10, .int .i64 x3_10)]) (I := fun x => Below w.heap.size w x ∧ Below w3024.heap.size w3024 x) (ps := [IsV (.slice AL3_1 y3_1.length CL3_1), VI x3_2, VI (wrap64 (x3_2 + 8)), IsV (.tuple #[.int .i64 t3027_1, .bool t3027_2]), IsV (.tuple #[.int .i64 t3027_1, .bool t3027_2]), VI t3027_1, VB t3027_2, VP gL3_3 16]) (by kernel_rfl) ?_ ?_ rfl hS ⟨hBw3024_w, hBw3024_w3024⟩ ?_ ?_
   ·exact fun x y hI hb => ⟨below_step hI.1 hb, below_step hI.2 hb⟩
   ·exact .v (.v (.v (.v (.v (.v (.v (.v (.nil))))))))
   ·refine .ms 2 rfl rfl rfl ?_
    refine .ms 3 rfl rfl rfl ?_
    refine .on rfl (fun a w hS hI hp => does_val (x_bin rfl (hp.V 1 rfl rfl) (rfl) (b_add _ _ _ _ _)) rfl) ?_
    refine .on rfl (fun a w hS hI hp => does_call (by kernel_rfl) (ar3 (hp.V 0 rfl rfl) (hp.V 2 rfl rfl) (rfl)) ((octets_Get.calls k _ _ y3_1 (wrap64 (x3_2 + 8)) 1 t3027_1 t3027_2 _ (Kd.C_below hcL3_1 hI.1) hr3_1 At3027).mono fun _ _ h => ⟨_, h.1, h.2.below, rfl⟩)) ?_
    refine .mv 3 rfl rfl rfl rfl ?_
    iterate 2 refine .on rfl (fun a w hS hI hp => does_val (x_extract rfl (hp.V 4 rfl rfl) rfl) rfl) ?_
    refine .on rfl (fun a w hS hI hp => does_val (x_fieldE (b := 0) rfl (hS.get 4 rfl) Try.underlying29 rfl rfl (by kernel_rfl)) rfl) ?_
    exact .nil
   clear hS
   intro at3028 w3029 hS hI hp
   have hBw3029_w := hI.1
   have hBw3029_w3024 := hI.2
   replace hS := ((((((hS.nil).cons (hS.get 7 rfl)).cons (hS.get 6 rfl)).cons (hS.get 5 rfl)).cons (hS.get 4 rfl)).cons (hS.get 3 rfl)).cons (hS.get 2 rfl)
   have hv97 : sl _ 97 = .int .i64 t3027_1 := hp 5 (by decide)
   have hv99 : sl _ 99 = .pointer (some ⟨gL3_3, 16, none⟩) := hp 7 (by decide)
   have hBw3029_w3029 := Below.refl w3029.heap.size w3029
   have hS := hS.cons hv97
   have hS := hS.cons hv99
   clear hp hI hv97 hv99
   show wpList _ _ _ [_] _ _
   refine list_step rfl (does_store (g := gL3_3) (off := 16) (v := .int .i64 t3027_1) (new := (body_Get.c1 x3_3_0 x3_3_1 x3_3_2 x3_3_3 x3_3_4 x3_3_5 x3_3_6 x3_3_7 x3_3_8 x3_3_9 x3_3_10 t3009_1 t3015_1 t3021_1 t3021_2 t3021_3 t3027_1 x3_3_17 x3_3_18 x3_3_19 x3_3_20 x3_3_21 x3_3_22)) rfl (hS.get 0 rfl) (hS.get 1 rfl) ((hBw3029_w3024.block gL3_3 (blk_lt hbxw3024)).trans hbxw3024) (by kernel_rfl) (by kernel_rfl) (by kernel_rfl) (by kernel_rfl)) ?_
   rintro vw3030 w3030 ⟨rfl, hbxw3030, hT⟩
   have hn3031 := hT.blk ((hBw3029_w3024.block gL3_6 (blk_lt hn3025)).trans hn3025) hneL3_6_3
   have hBw3030_w := hT.below hBw3029_w hgeLgL3_3 (hBw3029_w).size
   have hBw3030_w3030 := Below.refl w3030.heap.size w3030
   clear hT
   refine wpList_nil ?_
   refine hK3026 _ _ ?_
   (try clear hK3026 K3026)
   refine wp_seq_k (fun K3032 hK3032 => ?_)
   refine reg_seq_tail 8 (N := 151) (bs := [(99, .pointer (some ⟨gL3_3, 16, none⟩)), (97, .int .i64 t3027_1), (1, .slice AL3_1 y3_1.length CL3_1), (2, .int .i64 x3_2), (3, .pointer (some ⟨gL3_3, 0, none⟩)), (6, .pointer (some ⟨gL3_6, 0, none⟩)), (9, .int .i64 x3_9), (10, .int .i64 x3_10)]) (I := fun x => Below w.heap.size w x ∧ Below w3030.heap.size w3030 x) (ps := [IsV (.slice AL3_1 y3_1.length CL3_1), VI x3_2, VI (wrap64 (x3_2 + 9)), IsV (.tuple #[.int .u64 t3033_1, .bool t3033_2]), IsV (.tuple #[.int .u64 t3033_1, .bool t3033_2]), IsV (.int .u64 t3033_1), VB t3033_2, VP gL3_3 17]) (by kernel_rfl) ?_ ?_ rfl hS ⟨hBw3030_w, hBw3030_w3030⟩ ?_ ?_
   ·exact fun x y hI hb => ⟨below_step hI.1 hb, below_step hI.2 hb⟩
   ·exact .v (.v (.v (.v (.v (.v (.v (.v (.nil))))))))
   ·refine .ms 2 rfl rfl rfl ?_
    refine .ms 3 rfl rfl rfl ?_
    refine .on rfl (fun a w hS hI hp => does_val (x_bin rfl (hp.V 1 rfl rfl) (rfl) (b_add _ _ _ _ _)) rfl) ?_
    refine .on rfl (fun a w hS hI hp => does_call (by kernel_rfl) (ar2 (hp.V 0 rfl rfl) (hp.V 2 rfl rfl)) ((octets_GetId.calls k _ _ y3_1 (wrap64 (x3_2 + 9)) t3033_1 t3033_2 _ (Kd.C_below hcL3_1 hI.1) hr3_1 At3033).mono fun _ _ h => ⟨_, h.1, h.2.below, rfl⟩)) ?_
    refine .mv 3 rfl rfl rfl rfl ?_
    iterate 2 refine .on rfl (fun a w hS hI hp => does_val (x_extract rfl (hp.V 4 rfl rfl) rfl) rfl) ?_
    refine .on rfl (fun a w hS hI hp => does_val (x_fieldE (b := 0) rfl (hS.get 4 rfl) Try.underlying29 rfl rfl (by kernel_rfl)) rfl) ?_
    exact .nil
   clear hS
   intro at3034 w3035 hS hI hp
   have hBw3035_w := hI.1
   have hBw3035_w3030 := hI.2
   replace hS := ((((((hS.nil).cons (hS.get 7 rfl)).cons (hS.get 6 rfl)).cons (hS.get 5 rfl)).cons (hS.get 4 rfl)).cons (hS.get 3 rfl)).cons (hS.get 2 rfl)
   have hv105 : sl _ 105 = .int .u64 t3033_1 := hp 5 (by decide)
   have hv107 : sl _ 107 = .pointer (some ⟨gL3_3, 17, none⟩) := hp 7 (by decide)
   have hBw3035_w3035 := Below.refl w3035.heap.size w3035
   have hS := hS.cons hv105
   have hS := hS.cons hv107
   clear hp hI hv105 hv107
   show wpList _ _ _ [_] _ _
   refine list_step rfl (does_store (g := gL3_3) (off := 17) (v := .int .u64 t3033_1) (new := (body_Get.c1 x3_3_0 x3_3_1 x3_3_2 x3_3_3 x3_3_4 x3_3_5 x3_3_6 x3_3_7 x3_3_8 x3_3_9 x3_3_10 t3009_1 t3015_1 t3021_1 t3021_2 t3021_3 t3027_1 t3033_1 x3_3_18 x3_3_19 x3_3_20 x3_3_21 x3_3_22)) rfl (hS.get 0 rfl) (hS.get 1 rfl) ((hBw3035_w3030.block gL3_3 (blk_lt hbxw3030)).trans hbxw3030) (by kernel_rfl) (by kernel_rfl) (by kernel_rfl) (by kernel_rfl)) ?_
   rintro vw3036 w3036 ⟨rfl, hbxw3036, hT⟩
   have hn3037 := hT.blk ((hBw3035_w3030.block gL3_6 (blk_lt hn3031)).trans hn3031) hneL3_6_3
   have hBw3036_w := hT.below hBw3035_w hgeLgL3_3 (hBw3035_w).size
   have hBw3036_w3036 := Below.refl w3036.heap.size w3036
   clear hT
   refine wpList_nil ?_
   refine hK3032 _ _ ?_
   (try clear hK3032 K3032)
   refine wp_seq_k (fun K3038 hK3038 => ?_)
   refine reg_seq_tail 8 (N := 151) (bs := [(107, .pointer (some ⟨gL3_3, 17, none⟩)), (105, .int .u64 t3033_1), (1, .slice AL3_1 y3_1.length CL3_1), (2, .int .i64 x3_2), (3, .pointer (some ⟨gL3_3, 0, none⟩)), (6, .pointer (some ⟨gL3_6, 0, none⟩)), (9, .int .i64 x3_9), (10, .int .i64 x3_10)]) (I := fun x => Below w.heap.size w x ∧ Below w3036.heap.size w3036 x) (ps := [IsV (.slice AL3_1 y3_1.length CL3_1), VI x3_2, VI (wrap64 (x3_2 + 17)), IsV (.tuple #[.int .i64 t3039_1, .bool t3039_2]), IsV (.tuple #[.int .i64 t3039_1, .bool t3039_2]), VI t3039_1, VB t3039_2, VP gL3_3 18]) (by kernel_rfl) ?_ ?_ rfl hS ⟨hBw3036_w, hBw3036_w3036⟩ ?_ ?_
   ·exact fun x y hI hb => ⟨below_step hI.1 hb, below_step hI.2 hb⟩
   ·exact .v (.v (.v (.v (.v (.v (.v (.v (.nil))))))))
   ·refine .ms 2 rfl rfl rfl ?_
    refine .ms 3 rfl rfl rfl ?_
    refine .on rfl (fun a w hS hI hp => does_val (x_bin rfl (hp.V 1 rfl rfl) (rfl) (b_add _ _ _ _ _)) rfl) ?_
    refine .on rfl (fun a w hS hI hp => does_call (by kernel_rfl) (ar3 (hp.V 0 rfl rfl) (hp.V 2 rfl rfl) (rfl)) ((octets_Get.calls k _ _ y3_1 (wrap64 (x3_2 + 17)) 2 t3039_1 t3039_2 _ (Kd.C_below hcL3_1 hI.1) hr3_1 At3039).mono fun _ _ h => ⟨_, h.1, h.2.below, rfl⟩)) ?_
    refine .mv 3 rfl rfl rfl rfl ?_
    iterate 2 refine .on rfl (fun a w hS hI hp => does_val (x_extract rfl (hp.V 4 rfl rfl) rfl) rfl) ?_
    refine .on rfl (fun a w hS hI hp => does_val (x_fieldE (b := 0) rfl (hS.get 4 rfl) Try.underlying29 rfl rfl (by kernel_rfl)) rfl) ?_
    exact .nil
   clear hS
   intro at3040 w3041 hS hI hp
   have hBw3041_w := hI.1
   have hBw3041_w3036 := hI.2
   replace hS := ((((((hS.nil).cons (hS.get 7 rfl)).cons (hS.get 6 rfl)).cons (hS.get 5 rfl)).cons (hS.get 4 rfl)).cons (hS.get 3 rfl)).cons (hS.get 2 rfl)
   have hv113 : sl _ 113 = .int .i64 t3039_1 := hp 5 (by decide)
   have hv115 : sl _ 115 = .pointer (some ⟨gL3_3, 18, none⟩) := hp 7 (by decide)
   have hBw3041_w3041 := Below.refl w3041.heap.size w3041
   have hS := hS.cons hv113
   have hS := hS.cons hv115
   clear hp hI hv113 hv115
   show wpList _ _ _ [_] _ _
   refine list_step rfl (does_store (g := gL3_3) (off := 18) (v := .int .i64 t3039_1) (new := (body_Get.c1 x3_3_0 x3_3_1 x3_3_2 x3_3_3 x3_3_4 x3_3_5 x3_3_6 x3_3_7 x3_3_8 x3_3_9 x3_3_10 t3009_1 t3015_1 t3021_1 t3021_2 t3021_3 t3027_1 t3033_1 t3039_1 x3_3_19 x3_3_20 x3_3_21 x3_3_22)) rfl (hS.get 0 rfl) (hS.get 1 rfl) ((hBw3041_w3036.block gL3_3 (blk_lt hbxw3036)).trans hbxw3036) (by kernel_rfl) (by kernel_rfl) (by kernel_rfl) (by kernel_rfl)) ?_
   rintro vw3042 w3042 ⟨rfl, hbxw3042, hT⟩
   have hn3043 := hT.blk ((hBw3041_w3036.block gL3_6 (blk_lt hn3037)).trans hn3037) hneL3_6_3
   have hBw3042_w := hT.below hBw3041_w hgeLgL3_3 (hBw3041_w).size
   have hBw3042_w3042 := Below.refl w3042.heap.size w3042
   clear hT
   refine wpList_nil ?_
   refine hK3038 _ _ ?_
   (try clear hK3038 K3038)
   refine reg_seq_tail 8 (N := 151) (bs := [(115, .pointer (some ⟨gL3_3, 18, none⟩)), (113, .int .i64 t3039_1), (1, .slice AL3_1 y3_1.length CL3_1), (2, .int .i64 x3_2), (3, .pointer (some ⟨gL3_3, 0, none⟩)), (6, .pointer (some ⟨gL3_6, 0, none⟩)), (9, .int .i64 x3_9), (10, .int .i64 x3_10)]) (I := fun x => Below w.heap.size w x ∧ Below w3042.heap.size w3042 x) (ps := [IsV (.slice AL3_1 y3_1.length CL3_1), VI x3_2, VI (wrap64 (x3_2 + 19)), IsV (.tuple #[.int .i64 t3044_1, .bool t3044_2]), IsV (.tuple #[.int .i64 t3044_1, .bool t3044_2]), VI t3044_1, VB t3044_2, VP gL3_3 19]) (by kernel_rfl) ?_ ?_ rfl hS ⟨hBw3042_w, hBw3042_w3042⟩ ?_ ?_
   ·exact fun x y hI hb => ⟨below_step hI.1 hb, below_step hI.2 hb⟩
   ·exact .v (.v (.v (.v (.v (.v (.v (.v (.nil))))))))
   ·refine .ms 2 rfl rfl rfl ?_
    refine .ms 3 rfl rfl rfl ?_
    refine .on rfl (fun a w hS hI hp => does_val (x_bin rfl (hp.V 1 rfl rfl) (rfl) (b_add _ _ _ _ _)) rfl) ?_
    refine .on rfl (fun a w hS hI hp => does_call (by kernel_rfl) (ar3 (hp.V 0 rfl rfl) (hp.V 2 rfl rfl) (rfl)) ((octets_Get.calls k _ _ y3_1 (wrap64 (x3_2 + 19)) 1 t3044_1 t3044_2 _ (Kd.C_below hcL3_1 hI.1) hr3_1 At3044).mono fun _ _ h => ⟨_, h.1, h.2.below, rfl⟩)) ?_
    refine .mv 3 rfl rfl rfl rfl ?_
    iterate 2 refine .on rfl (fun a w hS hI hp => does_val (x_extract rfl (hp.V 4 rfl rfl) rfl) rfl) ?_
    refine .on rfl (fun a w hS hI hp => does_val (x_fieldE (b := 0) rfl (hS.get 4 rfl) Try.underlying29 rfl rfl (by kernel_rfl)) rfl) ?_
    exact .nil
   clear hS
   intro at3045 w3046 hS hI hp
   have hBw3046_w := hI.1
   have hBw3046_w3042 := hI.2
   replace hS := ((((hS.nil).cons (hS.get 7 rfl)).cons (hS.get 6 rfl)).cons (hS.get 5 rfl)).cons (hS.get 4 rfl)
   have hv121 : sl _ 121 = .int .i64 t3044_1 := hp 5 (by decide)
   have hv123 : sl _ 123 = .pointer (some ⟨gL3_3, 19, none⟩) := hp 7 (by decide)
   have hBw3046_w3046 := Below.refl w3046.heap.size w3046
   have hS := hS.cons hv121
   have hS := hS.cons hv123
   clear hp hI hv121 hv123
   show wpList _ _ _ [_] _ _
   refine list_step rfl (does_store (g := gL3_3) (off := 19) (v := .int .i64 t3044_1) (new := (body_Get.c1 x3_3_0 x3_3_1 x3_3_2 x3_3_3 x3_3_4 x3_3_5 x3_3_6 x3_3_7 x3_3_8 x3_3_9 x3_3_10 t3009_1 t3015_1 t3021_1 t3021_2 t3021_3 t3027_1 t3033_1 t3039_1 t3044_1 x3_3_20 x3_3_21 x3_3_22)) rfl (hS.get 0 rfl) (hS.get 1 rfl) ((hBw3046_w3042.block gL3_3 (blk_lt hbxw3042)).trans hbxw3042) (by kernel_rfl) (by kernel_rfl) (by kernel_rfl) (by kernel_rfl)) ?_
   rintro vw3047 w3047 ⟨rfl, hbxw3047, hT⟩
   have hn3048 := hT.blk ((hBw3046_w3042.block gL3_6 (blk_lt hn3043)).trans hn3043) hneL3_6_3
   have hBw3047_w := hT.below hBw3046_w hgeLgL3_3 (hBw3046_w).size
   have hBw3047_w3047 := Below.refl w3047.heap.size w3047
   clear hT
   refine wpList_nil ?_
   replace hS := ((((hS.nil).cons (hS.get 5 rfl)).cons (hS.get 4 rfl)).cons (hS.get 3 rfl)).cons (hS.get 2 rfl)
   (try simp only [Exit.then, Exit.inBlock])
   exact J4 _ _ x3_3_0 x3_3_1 x3_3_2 x3_3_3 x3_3_4 x3_3_5 x3_3_6 x3_3_7 x3_3_8 x3_3_9 x3_3_10 t3009_1 t3015_1 t3021_1 t3021_2 t3021_3 t3027_1 t3033_1 t3039_1 t3044_1 x3_3_20 x3_3_21 x3_3_22 gL3_3 x3_6_0 x3_6_1 x3_6_2 x3_6_3 x3_6_4 x3_6_5 x3_6_6 x3_6_7 x3_6_8 x3_6_9 x3_6_10 x3_6_11 x3_6_12 x3_6_13 x3_6_14 x3_6_15 x3_6_16 x3_6_17 x3_6_18 x3_6_19 x3_6_20 x3_6_21 x3_6_22 gL3_6 x3_9 x3_10 H hS hBw3047_w hgeLgL3_3 ((hBw3047_w3047.block gL3_3 (blk_lt hbxw3047)).trans hbxw3047) hgeLgL3_6 ((hBw3047_w3047.block gL3_6 (blk_lt hn3048)).trans hn3048) hneL3_6_3
  obtain ⟨t1003, At1003, H⟩ := Option.bind_eq_some_iff.mp H
  by_cases c1 : t1003 = true
  rotate_left
  ·rw [if_neg c1] at H
   refine wp_seq_k (fun K1002 hK1002 => ?_)
   refine reg_seq (N := 151) (bs := [(1, .slice AL1_1 y1_1.length CL1_1), (2, .int .i64 x1_2), (3, .pointer (some ⟨gL1_3, 0, none⟩)), (6, .pointer (some ⟨gL1_6, 0, none⟩)), (9, .int .i64 x1_9), (10, .int .i64 x1_10)]) (I := fun x => Below w.heap.size w x ∧ Below wL1.heap.size wL1 x) (ps := [VP gL1_3 0, VI x1_3_0, VB t1003]) (by kernel_rfl) ?_ ?_ rfl hS ⟨hBwL1_w, hBwL1_wL1⟩ ?_ ?_
   ·exact fun x y hI hb => ⟨below_step hI.1 hb, below_step hI.2 hb⟩
   ·exact .v (.v (.v (.nil)))
   ·refine .on rfl (fun a w hS hI hp => does_val (x_fieldE (b := 0) rfl (hS.get 2 rfl) Try.underlying29 rfl rfl (by kernel_rfl)) rfl) ?_
    refine .on rfl (fun a w hS hI hp => does_val (x_load1 (d := .int .i64) rfl (hp.V 0 rfl rfl) (by kernel_rfl) rfl ((blk_cell (((hI.2).block gL1_3 (blk_lt hbxLgL1_3)).trans hbxLgL1_3) 0).trans rfl)) rfl) ?_
    refine .on rfl (fun a w hS hI hp => does_call (by kernel_rfl) (ar1 (hp.V 1 rfl rfl)) ((body_targeted.calls x1_3_0 t1003 _  At1003).mono fun _ _ h => ⟨_, h.1, h.2.below, rfl⟩)) ?_
    exact .nil
   clear hS
   intro at1004 w1005 hS hI hp
   have hBw1005_w := hI.1
   have hBw1005_wL1 := hI.2
   have hv55 : sl _ 55 = .bool t1003 := hp 2 (by decide)
   have hBw1005_w1005 := Below.refl w1005.heap.size w1005
   have hS := hS.cons hv55
   clear hp hI hv55
   refine hK1002 _ _ ?_
   (try clear hK1002 K1002)
   refine wp_cond_false ((hS.get 0 rfl).trans (bF (Bool.eq_false_iff.2 c1))) ?_
   refine wp_skip ?_
   replace hS := ((((((hS.nil).cons (hS.get 6 rfl)).cons (hS.get 5 rfl)).cons (hS.get 4 rfl)).cons (hS.get 3 rfl)).cons (hS.get 2 rfl)).cons (hS.get 1 rfl)
   (try simp only [Exit.then, Exit.inBlock])
   exact J3 _ _ y1_1 AL1_1 CL1_1 x1_2 x1_3_0 x1_3_1 x1_3_2 x1_3_3 x1_3_4 x1_3_5 x1_3_6 x1_3_7 x1_3_8 x1_3_9 x1_3_10 x1_3_11 x1_3_12 x1_3_13 x1_3_14 x1_3_15 x1_3_16 x1_3_17 x1_3_18 x1_3_19 x1_3_20 x1_3_21 x1_3_22 gL1_3 x1_6_0 x1_6_1 x1_6_2 x1_6_3 x1_6_4 x1_6_5 x1_6_6 x1_6_7 x1_6_8 x1_6_9 x1_6_10 x1_6_11 x1_6_12 x1_6_13 x1_6_14 x1_6_15 x1_6_16 x1_6_17 x1_6_18 x1_6_19 x1_6_20 x1_6_21 x1_6_22 gL1_6 x1_9 x1_10 H hS hBw1005_w hr1_1 (hcL1_1) hgeLgL1_3 ((hBw1005_wL1.block gL1_3 (blk_lt hbxLgL1_3)).trans hbxLgL1_3) hgeLgL1_6 ((hBw1005_wL1.block gL1_6 (blk_lt hbxLgL1_6)).trans hbxLgL1_6) hneL1_6_3
  rw [if_pos c1] at H
  obtain ⟨t1007, At1007, H⟩ := Option.bind_eq_some_iff.mp H
  obtain ⟨t1007_1, t1007_2, t1007_3⟩ := t1007
  (try dsimp only at H)
  refine wp_seq_k (fun K1002 hK1002 => ?_)
  refine reg_seq (N := 151) (bs := [(1, .slice AL1_1 y1_1.length CL1_1), (2, .int .i64 x1_2), (3, .pointer (some ⟨gL1_3, 0, none⟩)), (6, .pointer (some ⟨gL1_6, 0, none⟩)), (9, .int .i64 x1_9), (10, .int .i64 x1_10)]) (I := fun x => Below w.heap.size w x ∧ Below wL1.heap.size wL1 x) (ps := [VP gL1_3 0, VI x1_3_0, VB t1003]) (by kernel_rfl) ?_ ?_ rfl hS ⟨hBwL1_w, hBwL1_wL1⟩ ?_ ?_
  ·exact fun x y hI hb => ⟨below_step hI.1 hb, below_step hI.2 hb⟩
  ·exact .v (.v (.v (.nil)))
  ·refine .on rfl (fun a w hS hI hp => does_val (x_fieldE (b := 0) rfl (hS.get 2 rfl) Try.underlying29 rfl rfl (by kernel_rfl)) rfl) ?_
   refine .on rfl (fun a w hS hI hp => does_val (x_load1 (d := .int .i64) rfl (hp.V 0 rfl rfl) (by kernel_rfl) rfl ((blk_cell (((hI.2).block gL1_3 (blk_lt hbxLgL1_3)).trans hbxLgL1_3) 0).trans rfl)) rfl) ?_
   refine .on rfl (fun a w hS hI hp => does_call (by kernel_rfl) (ar1 (hp.V 1 rfl rfl)) ((body_targeted.calls x1_3_0 t1003 _  At1003).mono fun _ _ h => ⟨_, h.1, h.2.below, rfl⟩)) ?_
   exact .nil
  clear hS
  intro at1004 w1005 hS hI hp
  have hBw1005_w := hI.1
  have hBw1005_wL1 := hI.2
  have hv55 : sl _ 55 = .bool t1003 := hp 2 (by decide)
  have hBw1005_w1005 := Below.refl w1005.heap.size w1005
  have hS := hS.cons hv55
  clear hp hI hv55
  refine hK1002 _ _ ?_
  (try clear hK1002 K1002)
  refine wp_cond_true ((hS.get 0 rfl).trans (bT c1)) ?_
  refine wp_seq_k (fun K1006 hK1006 => ?_)
  refine reg_seq_tail 7 (N := 151) (bs := [(55, .bool t1003), (1, .slice AL1_1 y1_1.length CL1_1), (2, .int .i64 x1_2), (3, .pointer (some ⟨gL1_3, 0, none⟩)), (6, .pointer (some ⟨gL1_6, 0, none⟩)), (9, .int .i64 x1_9), (10, .int .i64 x1_10)]) (I := fun x => Below w.heap.size w x ∧ Below wL1.heap.size wL1 x ∧ Below w1005.heap.size w1005 x) (ps := [IsV (.slice AL1_1 y1_1.length CL1_1), VI x1_2, IsV (.tuple #[.agg #[.int .u64 t1007_1, .int .i64 t1007_2], .bool t1007_3]), IsV (.tuple #[.agg #[.int .u64 t1007_1, .int .i64 t1007_2], .bool t1007_3]), IsV (.agg #[.int .u64 t1007_1, .int .i64 t1007_2]), VB t1007_3, VP gL1_3 9]) (by kernel_rfl) ?_ ?_ rfl hS ⟨hBw1005_w, hBw1005_wL1, hBw1005_w1005⟩ ?_ ?_
  ·exact fun x y hI hb => ⟨below_step hI.1 hb, below_step hI.2.1 hb, below_step hI.2.2 hb⟩
  ·exact .v (.v (.v (.v (.v (.v (.v (.nil)))))))
  ·refine .ms 1 rfl rfl rfl ?_
   refine .ms 2 rfl rfl rfl ?_
   refine .on rfl (fun a w hS hI hp => does_call (by kernel_rfl) (ar2 (hp.V 0 rfl rfl) (hp.V 1 rfl rfl)) ((ident_Get.calls k _ _ y1_1 x1_2 t1007_1 t1007_2 t1007_3 _ (Kd.C_below hcL1_1 hI.1) hr1_1 At1007).mono fun _ _ h => ⟨_, h.1, h.2, rfl⟩)) ?_
   refine .mv 2 rfl rfl rfl rfl ?_
   iterate 2 refine .on rfl (fun a w hS hI hp => does_val (x_extract rfl (hp.V 3 rfl rfl) rfl) rfl) ?_
   refine .on rfl (fun a w hS hI hp => does_val (x_fieldE (b := 0) rfl (hS.get 3 rfl) Try.underlying29 rfl rfl (by kernel_rfl)) rfl) ?_
   exact .nil
  clear hS
  intro at1008 w1009 hS hI hp
  have hBw1009_w := hI.1
  have hBw1009_wL1 := hI.2.1
  have hBw1009_w1005 := hI.2.2
  replace hS := ((((((hS.nil).cons (hS.get 6 rfl)).cons (hS.get 5 rfl)).cons (hS.get 4 rfl)).cons (hS.get 3 rfl)).cons (hS.get 2 rfl)).cons (hS.get 1 rfl)
  have hv60 : sl _ 60 = .agg #[.int .u64 t1007_1, .int .i64 t1007_2] := hp 4 (by decide)
  have hv62 : sl _ 62 = .pointer (some ⟨gL1_3, 9, none⟩) := hp 6 (by decide)
  have hBw1009_w1009 := Below.refl w1009.heap.size w1009
  have hS := hS.cons hv60
  have hS := hS.cons hv62
  clear hp hI hv60 hv62
  show wpList _ _ _ [_] _ _
  refine list_step rfl (does_store (g := gL1_3) (off := 9) (v := .agg #[.int .u64 t1007_1, .int .i64 t1007_2]) (new := (body_Get.c1 x1_3_0 x1_3_1 x1_3_2 x1_3_3 x1_3_4 x1_3_5 x1_3_6 x1_3_7 x1_3_8 t1007_1 t1007_2 x1_3_11 x1_3_12 x1_3_13 x1_3_14 x1_3_15 x1_3_16 x1_3_17 x1_3_18 x1_3_19 x1_3_20 x1_3_21 x1_3_22)) rfl (hS.get 0 rfl) (hS.get 1 rfl) ((hBw1009_wL1.block gL1_3 (blk_lt hbxLgL1_3)).trans hbxLgL1_3) (by kernel_rfl) (by kernel_rfl) (by kernel_rfl) (by kernel_rfl)) ?_
  rintro vw1010 w1010 ⟨rfl, hbxw1010, hT⟩
  have hn1011 := hT.blk ((hBw1009_wL1.block gL1_6 (blk_lt hbxLgL1_6)).trans hbxLgL1_6) hneL1_6_3
  have hBw1010_w := hT.below hBw1009_w hgeLgL1_3 (hBw1009_w).size
  have hBw1010_w1010 := Below.refl w1010.heap.size w1010
  clear hT
  refine wpList_nil ?_
  refine hK1006 _ _ ?_
  (try clear hK1006 K1006)
  refine reg_seq_tail 2 (N := 151) (bs := [(62, .pointer (some ⟨gL1_3, 9, none⟩)), (60, .agg #[.int .u64 t1007_1, .int .i64 t1007_2]), (1, .slice AL1_1 y1_1.length CL1_1), (2, .int .i64 x1_2), (3, .pointer (some ⟨gL1_3, 0, none⟩)), (6, .pointer (some ⟨gL1_6, 0, none⟩)), (9, .int .i64 x1_9), (10, .int .i64 x1_10)]) (I := fun x => Below w.heap.size w x ∧ Below w1010.heap.size w1010 x) (ps := [VI x1_2, VI (wrap64 (x1_2 + 10))]) (by kernel_rfl) ?_ ?_ rfl hS ⟨hBw1010_w, hBw1010_w1010⟩ ?_ ?_
  ·exact fun x y hI hb => ⟨below_step hI.1 hb, below_step hI.2 hb⟩
  ·exact .v (.v (.nil))
  ·refine .ms 3 rfl rfl rfl ?_
   refine .on rfl (fun a w hS hI hp => does_val (x_bin rfl (hp.V 0 rfl rfl) (rfl) (b_add _ _ _ _ _)) rfl) ?_
   exact .nil
  clear hS
  intro at1012 w1013 hS hI hp
  have hBw1013_w := hI.1
  have hBw1013_w1010 := hI.2
  replace hS := ((((((hS.nil).cons (hS.get 7 rfl)).cons (hS.get 6 rfl)).cons (hS.get 5 rfl)).cons (hS.get 4 rfl)).cons (hS.get 3 rfl)).cons (hS.get 2 rfl)
  have hv64 : sl _ 64 = .int .i64 (wrap64 (x1_2 + 10)) := hp 1 (by decide)
  have hBw1013_w1013 := Below.refl w1013.heap.size w1013
  have hS := hS.cons hv64
  clear hp hI hv64
  show wpList _ _ _ [_] _ _
  refine list_step rfl (R := fun v w' => Below _ _ w' ∧ (VI (wrap64 (x1_2 + 10))) v w') (does_val (x_assign rfl (hS.get 0 rfl)) rfl) ?_
  rintro vw1014 w1014 ⟨hb, he⟩
  have hBw1014_w := below_step hBw1013_w hb
  have hBw1014_w1010 := below_step hBw1013_w1010 hb
  have hBw1014_w1013 := below_step hBw1013_w1013 hb
  have hBw1014_w1014 := Below.refl w1014.heap.size w1014
  obtain rfl : vw1014 = .int .i64 (wrap64 (x1_2 + 10)) := he
  replace hS := ((((((hS.nil).cons (hS.get 6 rfl)).cons (hS.get 5 rfl)).cons (hS.get 4 rfl)).cons (hS.get 3 rfl)).cons (hS.get 1 rfl)).cons (hS.get 0 rfl)
  refine hS.next (v := .int .i64 (wrap64 (x1_2 + 10))) (d := 2) rfl (by decide) (by rfl) ?_
  clear hS
  intro at1015 hS
  refine wpList_nil ?_
  replace hS := ((((((hS.nil).cons (hS.get 6 rfl)).cons (hS.get 5 rfl)).cons (hS.get 4 rfl)).cons (hS.get 3 rfl)).cons (hS.get 0 rfl)).cons (hS.get 2 rfl)
  (try simp only [Exit.then, Exit.inBlock])
  exact J3 _ _ y1_1 AL1_1 CL1_1 (wrap64 (x1_2 + 10)) x1_3_0 x1_3_1 x1_3_2 x1_3_3 x1_3_4 x1_3_5 x1_3_6 x1_3_7 x1_3_8 t1007_1 t1007_2 x1_3_11 x1_3_12 x1_3_13 x1_3_14 x1_3_15 x1_3_16 x1_3_17 x1_3_18 x1_3_19 x1_3_20 x1_3_21 x1_3_22 gL1_3 x1_6_0 x1_6_1 x1_6_2 x1_6_3 x1_6_4 x1_6_5 x1_6_6 x1_6_7 x1_6_8 x1_6_9 x1_6_10 x1_6_11 x1_6_12 x1_6_13 x1_6_14 x1_6_15 x1_6_16 x1_6_17 x1_6_18 x1_6_19 x1_6_20 x1_6_21 x1_6_22 gL1_6 x1_9 x1_10 H hS hBw1014_w hr1_1 (hcL1_1) hgeLgL1_3 ((hBw1014_w1010.block gL1_3 (blk_lt hbxw1010)).trans hbxw1010) hgeLgL1_6 ((hBw1014_w1010.block gL1_6 (blk_lt hn1011)).trans hn1011) hneL1_6_3
 obtain ⟨t14, At14, H⟩ := Option.bind_eq_some_iff.mp H
 by_cases c1 : a2 < 0
 ·rw [if_pos c1] at H
  simp only [Option.some.injEq, Prod.mk.injEq] at H
  obtain ⟨rfl, rfl, rfl, rfl, rfl, rfl, rfl, rfl, rfl, rfl, rfl, rfl, rfl, rfl, rfl, rfl, rfl, rfl, rfl, rfl, rfl, rfl, rfl, rfl, rfl⟩ := H
  refine wp_seq_k (fun K13 hK13 => ?_)
  refine reg_seq (N := 151) (bs := [(8, .int .i64 0), (7, .int .i64 0), (6, .pointer (some ⟨g6, 0, none⟩)), (3, .pointer (some ⟨g4, 0, none⟩)), (1, .slice A1 l1.length cp1), (2, .int .i64 a2)]) (I := fun x => Below w.heap.size w x ∧ Below w3.heap.size w3 x ∧ Below w5.heap.size w5 x ∧ Below w11.heap.size w11 x) (ps := [VI a2, VP g4 0, VI a0_0, VI t14, VI a2, VI t14, VB true]) (by kernel_rfl) ?_ ?_ rfl hS ⟨hBw11_w, hBw11_w3, hBw11_w5, hBw11_w11⟩ ?_ ?_
  ·exact fun x y hI hb => ⟨below_step hI.1 hb, below_step hI.2.1 hb, below_step hI.2.2.1 hb, below_step hI.2.2.2 hb⟩
  ·exact .v (.v (.v (.v (.v (.v (.v (.nil)))))))
  ·refine .ms 5 rfl rfl rfl ?_
   refine .on rfl (fun a w hS hI hp => does_val (x_fieldE (b := 0) rfl (hS.get 3 rfl) Try.underlying29 rfl rfl (by kernel_rfl)) rfl) ?_
   refine .on rfl (fun a w hS hI hp => does_val (x_load1 (d := .int .i64) rfl (hp.V 1 rfl rfl) (by kernel_rfl) rfl ((blk_cell (((hI.2.1).block g4 (blk_lt hbxg4)).trans hbxg4) 0).trans rfl)) rfl) ?_
   refine .on rfl (fun a w hS hI hp => does_call (by kernel_rfl) (ar1 (hp.V 2 rfl rfl)) ((body_Len.calls k a0_0 t14 _  At14).mono fun _ _ h => ⟨_, h.1, h.2.below, rfl⟩)) ?_
   refine .asg 0 rfl rfl rfl rfl ?_
   refine .asg 3 rfl rfl rfl rfl ?_
   refine .on rfl (fun a w hS hI hp => does_val (x_assign rfl (rfl)) rfl) ?_
   exact .nil
  clear hS
  intro at15 w16 hS hI hp
  have hBw16_w := hI.1
  have hBw16_w3 := hI.2.1
  have hBw16_w5 := hI.2.2.1
  have hBw16_w11 := hI.2.2.2
  replace hS := ((((hS.nil).cons (hS.get 5 rfl)).cons (hS.get 4 rfl)).cons (hS.get 3 rfl)).cons (hS.get 2 rfl)
  have hv9 : sl _ 9 = .int .i64 a2 := hp 4 (by decide)
  have hv10 : sl _ 10 = .int .i64 t14 := hp 5 (by decide)
  have hBw16_w16 := Below.refl w16.heap.size w16
  have hS := hS.cons hv9
  have hS := hS.cons hv10
  clear hp hI hv9 hv10
  refine hK13 _ _ ?_
  (try clear hK13 K13)
  refine wp_seq_k (fun K17 hK17 => ?_)
  refine wp_seq_k (fun K18 hK18 => ?_)
  refine reg_seq (N := 151) (bs := [(10, .int .i64 t14), (9, .int .i64 a2), (6, .pointer (some ⟨g6, 0, none⟩)), (3, .pointer (some ⟨g4, 0, none⟩)), (1, .slice A1 l1.length cp1), (2, .int .i64 a2)]) (I := fun x => Below w.heap.size w x ∧ Below w3.heap.size w3 x ∧ Below w5.heap.size w5 x ∧ Below w16.heap.size w16 x) (ps := [VI a2, VB (decide (a2 < 0)), VB (decide (a2 < 0)), VU, VU, VU, VU, VB true, VB true, VU, VU, VU, VU, VU, VU, VB true]) (by kernel_rfl) ?_ ?_ rfl hS ⟨hBw16_w, hBw16_w3, hBw16_w5, hBw16_w16⟩ ?_ ?_
  ·exact fun x y hI hb => ⟨below_step hI.1 hb, below_step hI.2.1 hb, below_step hI.2.2.1 hb, below_step hI.2.2.2 hb⟩
  ·exact .v (.v (.v (.v (.v (.v (.v (.v (.v (.v (.v (.v (.v (.v (.v (.v (.nil))))))))))))))))
  ·refine .ms 5 rfl rfl rfl ?_
   refine .on rfl (fun a w hS hI hp => does_val (x_bin rfl (hp.V 0 rfl rfl) (rfl) (b_lss _ _ _ _ _ _)) rfl) ?_
   refine .mv 1 rfl rfl rfl rfl ?_
   iterate 4 refine .sn 2 18 rfl rfl rfl rfl rfl ((decide_eq_true c1)) ?_
   refine .on rfl (fun a w hS hI hp => does_val (x_pickT rfl ((hp.V 2 rfl rfl).trans (bT (decide_eq_true c1))) (rfl)) rfl) ?_
   refine .mv 7 rfl rfl rfl rfl ?_
   iterate 6 refine .sn 8 24 rfl rfl rfl rfl rfl rfl ?_
   refine .on rfl (fun a w hS hI hp => does_val (x_pickT rfl ((hp.V 8 rfl rfl).trans (bT rfl)) (rfl)) rfl) ?_
   exact .nil
  clear hS
  intro at19 w20 hS hI hp
  have hBw20_w := hI.1
  have hBw20_w3 := hI.2.1
  have hBw20_w5 := hI.2.2.1
  have hBw20_w16 := hI.2.2.2
  have hv31 : sl _ 31 = .bool true := hp 15 (by decide)
  have hBw20_w20 := Below.refl w20.heap.size w20
  have hS := hS.cons hv31
  clear hp hI hv31
  refine hK18 _ _ ?_
  (try clear hK18 K18)
  refine wp_cond_true ((hS.get 0 rfl).trans (bT rfl)) ?_
  refine wp_seq_k (fun K21 hK21 => ?_)
  refine reg_seq_tail 1 (N := 151) (bs := [(31, .bool true), (10, .int .i64 t14), (9, .int .i64 a2), (6, .pointer (some ⟨g6, 0, none⟩)), (3, .pointer (some ⟨g4, 0, none⟩)), (1, .slice A1 l1.length cp1), (2, .int .i64 a2)]) (I := fun x => Below w.heap.size w x ∧ Below w3.heap.size w3 x ∧ Below w5.heap.size w5 x ∧ Below w20.heap.size w20 x) (ps := [IsV ((body_Get.v0 0 0 0 0 0 0 0 0 0 0 0 0 0 0 0 0 0 0 0 0 0 0 0))]) (by kernel_rfl) ?_ ?_ rfl hS ⟨hBw20_w, hBw20_w3, hBw20_w5, hBw20_w20⟩ ?_ ?_
  ·exact fun x y hI hb => ⟨below_step hI.1 hb, below_step hI.2.1 hb, below_step hI.2.2.1 hb, below_step hI.2.2.2 hb⟩
  ·exact .v (.nil)
  ·refine .on rfl (fun a w hS hI hp => does_val (x_build (vs := []) rfl (by rw [Array.toList_map]; exact (show [] = _ from rfl)) (by kernel_rfl)) rfl) ?_
   exact .nil
  clear hS
  intro at22 w23 hS hI hp
  have hBw23_w := hI.1
  have hBw23_w3 := hI.2.1
  have hBw23_w5 := hI.2.2.1
  have hBw23_w20 := hI.2.2.2
  replace hS := (hS.nil).cons (hS.get 3 rfl)
  have hv32 : sl _ 32 = (body_Get.v0 0 0 0 0 0 0 0 0 0 0 0 0 0 0 0 0 0 0 0 0 0 0 0) := hp 0 (by decide)
  have hBw23_w23 := Below.refl w23.heap.size w23
  have hS := hS.cons hv32
  clear hp hI hv32
  show wpList _ _ _ [_, _, _] _ _
  refine list_step rfl (does_storeAll (g := g6) (cs := (body_Get.c1 0 0 0 0 0 0 0 0 0 0 0 0 0 0 0 0 0 0 0 0 0 0 0)) rfl (hS.get 1 rfl) (hS.get 0 rfl) ((hBw23_w5.block g6 (blk_lt hbxg6)).trans hbxg6) (by kernel_rfl) (by kernel_rfl) (by kernel_rfl)) ?_
  rintro vw24 w24 ⟨rfl, hbxw24, hT⟩
  have hBw24_w := hT.below hBw23_w (Nat.le_trans (hBw3_w).size hgeg6) (hBw23_w).size
  have hBw24_w3 := hT.below hBw23_w3 hgeg6 (hBw23_w3).size
  have hBw24_w24 := Below.refl w24.heap.size w24
  clear hT
  refine list_step rfl (R := fun v w' => Below _ _ w' ∧ (VI 0) v w') (does_val (x_assign rfl (rfl)) rfl) ?_
  rintro vw25 w25 ⟨hb, he⟩
  have hBw25_w := below_step hBw24_w hb
  have hBw25_w3 := below_step hBw24_w3 hb
  have hBw25_w24 := below_step hBw24_w24 hb
  have hBw25_w25 := Below.refl w25.heap.size w25
  obtain rfl : vw25 = .int .i64 0 := he
  refine hS.next (v := .int .i64 0) (d := 7) rfl (by decide) (by rfl) ?_
  clear hS
  intro at26 hS
  refine list_step rfl (R := fun v w' => Below _ _ w' ∧ (VI 2) v w') (does_val (x_assign rfl (rfl)) rfl) ?_
  rintro vw27 w27 ⟨hb, he⟩
  have hBw27_w := below_step hBw25_w hb
  have hBw27_w3 := below_step hBw25_w3 hb
  have hBw27_w24 := below_step hBw25_w24 hb
  have hBw27_w25 := below_step hBw25_w25 hb
  have hBw27_w27 := Below.refl w27.heap.size w27
  obtain rfl : vw27 = .int .i64 2 := he
  refine hS.next (v := .int .i64 2) (d := 8) rfl (by decide) (by rfl) ?_
  clear hS
  intro at28 hS
  refine wpList_nil ?_
  refine hK21 _ _ ?_
  (try clear hK21 K21)
  refine wp_ret ?_
  (try simp only [Exit.then, Exit.inBlock, Exit.jump, Exit.noGoto])
  exact bodyPost_ret (v := .tuple #[(body_Get.v0 0 0 0 0 0 0 0 0 0 0 0 0 0 0 0 0 0 0 0 0 0 0 0), .int .i64 0, .int .i64 2]) (results_list (rs := [.cell 6 29, .tmp 7, .tmp 8]) rfl (by simp) (Vals.cell g6 29 (body_Get.c1 0 0 0 0 0 0 0 0 0 0 0 0 0 0 0 0 0 0 0 0 0 0 0) (0, 0) _ (hS.get 3 rfl) ((hBw27_w24.block g6 (blk_lt hbxw24)).trans hbxw24) Try.underlying29 rfl (by kernel_rfl) (Vals.at (hS.get 1 rfl) (Vals.at (hS.get 0 rfl) .nil)))) hS.nodef ⟨rfl, hBw27_w⟩
 rw [if_neg c1] at H
 by_cases c2 : a2 > (l1.length : Int)
 ·rw [if_pos c2] at H
  simp only [Option.some.injEq, Prod.mk.injEq] at H
  obtain ⟨rfl, rfl, rfl, rfl, rfl, rfl, rfl, rfl, rfl, rfl, rfl, rfl, rfl, rfl, rfl, rfl, rfl, rfl, rfl, rfl, rfl, rfl, rfl, rfl, rfl⟩ := H
  refine wp_seq_k (fun K13 hK13 => ?_)
  refine reg_seq (N := 151) (bs := [(8, .int .i64 0), (7, .int .i64 0), (6, .pointer (some ⟨g6, 0, none⟩)), (3, .pointer (some ⟨g4, 0, none⟩)), (1, .slice A1 l1.length cp1), (2, .int .i64 a2)]) (I := fun x => Below w.heap.size w x ∧ Below w3.heap.size w3 x ∧ Below w5.heap.size w5 x ∧ Below w11.heap.size w11 x) (ps := [VI a2, VP g4 0, VI a0_0, VI t14, VI a2, VI t14, VB true]) (by kernel_rfl) ?_ ?_ rfl hS ⟨hBw11_w, hBw11_w3, hBw11_w5, hBw11_w11⟩ ?_ ?_
  ·exact fun x y hI hb => ⟨below_step hI.1 hb, below_step hI.2.1 hb, below_step hI.2.2.1 hb, below_step hI.2.2.2 hb⟩
  ·exact .v (.v (.v (.v (.v (.v (.v (.nil)))))))
  ·refine .ms 5 rfl rfl rfl ?_
   refine .on rfl (fun a w hS hI hp => does_val (x_fieldE (b := 0) rfl (hS.get 3 rfl) Try.underlying29 rfl rfl (by kernel_rfl)) rfl) ?_
   refine .on rfl (fun a w hS hI hp => does_val (x_load1 (d := .int .i64) rfl (hp.V 1 rfl rfl) (by kernel_rfl) rfl ((blk_cell (((hI.2.1).block g4 (blk_lt hbxg4)).trans hbxg4) 0).trans rfl)) rfl) ?_
   refine .on rfl (fun a w hS hI hp => does_call (by kernel_rfl) (ar1 (hp.V 2 rfl rfl)) ((body_Len.calls k a0_0 t14 _  At14).mono fun _ _ h => ⟨_, h.1, h.2.below, rfl⟩)) ?_
   refine .asg 0 rfl rfl rfl rfl ?_
   refine .asg 3 rfl rfl rfl rfl ?_
   refine .on rfl (fun a w hS hI hp => does_val (x_assign rfl (rfl)) rfl) ?_
   exact .nil
  clear hS
  intro at15 w16 hS hI hp
  have hBw16_w := hI.1
  have hBw16_w3 := hI.2.1
  have hBw16_w5 := hI.2.2.1
  have hBw16_w11 := hI.2.2.2
  replace hS := ((((hS.nil).cons (hS.get 5 rfl)).cons (hS.get 4 rfl)).cons (hS.get 3 rfl)).cons (hS.get 2 rfl)
  have hv9 : sl _ 9 = .int .i64 a2 := hp 4 (by decide)
  have hv10 : sl _ 10 = .int .i64 t14 := hp 5 (by decide)
  have hBw16_w16 := Below.refl w16.heap.size w16
  have hS := hS.cons hv9
  have hS := hS.cons hv10
  clear hp hI hv9 hv10
  refine hK13 _ _ ?_
  (try clear hK13 K13)
  refine wp_seq_k (fun K17 hK17 => ?_)
  refine wp_seq_k (fun K18 hK18 => ?_)
  refine reg_seq (N := 151) (bs := [(10, .int .i64 t14), (9, .int .i64 a2), (6, .pointer (some ⟨g6, 0, none⟩)), (3, .pointer (some ⟨g4, 0, none⟩)), (1, .slice A1 l1.length cp1), (2, .int .i64 a2)]) (I := fun x => Below w.heap.size w x ∧ Below w3.heap.size w3 x ∧ Below w5.heap.size w5 x ∧ Below w16.heap.size w16 x) (ps := [VI a2, VB (decide (a2 < 0)), VB (decide (a2 < 0)), VI a2, IsV (.slice A1 l1.length cp1), VI (l1.length : Int), VB (decide (a2 > (l1.length : Int))), VB (decide (a2 > (l1.length : Int))), VB (decide (a2 > (l1.length : Int))), VU, VU, VU, VU, VU, VU, VB true]) (by kernel_rfl) ?_ ?_ rfl hS ⟨hBw16_w, hBw16_w3, hBw16_w5, hBw16_w16⟩ ?_ ?_
  ·exact fun x y hI hb => ⟨below_step hI.1 hb, below_step hI.2.1 hb, below_step hI.2.2.1 hb, below_step hI.2.2.2 hb⟩
  ·exact .v (.v (.v (.v (.v (.v (.v (.v (.v (.v (.v (.v (.v (.v (.v (.v (.nil))))))))))))))))
  ·refine .ms 5 rfl rfl rfl ?_
   refine .on rfl (fun a w hS hI hp => does_val (x_bin rfl (hp.V 0 rfl rfl) (rfl) (b_lss _ _ _ _ _ _)) rfl) ?_
   refine .mv 1 rfl rfl rfl rfl ?_
   refine .oy 2 18 rfl rfl rfl rfl rfl ((decide_eq_false c1)) (fun a w hS hI hp => does_val (x_move rfl (hS.get 5 rfl)) rfl) ?_
   refine .oy 2 18 rfl rfl rfl rfl rfl ((decide_eq_false c1)) (fun a w hS hI hp => does_val (x_move rfl (hS.get 4 rfl)) rfl) ?_
   refine .oy 2 18 rfl rfl rfl rfl rfl ((decide_eq_false c1)) (fun a w hS hI hp => does_val (x_len (e := 5) rfl (by kernel_rfl) (hp.V 4 rfl rfl)) rfl) ?_
   refine .oy 2 18 rfl rfl rfl rfl rfl ((decide_eq_false c1)) (fun a w hS hI hp => does_val (x_bin rfl (hp.V 3 rfl rfl) (hp.V 5 rfl rfl) (b_gtr _ _ _ _ _ _)) rfl) ?_
   refine .on rfl (fun a w hS hI hp => does_val (x_pickF rfl ((hp.V 2 rfl rfl).trans (bF (decide_eq_false c1))) (hp.V 6 rfl rfl)) rfl) ?_
   refine .mv 7 rfl rfl rfl rfl ?_
   iterate 6 refine .sn 8 24 rfl rfl rfl rfl rfl ((decide_eq_true c2)) ?_
   refine .on rfl (fun a w hS hI hp => does_val (x_pickT rfl ((hp.V 8 rfl rfl).trans (bT (decide_eq_true c2))) (rfl)) rfl) ?_
   exact .nil
  clear hS
  intro at19 w20 hS hI hp
  have hBw20_w := hI.1
  have hBw20_w3 := hI.2.1
  have hBw20_w5 := hI.2.2.1
  have hBw20_w16 := hI.2.2.2
  have hv31 : sl _ 31 = .bool true := hp 15 (by decide)
  have hBw20_w20 := Below.refl w20.heap.size w20
  have hS := hS.cons hv31
  clear hp hI hv31
  refine hK18 _ _ ?_
  (try clear hK18 K18)
  refine wp_cond_true ((hS.get 0 rfl).trans (bT rfl)) ?_
  refine wp_seq_k (fun K21 hK21 => ?_)
  refine reg_seq_tail 1 (N := 151) (bs := [(31, .bool true), (10, .int .i64 t14), (9, .int .i64 a2), (6, .pointer (some ⟨g6, 0, none⟩)), (3, .pointer (some ⟨g4, 0, none⟩)), (1, .slice A1 l1.length cp1), (2, .int .i64 a2)]) (I := fun x => Below w.heap.size w x ∧ Below w3.heap.size w3 x ∧ Below w5.heap.size w5 x ∧ Below w20.heap.size w20 x) (ps := [IsV ((body_Get.v0 0 0 0 0 0 0 0 0 0 0 0 0 0 0 0 0 0 0 0 0 0 0 0))]) (by kernel_rfl) ?_ ?_ rfl hS ⟨hBw20_w, hBw20_w3, hBw20_w5, hBw20_w20⟩ ?_ ?_
  ·exact fun x y hI hb => ⟨below_step hI.1 hb, below_step hI.2.1 hb, below_step hI.2.2.1 hb, below_step hI.2.2.2 hb⟩
  ·exact .v (.nil)
  ·refine .on rfl (fun a w hS hI hp => does_val (x_build (vs := []) rfl (by rw [Array.toList_map]; exact (show [] = _ from rfl)) (by kernel_rfl)) rfl) ?_
   exact .nil
  clear hS
  intro at22 w23 hS hI hp
  have hBw23_w := hI.1
  have hBw23_w3 := hI.2.1
  have hBw23_w5 := hI.2.2.1
  have hBw23_w20 := hI.2.2.2
  replace hS := (hS.nil).cons (hS.get 3 rfl)
  have hv32 : sl _ 32 = (body_Get.v0 0 0 0 0 0 0 0 0 0 0 0 0 0 0 0 0 0 0 0 0 0 0 0) := hp 0 (by decide)
  have hBw23_w23 := Below.refl w23.heap.size w23
  have hS := hS.cons hv32
  clear hp hI hv32
  show wpList _ _ _ [_, _, _] _ _
  refine list_step rfl (does_storeAll (g := g6) (cs := (body_Get.c1 0 0 0 0 0 0 0 0 0 0 0 0 0 0 0 0 0 0 0 0 0 0 0)) rfl (hS.get 1 rfl) (hS.get 0 rfl) ((hBw23_w5.block g6 (blk_lt hbxg6)).trans hbxg6) (by kernel_rfl) (by kernel_rfl) (by kernel_rfl)) ?_
  rintro vw24 w24 ⟨rfl, hbxw24, hT⟩
  have hBw24_w := hT.below hBw23_w (Nat.le_trans (hBw3_w).size hgeg6) (hBw23_w).size
  have hBw24_w3 := hT.below hBw23_w3 hgeg6 (hBw23_w3).size
  have hBw24_w24 := Below.refl w24.heap.size w24
  clear hT
  refine list_step rfl (R := fun v w' => Below _ _ w' ∧ (VI 0) v w') (does_val (x_assign rfl (rfl)) rfl) ?_
  rintro vw25 w25 ⟨hb, he⟩
  have hBw25_w := below_step hBw24_w hb
  have hBw25_w3 := below_step hBw24_w3 hb
  have hBw25_w24 := below_step hBw24_w24 hb
  have hBw25_w25 := Below.refl w25.heap.size w25
  obtain rfl : vw25 = .int .i64 0 := he
  refine hS.next (v := .int .i64 0) (d := 7) rfl (by decide) (by rfl) ?_
  clear hS
  intro at26 hS
  refine list_step rfl (R := fun v w' => Below _ _ w' ∧ (VI 2) v w') (does_val (x_assign rfl (rfl)) rfl) ?_
  rintro vw27 w27 ⟨hb, he⟩
  have hBw27_w := below_step hBw25_w hb
  have hBw27_w3 := below_step hBw25_w3 hb
  have hBw27_w24 := below_step hBw25_w24 hb
  have hBw27_w25 := below_step hBw25_w25 hb
  have hBw27_w27 := Below.refl w27.heap.size w27
  obtain rfl : vw27 = .int .i64 2 := he
  refine hS.next (v := .int .i64 2) (d := 8) rfl (by decide) (by rfl) ?_
  clear hS
  intro at28 hS
  refine wpList_nil ?_
  refine hK21 _ _ ?_
  (try clear hK21 K21)
  refine wp_ret ?_
  (try simp only [Exit.then, Exit.inBlock, Exit.jump, Exit.noGoto])
  exact bodyPost_ret (v := .tuple #[(body_Get.v0 0 0 0 0 0 0 0 0 0 0 0 0 0 0 0 0 0 0 0 0 0 0 0), .int .i64 0, .int .i64 2]) (results_list (rs := [.cell 6 29, .tmp 7, .tmp 8]) rfl (by simp) (Vals.cell g6 29 (body_Get.c1 0 0 0 0 0 0 0 0 0 0 0 0 0 0 0 0 0 0 0 0 0 0 0) (0, 0) _ (hS.get 3 rfl) ((hBw27_w24.block g6 (blk_lt hbxw24)).trans hbxw24) Try.underlying29 rfl (by kernel_rfl) (Vals.at (hS.get 1 rfl) (Vals.at (hS.get 0 rfl) .nil)))) hS.nodef ⟨rfl, hBw27_w⟩
 rw [if_neg c2] at H
 by_cases c3 : (wrap64 ((l1.length : Int) - a2)) < t14
 ·rw [if_pos c3] at H
  simp only [Option.some.injEq, Prod.mk.injEq] at H
  obtain ⟨rfl, rfl, rfl, rfl, rfl, rfl, rfl, rfl, rfl, rfl, rfl, rfl, rfl, rfl, rfl, rfl, rfl, rfl, rfl, rfl, rfl, rfl, rfl, rfl, rfl⟩ := H
  refine wp_seq_k (fun K13 hK13 => ?_)
  refine reg_seq (N := 151) (bs := [(8, .int .i64 0), (7, .int .i64 0), (6, .pointer (some ⟨g6, 0, none⟩)), (3, .pointer (some ⟨g4, 0, none⟩)), (1, .slice A1 l1.length cp1), (2, .int .i64 a2)]) (I := fun x => Below w.heap.size w x ∧ Below w3.heap.size w3 x ∧ Below w5.heap.size w5 x ∧ Below w11.heap.size w11 x) (ps := [VI a2, VP g4 0, VI a0_0, VI t14, VI a2, VI t14, VB true]) (by kernel_rfl) ?_ ?_ rfl hS ⟨hBw11_w, hBw11_w3, hBw11_w5, hBw11_w11⟩ ?_ ?_
  ·exact fun x y hI hb => ⟨below_step hI.1 hb, below_step hI.2.1 hb, below_step hI.2.2.1 hb, below_step hI.2.2.2 hb⟩
  ·exact .v (.v (.v (.v (.v (.v (.v (.nil)))))))
  ·refine .ms 5 rfl rfl rfl ?_
   refine .on rfl (fun a w hS hI hp => does_val (x_fieldE (b := 0) rfl (hS.get 3 rfl) Try.underlying29 rfl rfl (by kernel_rfl)) rfl) ?_
   refine .on rfl (fun a w hS hI hp => does_val (x_load1 (d := .int .i64) rfl (hp.V 1 rfl rfl) (by kernel_rfl) rfl ((blk_cell (((hI.2.1).block g4 (blk_lt hbxg4)).trans hbxg4) 0).trans rfl)) rfl) ?_
   refine .on rfl (fun a w hS hI hp => does_call (by kernel_rfl) (ar1 (hp.V 2 rfl rfl)) ((body_Len.calls k a0_0 t14 _  At14).mono fun _ _ h => ⟨_, h.1, h.2.below, rfl⟩)) ?_
   refine .asg 0 rfl rfl rfl rfl ?_
   refine .asg 3 rfl rfl rfl rfl ?_
   refine .on rfl (fun a w hS hI hp => does_val (x_assign rfl (rfl)) rfl) ?_
   exact .nil
  clear hS
  intro at15 w16 hS hI hp
  have hBw16_w := hI.1
  have hBw16_w3 := hI.2.1
  have hBw16_w5 := hI.2.2.1
  have hBw16_w11 := hI.2.2.2
  replace hS := ((((hS.nil).cons (hS.get 5 rfl)).cons (hS.get 4 rfl)).cons (hS.get 3 rfl)).cons (hS.get 2 rfl)
  have hv9 : sl _ 9 = .int .i64 a2 := hp 4 (by decide)
  have hv10 : sl _ 10 = .int .i64 t14 := hp 5 (by decide)
  have hBw16_w16 := Below.refl w16.heap.size w16
  have hS := hS.cons hv9
  have hS := hS.cons hv10
  clear hp hI hv9 hv10
  refine hK13 _ _ ?_
  (try clear hK13 K13)
  refine wp_seq_k (fun K17 hK17 => ?_)
  refine wp_seq_k (fun K18 hK18 => ?_)
  refine reg_seq (N := 151) (bs := [(10, .int .i64 t14), (9, .int .i64 a2), (6, .pointer (some ⟨g6, 0, none⟩)), (3, .pointer (some ⟨g4, 0, none⟩)), (1, .slice A1 l1.length cp1), (2, .int .i64 a2)]) (I := fun x => Below w.heap.size w x ∧ Below w3.heap.size w3 x ∧ Below w5.heap.size w5 x ∧ Below w16.heap.size w16 x) (ps := [VI a2, VB (decide (a2 < 0)), VB (decide (a2 < 0)), VI a2, IsV (.slice A1 l1.length cp1), VI (l1.length : Int), VB (decide (a2 > (l1.length : Int))), VB (decide (a2 > (l1.length : Int))), VB (decide (a2 > (l1.length : Int))), IsV (.slice A1 l1.length cp1), VI (l1.length : Int), VI a2, VI (wrap64 ((l1.length : Int) - a2)), VI t14, VB (decide ((wrap64 ((l1.length : Int) - a2)) < t14)), VB (decide ((wrap64 ((l1.length : Int) - a2)) < t14))]) (by kernel_rfl) ?_ ?_ rfl hS ⟨hBw16_w, hBw16_w3, hBw16_w5, hBw16_w16⟩ ?_ ?_
  ·exact fun x y hI hb => ⟨below_step hI.1 hb, below_step hI.2.1 hb, below_step hI.2.2.1 hb, below_step hI.2.2.2 hb⟩
  ·exact .v (.v (.v (.v (.v (.v (.v (.v (.v (.v (.v (.v (.v (.v (.v (.v (.nil))))))))))))))))
  ·refine .ms 5 rfl rfl rfl ?_
   refine .on rfl (fun a w hS hI hp => does_val (x_bin rfl (hp.V 0 rfl rfl) (rfl) (b_lss _ _ _ _ _ _)) rfl) ?_
   refine .mv 1 rfl rfl rfl rfl ?_
   refine .oy 2 18 rfl rfl rfl rfl rfl ((decide_eq_false c1)) (fun a w hS hI hp => does_val (x_move rfl (hS.get 5 rfl)) rfl) ?_
   refine .oy 2 18 rfl rfl rfl rfl rfl ((decide_eq_false c1)) (fun a w hS hI hp => does_val (x_move rfl (hS.get 4 rfl)) rfl) ?_
   refine .oy 2 18 rfl rfl rfl rfl rfl ((decide_eq_false c1)) (fun a w hS hI hp => does_val (x_len (e := 5) rfl (by kernel_rfl) (hp.V 4 rfl rfl)) rfl) ?_
   refine .oy 2 18 rfl rfl rfl rfl rfl ((decide_eq_false c1)) (fun a w hS hI hp => does_val (x_bin rfl (hp.V 3 rfl rfl) (hp.V 5 rfl rfl) (b_gtr _ _ _ _ _ _)) rfl) ?_
   refine .on rfl (fun a w hS hI hp => does_val (x_pickF rfl ((hp.V 2 rfl rfl).trans (bF (decide_eq_false c1))) (hp.V 6 rfl rfl)) rfl) ?_
   refine .mv 7 rfl rfl rfl rfl ?_
   refine .oy 8 24 rfl rfl rfl rfl rfl ((decide_eq_false c2)) (fun a w hS hI hp => does_val (x_move rfl (hS.get 4 rfl)) rfl) ?_
   refine .oy 8 24 rfl rfl rfl rfl rfl ((decide_eq_false c2)) (fun a w hS hI hp => does_val (x_len (e := 5) rfl (by kernel_rfl) (hp.V 9 rfl rfl)) rfl) ?_
   refine .oy 8 24 rfl rfl rfl rfl rfl ((decide_eq_false c2)) (fun a w hS hI hp => does_val (x_move rfl (hS.get 5 rfl)) rfl) ?_
   refine .oy 8 24 rfl rfl rfl rfl rfl ((decide_eq_false c2)) (fun a w hS hI hp => does_val (x_bin rfl (hp.V 10 rfl rfl) (hp.V 11 rfl rfl) (b_sub _ _ _ _ _)) rfl) ?_
   refine .oy 8 24 rfl rfl rfl rfl rfl ((decide_eq_false c2)) (fun a w hS hI hp => does_val (x_move rfl (hS.get 0 rfl)) rfl) ?_
   refine .oy 8 24 rfl rfl rfl rfl rfl ((decide_eq_false c2)) (fun a w hS hI hp => does_val (x_bin rfl (hp.V 12 rfl rfl) (hp.V 13 rfl rfl) (b_lss _ _ _ _ _ _)) rfl) ?_
   refine .on rfl (fun a w hS hI hp => does_val (x_pickF rfl ((hp.V 8 rfl rfl).trans (bF (decide_eq_false c2))) (hp.V 14 rfl rfl)) rfl) ?_
   exact .nil
  clear hS
  intro at19 w20 hS hI hp
  have hBw20_w := hI.1
  have hBw20_w3 := hI.2.1
  have hBw20_w5 := hI.2.2.1
  have hBw20_w16 := hI.2.2.2
  have hv31 : sl _ 31 = .bool (decide ((wrap64 ((l1.length : Int) - a2)) < t14)) := hp 15 (by decide)
  have hBw20_w20 := Below.refl w20.heap.size w20
  have hS := hS.cons hv31
  clear hp hI hv31
  refine hK18 _ _ ?_
  (try clear hK18 K18)
  refine wp_cond_true ((hS.get 0 rfl).trans (bT (decide_eq_true c3))) ?_
  refine wp_seq_k (fun K21 hK21 => ?_)
  refine reg_seq_tail 1 (N := 151) (bs := [(31, .bool (decide ((wrap64 ((l1.length : Int) - a2)) < t14))), (10, .int .i64 t14), (9, .int .i64 a2), (6, .pointer (some ⟨g6, 0, none⟩)), (3, .pointer (some ⟨g4, 0, none⟩)), (1, .slice A1 l1.length cp1), (2, .int .i64 a2)]) (I := fun x => Below w.heap.size w x ∧ Below w3.heap.size w3 x ∧ Below w5.heap.size w5 x ∧ Below w20.heap.size w20 x) (ps := [IsV ((body_Get.v0 0 0 0 0 0 0 0 0 0 0 0 0 0 0 0 0 0 0 0 0 0 0 0))]) (by kernel_rfl) ?_ ?_ rfl hS ⟨hBw20_w, hBw20_w3, hBw20_w5, hBw20_w20⟩ ?_ ?_
  ·exact fun x y hI hb => ⟨below_step hI.1 hb, below_step hI.2.1 hb, below_step hI.2.2.1 hb, below_step hI.2.2.2 hb⟩
  ·exact .v (.nil)
  ·refine .on rfl (fun a w hS hI hp => does_val (x_build (vs := []) rfl (by rw [Array.toList_map]; exact (show [] = _ from rfl)) (by kernel_rfl)) rfl) ?_
   exact .nil
  clear hS
  intro at22 w23 hS hI hp
  have hBw23_w := hI.1
  have hBw23_w3 := hI.2.1
  have hBw23_w5 := hI.2.2.1
  have hBw23_w20 := hI.2.2.2
  replace hS := (hS.nil).cons (hS.get 3 rfl)
  have hv32 : sl _ 32 = (body_Get.v0 0 0 0 0 0 0 0 0 0 0 0 0 0 0 0 0 0 0 0 0 0 0 0) := hp 0 (by decide)
  have hBw23_w23 := Below.refl w23.heap.size w23
  have hS := hS.cons hv32
  clear hp hI hv32
  show wpList _ _ _ [_, _, _] _ _
  refine list_step rfl (does_storeAll (g := g6) (cs := (body_Get.c1 0 0 0 0 0 0 0 0 0 0 0 0 0 0 0 0 0 0 0 0 0 0 0)) rfl (hS.get 1 rfl) (hS.get 0 rfl) ((hBw23_w5.block g6 (blk_lt hbxg6)).trans hbxg6) (by kernel_rfl) (by kernel_rfl) (by kernel_rfl)) ?_
  rintro vw24 w24 ⟨rfl, hbxw24, hT⟩
  have hBw24_w := hT.below hBw23_w (Nat.le_trans (hBw3_w).size hgeg6) (hBw23_w).size
  have hBw24_w3 := hT.below hBw23_w3 hgeg6 (hBw23_w3).size
  have hBw24_w24 := Below.refl w24.heap.size w24
  clear hT
  refine list_step rfl (R := fun v w' => Below _ _ w' ∧ (VI 0) v w') (does_val (x_assign rfl (rfl)) rfl) ?_
  rintro vw25 w25 ⟨hb, he⟩
  have hBw25_w := below_step hBw24_w hb
  have hBw25_w3 := below_step hBw24_w3 hb
  have hBw25_w24 := below_step hBw24_w24 hb
  have hBw25_w25 := Below.refl w25.heap.size w25
  obtain rfl : vw25 = .int .i64 0 := he
  refine hS.next (v := .int .i64 0) (d := 7) rfl (by decide) (by rfl) ?_
  clear hS
  intro at26 hS
  refine list_step rfl (R := fun v w' => Below _ _ w' ∧ (VI 2) v w') (does_val (x_assign rfl (rfl)) rfl) ?_
  rintro vw27 w27 ⟨hb, he⟩
  have hBw27_w := below_step hBw25_w hb
  have hBw27_w3 := below_step hBw25_w3 hb
  have hBw27_w24 := below_step hBw25_w24 hb
  have hBw27_w25 := below_step hBw25_w25 hb
  have hBw27_w27 := Below.refl w27.heap.size w27
  obtain rfl : vw27 = .int .i64 2 := he
  refine hS.next (v := .int .i64 2) (d := 8) rfl (by decide) (by rfl) ?_
  clear hS
  intro at28 hS
  refine wpList_nil ?_
  refine hK21 _ _ ?_
  (try clear hK21 K21)
  refine wp_ret ?_
  (try simp only [Exit.then, Exit.inBlock, Exit.jump, Exit.noGoto])
  exact bodyPost_ret (v := .tuple #[(body_Get.v0 0 0 0 0 0 0 0 0 0 0 0 0 0 0 0 0 0 0 0 0 0 0 0), .int .i64 0, .int .i64 2]) (results_list (rs := [.cell 6 29, .tmp 7, .tmp 8]) rfl (by simp) (Vals.cell g6 29 (body_Get.c1 0 0 0 0 0 0 0 0 0 0 0 0 0 0 0 0 0 0 0 0 0 0 0) (0, 0) _ (hS.get 3 rfl) ((hBw27_w24.block g6 (blk_lt hbxw24)).trans hbxw24) Try.underlying29 rfl (by kernel_rfl) (Vals.at (hS.get 1 rfl) (Vals.at (hS.get 0 rfl) .nil)))) hS.nodef ⟨rfl, hBw27_w⟩
 rw [if_neg c3] at H
 refine wp_seq_k (fun K13 hK13 => ?_)
 refine reg_seq (N := 151) (bs := [(8, .int .i64 0), (7, .int .i64 0), (6, .pointer (some ⟨g6, 0, none⟩)), (3, .pointer (some ⟨g4, 0, none⟩)), (1, .slice A1 l1.length cp1), (2, .int .i64 a2)]) (I := fun x => Below w.heap.size w x ∧ Below w3.heap.size w3 x ∧ Below w5.heap.size w5 x ∧ Below w11.heap.size w11 x) (ps := [VI a2, VP g4 0, VI a0_0, VI t14, VI a2, VI t14, VB true]) (by kernel_rfl) ?_ ?_ rfl hS ⟨hBw11_w, hBw11_w3, hBw11_w5, hBw11_w11⟩ ?_ ?_
 ·exact fun x y hI hb => ⟨below_step hI.1 hb, below_step hI.2.1 hb, below_step hI.2.2.1 hb, below_step hI.2.2.2 hb⟩
 ·exact .v (.v (.v (.v (.v (.v (.v (.nil)))))))
 ·refine .ms 5 rfl rfl rfl ?_
  refine .on rfl (fun a w hS hI hp => does_val (x_fieldE (b := 0) rfl (hS.get 3 rfl) Try.underlying29 rfl rfl (by kernel_rfl)) rfl) ?_
  refine .on rfl (fun a w hS hI hp => does_val (x_load1 (d := .int .i64) rfl (hp.V 1 rfl rfl) (by kernel_rfl) rfl ((blk_cell (((hI.2.1).block g4 (blk_lt hbxg4)).trans hbxg4) 0).trans rfl)) rfl) ?_
  refine .on rfl (fun a w hS hI hp => does_call (by kernel_rfl) (ar1 (hp.V 2 rfl rfl)) ((body_Len.calls k a0_0 t14 _  At14).mono fun _ _ h => ⟨_, h.1, h.2.below, rfl⟩)) ?_
  refine .asg 0 rfl rfl rfl rfl ?_
  refine .asg 3 rfl rfl rfl rfl ?_
  refine .on rfl (fun a w hS hI hp => does_val (x_assign rfl (rfl)) rfl) ?_
  exact .nil
 clear hS
 intro at15 w16 hS hI hp
 have hBw16_w := hI.1
 have hBw16_w3 := hI.2.1
 have hBw16_w5 := hI.2.2.1
 have hBw16_w11 := hI.2.2.2
 replace hS := ((((hS.nil).cons (hS.get 5 rfl)).cons (hS.get 4 rfl)).cons (hS.get 3 rfl)).cons (hS.get 2 rfl)
 have hv9 : sl _ 9 = .int .i64 a2 := hp 4 (by decide)
 have hv10 : sl _ 10 = .int .i64 t14 := hp 5 (by decide)
 have hBw16_w16 := Below.refl w16.heap.size w16
 have hS := hS.cons hv9
 have hS := hS.cons hv10
 clear hp hI hv9 hv10
 refine hK13 _ _ ?_
 (try clear hK13 K13)
 refine wp_seq_k (fun K17 hK17 => ?_)
 refine wp_seq_k (fun K18 hK18 => ?_)
 refine reg_seq (N := 151) (bs := [(10, .int .i64 t14), (9, .int .i64 a2), (6, .pointer (some ⟨g6, 0, none⟩)), (3, .pointer (some ⟨g4, 0, none⟩)), (1, .slice A1 l1.length cp1), (2, .int .i64 a2)]) (I := fun x => Below w.heap.size w x ∧ Below w3.heap.size w3 x ∧ Below w5.heap.size w5 x ∧ Below w16.heap.size w16 x) (ps := [VI a2, VB (decide (a2 < 0)), VB (decide (a2 < 0)), VI a2, IsV (.slice A1 l1.length cp1), VI (l1.length : Int), VB (decide (a2 > (l1.length : Int))), VB (decide (a2 > (l1.length : Int))), VB (decide (a2 > (l1.length : Int))), IsV (.slice A1 l1.length cp1), VI (l1.length : Int), VI a2, VI (wrap64 ((l1.length : Int) - a2)), VI t14, VB (decide ((wrap64 ((l1.length : Int) - a2)) < t14)), VB (decide ((wrap64 ((l1.length : Int) - a2)) < t14))]) (by kernel_rfl) ?_ ?_ rfl hS ⟨hBw16_w, hBw16_w3, hBw16_w5, hBw16_w16⟩ ?_ ?_
 ·exact fun x y hI hb => ⟨below_step hI.1 hb, below_step hI.2.1 hb, below_step hI.2.2.1 hb, below_step hI.2.2.2 hb⟩
 ·exact .v (.v (.v (.v (.v (.v (.v (.v (.v (.v (.v (.v (.v (.v (.v (.v (.nil))))))))))))))))
 ·refine .ms 5 rfl rfl rfl ?_
  refine .on rfl (fun a w hS hI hp => does_val (x_bin rfl (hp.V 0 rfl rfl) (rfl) (b_lss _ _ _ _ _ _)) rfl) ?_
  refine .mv 1 rfl rfl rfl rfl ?_
  refine .oy 2 18 rfl rfl rfl rfl rfl ((decide_eq_false c1)) (fun a w hS hI hp => does_val (x_move rfl (hS.get 5 rfl)) rfl) ?_
  refine .oy 2 18 rfl rfl rfl rfl rfl ((decide_eq_false c1)) (fun a w hS hI hp => does_val (x_move rfl (hS.get 4 rfl)) rfl) ?_
  refine .oy 2 18 rfl rfl rfl rfl rfl ((decide_eq_false c1)) (fun a w hS hI hp => does_val (x_len (e := 5) rfl (by kernel_rfl) (hp.V 4 rfl rfl)) rfl) ?_
  refine .oy 2 18 rfl rfl rfl rfl rfl ((decide_eq_false c1)) (fun a w hS hI hp => does_val (x_bin rfl (hp.V 3 rfl rfl) (hp.V 5 rfl rfl) (b_gtr _ _ _ _ _ _)) rfl) ?_
  refine .on rfl (fun a w hS hI hp => does_val (x_pickF rfl ((hp.V 2 rfl rfl).trans (bF (decide_eq_false c1))) (hp.V 6 rfl rfl)) rfl) ?_
  refine .mv 7 rfl rfl rfl rfl ?_
  refine .oy 8 24 rfl rfl rfl rfl rfl ((decide_eq_false c2)) (fun a w hS hI hp => does_val (x_move rfl (hS.get 4 rfl)) rfl) ?_
  refine .oy 8 24 rfl rfl rfl rfl rfl ((decide_eq_false c2)) (fun a w hS hI hp => does_val (x_len (e := 5) rfl (by kernel_rfl) (hp.V 9 rfl rfl)) rfl) ?_
  refine .oy 8 24 rfl rfl rfl rfl rfl ((decide_eq_false c2)) (fun a w hS hI hp => does_val (x_move rfl (hS.get 5 rfl)) rfl) ?_
  refine .oy 8 24 rfl rfl rfl rfl rfl ((decide_eq_false c2)) (fun a w hS hI hp => does_val (x_bin rfl (hp.V 10 rfl rfl) (hp.V 11 rfl rfl) (b_sub _ _ _ _ _)) rfl) ?_
  refine .oy 8 24 rfl rfl rfl rfl rfl ((decide_eq_false c2)) (fun a w hS hI hp => does_val (x_move rfl (hS.get 0 rfl)) rfl) ?_
  refine .oy 8 24 rfl rfl rfl rfl rfl ((decide_eq_false c2)) (fun a w hS hI hp => does_val (x_bin rfl (hp.V 12 rfl rfl) (hp.V 13 rfl rfl) (b_lss _ _ _ _ _ _)) rfl) ?_
  refine .on rfl (fun a w hS hI hp => does_val (x_pickF rfl ((hp.V 8 rfl rfl).trans (bF (decide_eq_false c2))) (hp.V 14 rfl rfl)) rfl) ?_
  exact .nil
 clear hS
 intro at19 w20 hS hI hp
 have hBw20_w := hI.1
 have hBw20_w3 := hI.2.1
 have hBw20_w5 := hI.2.2.1
 have hBw20_w16 := hI.2.2.2
 have hv31 : sl _ 31 = .bool (decide ((wrap64 ((l1.length : Int) - a2)) < t14)) := hp 15 (by decide)
 have hBw20_w20 := Below.refl w20.heap.size w20
 have hS := hS.cons hv31
 clear hp hI hv31
 refine hK18 _ _ ?_
 (try clear hK18 K18)
 refine wp_cond_false ((hS.get 0 rfl).trans (bF (decide_eq_false c3))) ?_
 refine wp_skip ?_
 refine hK17 _ _ ?_
 (try clear hK17 K17)
 refine wp_seq_k (fun K21 hK21 => ?_)
 have J2 : ∀ (aL2 : Act) (wL2 : World) (y2_1 : List Int) (AL2_1 : Option Addr) (CL2_1 : Nat) (x2_2 x2_3_0 x2_3_1 x2_3_2 x2_3_3 x2_3_4 x2_3_5 x2_3_6 x2_3_7 x2_3_8 x2_3_9 x2_3_10 x2_3_11 x2_3_12 x2_3_13 x2_3_14 x2_3_15 x2_3_16 x2_3_17 x2_3_18 x2_3_19 x2_3_20 x2_3_21 x2_3_22 : Int) (gL2_3 : Nat) (x2_6_0 x2_6_1 x2_6_2 x2_6_3 x2_6_4 x2_6_5 x2_6_6 x2_6_7 x2_6_8 x2_6_9 x2_6_10 x2_6_11 x2_6_12 x2_6_13 x2_6_14 x2_6_15 x2_6_16 x2_6_17 x2_6_18 x2_6_19 x2_6_20 x2_6_21 x2_6_22 : Int) (gL2_6 : Nat) (x2_9 x2_10 : Int), body_Get.j2 k y2_1 x2_2 x2_3_0 x2_3_1 x2_3_2 x2_3_3 x2_3_4 x2_3_5 x2_3_6 x2_3_7 x2_3_8 x2_3_9 x2_3_10 x2_3_11 x2_3_12 x2_3_13 x2_3_14 x2_3_15 x2_3_16 x2_3_17 x2_3_18 x2_3_19 x2_3_20 x2_3_21 x2_3_22 x2_6_0 x2_6_1 x2_6_2 x2_6_3 x2_6_4 x2_6_5 x2_6_6 x2_6_7 x2_6_8 x2_6_9 x2_6_10 x2_6_11 x2_6_12 x2_6_13 x2_6_14 x2_6_15 x2_6_16 x2_6_17 x2_6_18 x2_6_19 x2_6_20 x2_6_21 x2_6_22 x2_9 x2_10 = some (r1, r2, r3, r4, r5, r6, r7, r8, r9, r10, r11, r12, r13, r14, r15, r16, r17, r18, r19, r20, r21, r22, r23, r24, r25) → St 151 [(1, .slice AL2_1 y2_1.length CL2_1), (2, .int .i64 x2_2), (3, .pointer (some ⟨gL2_3, 0, none⟩)), (6, .pointer (some ⟨gL2_6, 0, none⟩)), (9, .int .i64 x2_9), (10, .int .i64 x2_10)] aL2 → Below w.heap.size w wL2 → y2_1.length ≤ CL2_1 → Kd.C (Kd.int .u8) w AL2_1 y2_1.length y2_1 → w.heap.size ≤ gL2_3 → wL2.heap[gL2_3]? = some (.cells (body_Get.c1 x2_3_0 x2_3_1 x2_3_2 x2_3_3 x2_3_4 x2_3_5 x2_3_6 x2_3_7 x2_3_8 x2_3_9 x2_3_10 x2_3_11 x2_3_12 x2_3_13 x2_3_14 x2_3_15 x2_3_16 x2_3_17 x2_3_18 x2_3_19 x2_3_20 x2_3_21 x2_3_22) 29 (0, 0)) → w.heap.size ≤ gL2_6 → wL2.heap[gL2_6]? = some (.cells (body_Get.c1 x2_6_0 x2_6_1 x2_6_2 x2_6_3 x2_6_4 x2_6_5 x2_6_6 x2_6_7 x2_6_8 x2_6_9 x2_6_10 x2_6_11 x2_6_12 x2_6_13 x2_6_14 x2_6_15 x2_6_16 x2_6_17 x2_6_18 x2_6_19 x2_6_20 x2_6_21 x2_6_22) 29 (0, 0)) → gL2_6 ≠ gL2_3 → K21 aL2 wL2 := by
  intro aL2 wL2 y2_1 AL2_1 CL2_1 x2_2 x2_3_0 x2_3_1 x2_3_2 x2_3_3 x2_3_4 x2_3_5 x2_3_6 x2_3_7 x2_3_8 x2_3_9 x2_3_10 x2_3_11 x2_3_12 x2_3_13 x2_3_14 x2_3_15 x2_3_16 x2_3_17 x2_3_18 x2_3_19 x2_3_20 x2_3_21 x2_3_22 gL2_3 x2_6_0 x2_6_1 x2_6_2 x2_6_3 x2_6_4 x2_6_5 x2_6_6 x2_6_7 x2_6_8 x2_6_9 x2_6_10 x2_6_11 x2_6_12 x2_6_13 x2_6_14 x2_6_15 x2_6_16 x2_6_17 x2_6_18 x2_6_19 x2_6_20 x2_6_21 x2_6_22 gL2_6 x2_9 x2_10 H hS hBwL2_w hr2_1 hcL2_1 hgeLgL2_3 hbxLgL2_3 hgeLgL2_6 hbxLgL2_6 hneL2_6_3
  unfold body_Get.j2 at H
  (try dsimp only at H)
  obtain ⟨t2003, At2003, H⟩ := Option.bind_eq_some_iff.mp H
  obtain ⟨t2003_1, t2003_2⟩ := t2003
  (try dsimp only at H)
  by_cases c4 : t2003_2 = true
  rotate_left
  ·rw [if_neg c4] at H
   simp only [Option.some.injEq, Prod.mk.injEq] at H
   obtain ⟨rfl, rfl, rfl, rfl, rfl, rfl, rfl, rfl, rfl, rfl, rfl, rfl, rfl, rfl, rfl, rfl, rfl, rfl, rfl, rfl, rfl, rfl, rfl, rfl, rfl⟩ := H
   have hBwL2_wL2 := Below.refl wL2.heap.size wL2
   refine hK21 _ _ ?_
   (try clear hK21 K21)
   refine wp_seq_k (fun K2001 hK2001 => ?_)
   refine wp_seq_k (fun K2002 hK2002 => ?_)
   refine reg_seq_tail 7 (N := 151) (bs := [(1, .slice AL2_1 y2_1.length CL2_1), (2, .int .i64 x2_2), (3, .pointer (some ⟨gL2_3, 0, none⟩)), (6, .pointer (some ⟨gL2_6, 0, none⟩)), (9, .int .i64 x2_9), (10, .int .i64 x2_10)]) (I := fun x => Below w.heap.size w x ∧ Below wL2.heap.size wL2 x) (ps := [IsV (.slice AL2_1 y2_1.length CL2_1), VI x2_2, IsV (.tuple #[.int .i64 t2003_1, .bool t2003_2]), IsV (.tuple #[.int .i64 t2003_1, .bool t2003_2]), VI t2003_1, VB t2003_2, VP gL2_3 8]) (by kernel_rfl) ?_ ?_ rfl hS ⟨hBwL2_w, hBwL2_wL2⟩ ?_ ?_
   ·exact fun x y hI hb => ⟨below_step hI.1 hb, below_step hI.2 hb⟩
   ·exact .v (.v (.v (.v (.v (.v (.v (.nil)))))))
   ·refine .ms 0 rfl rfl rfl ?_
    refine .ms 1 rfl rfl rfl ?_
    refine .on rfl (fun a w hS hI hp => does_call (by kernel_rfl) (ar2 (hp.V 0 rfl rfl) (hp.V 1 rfl rfl)) ((stamp_Get.calls k _ _ y2_1 x2_2 t2003_1 t2003_2 _ (Kd.C_below hcL2_1 hI.1) hr2_1 At2003).mono fun _ _ h => ⟨_, h.1, h.2.below, rfl⟩)) ?_
    refine .mv 2 rfl rfl rfl rfl ?_
    iterate 2 refine .on rfl (fun a w hS hI hp => does_val (x_extract rfl (hp.V 3 rfl rfl) rfl) rfl) ?_
    refine .on rfl (fun a w hS hI hp => does_val (x_fieldE (b := 0) rfl (hS.get 2 rfl) Try.underlying29 rfl rfl (by kernel_rfl)) rfl) ?_
    exact .nil
   clear hS
   intro at2004 w2005 hS hI hp
   have hBw2005_w := hI.1
   have hBw2005_wL2 := hI.2
   have hv45 : sl _ 45 = .int .i64 t2003_1 := hp 4 (by decide)
   have hv46 : sl _ 46 = .bool t2003_2 := hp 5 (by decide)
   have hv47 : sl _ 47 = .pointer (some ⟨gL2_3, 8, none⟩) := hp 6 (by decide)
   have hBw2005_w2005 := Below.refl w2005.heap.size w2005
   have hS := hS.cons hv45
   have hS := hS.cons hv46
   have hS := hS.cons hv47
   clear hp hI hv45 hv46 hv47
   show wpList _ _ _ [_, _] _ _
   refine list_step rfl (does_store (g := gL2_3) (off := 8) (v := .int .i64 t2003_1) (new := (body_Get.c1 x2_3_0 x2_3_1 x2_3_2 x2_3_3 x2_3_4 x2_3_5 x2_3_6 x2_3_7 t2003_1 x2_3_9 x2_3_10 x2_3_11 x2_3_12 x2_3_13 x2_3_14 x2_3_15 x2_3_16 x2_3_17 x2_3_18 x2_3_19 x2_3_20 x2_3_21 x2_3_22)) rfl (hS.get 0 rfl) (hS.get 2 rfl) ((hBw2005_wL2.block gL2_3 (blk_lt hbxLgL2_3)).trans hbxLgL2_3) (by kernel_rfl) (by kernel_rfl) (by kernel_rfl) (by kernel_rfl)) ?_
   rintro vw2006 w2006 ⟨rfl, hbxw2006, hT⟩
   have hn2007 := hT.blk ((hBw2005_wL2.block gL2_6 (blk_lt hbxLgL2_6)).trans hbxLgL2_6) hneL2_6_3
   have hBw2006_w := hT.below hBw2005_w hgeLgL2_3 (hBw2005_w).size
   have hBw2006_w2006 := Below.refl w2006.heap.size w2006
   clear hT
   refine list_step rfl (R := fun v w' => Below _ _ w' ∧ (VB t2003_2) v w') (does_val (x_assign rfl (hS.get 1 rfl)) rfl) ?_
   rintro vw2008 w2008 ⟨hb, he⟩
   have hBw2008_w := below_step hBw2006_w hb
   have hBw2008_w2006 := below_step hBw2006_w2006 hb
   have hBw2008_w2008 := Below.refl w2008.heap.size w2008
   obtain rfl : vw2008 = .bool t2003_2 := he
   refine hS.next (v := .bool t2003_2) (d := 11) rfl (by decide) (by rfl) ?_
   clear hS
   intro at2009 hS
   refine wpList_nil ?_
   refine hK2002 _ _ ?_
   (try clear hK2002 K2002)
   refine wp_seq_k (fun K2010 hK2010 => ?_)
   refine reg_seq (N := 151) (bs := [(11, .bool t2003_2), (47, .pointer (some ⟨gL2_3, 8, none⟩)), (46, .bool t2003_2), (45, .int .i64 t2003_1), (1, .slice AL2_1 y2_1.length CL2_1), (2, .int .i64 x2_2), (3, .pointer (some ⟨gL2_3, 0, none⟩)), (6, .pointer (some ⟨gL2_6, 0, none⟩)), (9, .int .i64 x2_9), (10, .int .i64 x2_10)]) (I := fun x => Below w.heap.size w x ∧ Below w2006.heap.size w2006 x ∧ Below w2008.heap.size w2008 x) (ps := [VB t2003_2, VB (!t2003_2)]) (by kernel_rfl) ?_ ?_ rfl hS ⟨hBw2008_w, hBw2008_w2006, hBw2008_w2008⟩ ?_ ?_
   ·exact fun x y hI hb => ⟨below_step hI.1 hb, below_step hI.2.1 hb, below_step hI.2.2 hb⟩
   ·exact .v (.v (.nil))
   ·refine .ms 0 rfl rfl rfl ?_
    refine .on rfl (fun a w hS hI hp => does_val (x_not rfl (hp.V 0 rfl rfl)) rfl) ?_
    exact .nil
   clear hS
   intro at2011 w2012 hS hI hp
   have hBw2012_w := hI.1
   have hBw2012_w2006 := hI.2.1
   have hBw2012_w2008 := hI.2.2
   replace hS := ((((((hS.nil).cons (hS.get 9 rfl)).cons (hS.get 8 rfl)).cons (hS.get 7 rfl)).cons (hS.get 6 rfl)).cons (hS.get 5 rfl)).cons (hS.get 4 rfl)
   have hv49 : sl _ 49 = .bool (!t2003_2) := hp 1 (by decide)
   have hBw2012_w2012 := Below.refl w2012.heap.size w2012
   have hS := hS.cons hv49
   clear hp hI hv49
   refine hK2010 _ _ ?_
   (try clear hK2010 K2010)
   refine wp_cond_true ((hS.get 0 rfl).trans (bT (congrArg (!·) (Bool.eq_false_iff.2 c4)))) ?_
   refine wp_seq_k (fun K2013 hK2013 => ?_)
   refine reg_seq_tail 1 (N := 151) (bs := [(49, .bool (!t2003_2)), (1, .slice AL2_1 y2_1.length CL2_1), (2, .int .i64 x2_2), (3, .pointer (some ⟨gL2_3, 0, none⟩)), (6, .pointer (some ⟨gL2_6, 0, none⟩)), (9, .int .i64 x2_9), (10, .int .i64 x2_10)]) (I := fun x => Below w.heap.size w x ∧ Below w2006.heap.size w2006 x ∧ Below w2012.heap.size w2012 x) (ps := [IsV ((body_Get.v0 0 0 0 0 0 0 0 0 0 0 0 0 0 0 0 0 0 0 0 0 0 0 0))]) (by kernel_rfl) ?_ ?_ rfl hS ⟨hBw2012_w, hBw2012_w2006, hBw2012_w2012⟩ ?_ ?_
   ·exact fun x y hI hb => ⟨below_step hI.1 hb, below_step hI.2.1 hb, below_step hI.2.2 hb⟩
   ·exact .v (.nil)
   ·refine .on rfl (fun a w hS hI hp => does_val (x_build (vs := []) rfl (by rw [Array.toList_map]; exact (show [] = _ from rfl)) (by kernel_rfl)) rfl) ?_
    exact .nil
   clear hS
   intro at2014 w2015 hS hI hp
   have hBw2015_w := hI.1
   have hBw2015_w2006 := hI.2.1
   have hBw2015_w2012 := hI.2.2
   replace hS := (hS.nil).cons (hS.get 4 rfl)
   have hv50 : sl _ 50 = (body_Get.v0 0 0 0 0 0 0 0 0 0 0 0 0 0 0 0 0 0 0 0 0 0 0 0) := hp 0 (by decide)
   have hBw2015_w2015 := Below.refl w2015.heap.size w2015
   have hS := hS.cons hv50
   clear hp hI hv50
   show wpList _ _ _ [_, _, _] _ _
   refine list_step rfl (does_storeAll (g := gL2_6) (cs := (body_Get.c1 0 0 0 0 0 0 0 0 0 0 0 0 0 0 0 0 0 0 0 0 0 0 0)) rfl (hS.get 1 rfl) (hS.get 0 rfl) ((hBw2015_w2006.block gL2_6 (blk_lt hn2007)).trans hn2007) (by kernel_rfl) (by kernel_rfl) (by kernel_rfl)) ?_
   rintro vw2016 w2016 ⟨rfl, hbxw2016, hT⟩
   have hn2017 := hT.blk ((hBw2015_w2006.block gL2_3 (blk_lt hbxw2006)).trans hbxw2006) (Ne.symm hneL2_6_3)
   have hBw2016_w := hT.below hBw2015_w hgeLgL2_6 (hBw2015_w).size
   have hBw2016_w2016 := Below.refl w2016.heap.size w2016
   clear hT
   refine list_step rfl (R := fun v w' => Below _ _ w' ∧ (VI 0) v w') (does_val (x_assign rfl (rfl)) rfl) ?_
   rintro vw2018 w2018 ⟨hb, he⟩
   have hBw2018_w := below_step hBw2016_w hb
   have hBw2018_w2016 := below_step hBw2016_w2016 hb
   have hBw2018_w2018 := Below.refl w2018.heap.size w2018
   obtain rfl : vw2018 = .int .i64 0 := he
   refine hS.next (v := .int .i64 0) (d := 7) rfl (by decide) (by rfl) ?_
   clear hS
   intro at2019 hS
   refine list_step rfl (R := fun v w' => Below _ _ w' ∧ (VI 10) v w') (does_val (x_assign rfl (rfl)) rfl) ?_
   rintro vw2020 w2020 ⟨hb, he⟩
   have hBw2020_w := below_step hBw2018_w hb
   have hBw2020_w2016 := below_step hBw2018_w2016 hb
   have hBw2020_w2018 := below_step hBw2018_w2018 hb
   have hBw2020_w2020 := Below.refl w2020.heap.size w2020
   obtain rfl : vw2020 = .int .i64 10 := he
   refine hS.next (v := .int .i64 10) (d := 8) rfl (by decide) (by rfl) ?_
   clear hS
   intro at2021 hS
   refine wpList_nil ?_
   refine hK2013 _ _ ?_
   (try clear hK2013 K2013)
   refine wp_ret ?_
   (try simp only [Exit.then, Exit.inBlock, Exit.jump, Exit.noGoto])
   exact bodyPost_ret (v := .tuple #[(body_Get.v0 0 0 0 0 0 0 0 0 0 0 0 0 0 0 0 0 0 0 0 0 0 0 0), .int .i64 0, .int .i64 10]) (results_list (rs := [.cell 6 29, .tmp 7, .tmp 8]) rfl (by simp) (Vals.cell gL2_6 29 (body_Get.c1 0 0 0 0 0 0 0 0 0 0 0 0 0 0 0 0 0 0 0 0 0 0 0) (0, 0) _ (hS.get 3 rfl) ((hBw2020_w2016.block gL2_6 (blk_lt hbxw2016)).trans hbxw2016) Try.underlying29 rfl (by kernel_rfl) (Vals.at (hS.get 1 rfl) (Vals.at (hS.get 0 rfl) .nil)))) hS.nodef ⟨rfl, hBw2020_w⟩
  rw [if_pos c4] at H
  have hBwL2_wL2 := Below.refl wL2.heap.size wL2
  refine hK21 _ _ ?_
  (try clear hK21 K21)
  refine wp_seq_k (fun K2001 hK2001 => ?_)
  refine wp_seq_k (fun K2002 hK2002 => ?_)
  refine reg_seq_tail 7 (N := 151) (bs := [(1, .slice AL2_1 y2_1.length CL2_1), (2, .int .i64 x2_2), (3, .pointer (some ⟨gL2_3, 0, none⟩)), (6, .pointer (some ⟨gL2_6, 0, none⟩)), (9, .int .i64 x2_9), (10, .int .i64 x2_10)]) (I := fun x => Below w.heap.size w x ∧ Below wL2.heap.size wL2 x) (ps := [IsV (.slice AL2_1 y2_1.length CL2_1), VI x2_2, IsV (.tuple #[.int .i64 t2003_1, .bool t2003_2]), IsV (.tuple #[.int .i64 t2003_1, .bool t2003_2]), VI t2003_1, VB t2003_2, VP gL2_3 8]) (by kernel_rfl) ?_ ?_ rfl hS ⟨hBwL2_w, hBwL2_wL2⟩ ?_ ?_
  ·exact fun x y hI hb => ⟨below_step hI.1 hb, below_step hI.2 hb⟩
  ·exact .v (.v (.v (.v (.v (.v (.v (.nil)))))))
  ·refine .ms 0 rfl rfl rfl ?_
   refine .ms 1 rfl rfl rfl ?_
   refine .on rfl (fun a w hS hI hp => does_call (by kernel_rfl) (ar2 (hp.V 0 rfl rfl) (hp.V 1 rfl rfl)) ((stamp_Get.calls k _ _ y2_1 x2_2 t2003_1 t2003_2 _ (Kd.C_below hcL2_1 hI.1) hr2_1 At2003).mono fun _ _ h => ⟨_, h.1, h.2.below, rfl⟩)) ?_
   refine .mv 2 rfl rfl rfl rfl ?_
   iterate 2 refine .on rfl (fun a w hS hI hp => does_val (x_extract rfl (hp.V 3 rfl rfl) rfl) rfl) ?_
   refine .on rfl (fun a w hS hI hp => does_val (x_fieldE (b := 0) rfl (hS.get 2 rfl) Try.underlying29 rfl rfl (by kernel_rfl)) rfl) ?_
   exact .nil
  clear hS
  intro at2004 w2005 hS hI hp
  have hBw2005_w := hI.1
  have hBw2005_wL2 := hI.2
  have hv45 : sl _ 45 = .int .i64 t2003_1 := hp 4 (by decide)
  have hv46 : sl _ 46 = .bool t2003_2 := hp 5 (by decide)
  have hv47 : sl _ 47 = .pointer (some ⟨gL2_3, 8, none⟩) := hp 6 (by decide)
  have hBw2005_w2005 := Below.refl w2005.heap.size w2005
  have hS := hS.cons hv45
  have hS := hS.cons hv46
  have hS := hS.cons hv47
  clear hp hI hv45 hv46 hv47
  show wpList _ _ _ [_, _] _ _
  refine list_step rfl (does_store (g := gL2_3) (off := 8) (v := .int .i64 t2003_1) (new := (body_Get.c1 x2_3_0 x2_3_1 x2_3_2 x2_3_3 x2_3_4 x2_3_5 x2_3_6 x2_3_7 t2003_1 x2_3_9 x2_3_10 x2_3_11 x2_3_12 x2_3_13 x2_3_14 x2_3_15 x2_3_16 x2_3_17 x2_3_18 x2_3_19 x2_3_20 x2_3_21 x2_3_22)) rfl (hS.get 0 rfl) (hS.get 2 rfl) ((hBw2005_wL2.block gL2_3 (blk_lt hbxLgL2_3)).trans hbxLgL2_3) (by kernel_rfl) (by kernel_rfl) (by kernel_rfl) (by kernel_rfl)) ?_
  rintro vw2006 w2006 ⟨rfl, hbxw2006, hT⟩
  have hn2007 := hT.blk ((hBw2005_wL2.block gL2_6 (blk_lt hbxLgL2_6)).trans hbxLgL2_6) hneL2_6_3
  have hBw2006_w := hT.below hBw2005_w hgeLgL2_3 (hBw2005_w).size
  have hBw2006_w2006 := Below.refl w2006.heap.size w2006
  clear hT
  refine list_step rfl (R := fun v w' => Below _ _ w' ∧ (VB t2003_2) v w') (does_val (x_assign rfl (hS.get 1 rfl)) rfl) ?_
  rintro vw2008 w2008 ⟨hb, he⟩
  have hBw2008_w := below_step hBw2006_w hb
  have hBw2008_w2006 := below_step hBw2006_w2006 hb
  have hBw2008_w2008 := Below.refl w2008.heap.size w2008
  obtain rfl : vw2008 = .bool t2003_2 := he
  refine hS.next (v := .bool t2003_2) (d := 11) rfl (by decide) (by rfl) ?_
  clear hS
  intro at2009 hS
  refine wpList_nil ?_
  refine hK2002 _ _ ?_
  (try clear hK2002 K2002)
  refine wp_seq_k (fun K2010 hK2010 => ?_)
  refine reg_seq (N := 151) (bs := [(11, .bool t2003_2), (47, .pointer (some ⟨gL2_3, 8, none⟩)), (46, .bool t2003_2), (45, .int .i64 t2003_1), (1, .slice AL2_1 y2_1.length CL2_1), (2, .int .i64 x2_2), (3, .pointer (some ⟨gL2_3, 0, none⟩)), (6, .pointer (some ⟨gL2_6, 0, none⟩)), (9, .int .i64 x2_9), (10, .int .i64 x2_10)]) (I := fun x => Below w.heap.size w x ∧ Below w2006.heap.size w2006 x ∧ Below w2008.heap.size w2008 x) (ps := [VB t2003_2, VB (!t2003_2)]) (by kernel_rfl) ?_ ?_ rfl hS ⟨hBw2008_w, hBw2008_w2006, hBw2008_w2008⟩ ?_ ?_
  ·exact fun x y hI hb => ⟨below_step hI.1 hb, below_step hI.2.1 hb, below_step hI.2.2 hb⟩
  ·exact .v (.v (.nil))
  ·refine .ms 0 rfl rfl rfl ?_
   refine .on rfl (fun a w hS hI hp => does_val (x_not rfl (hp.V 0 rfl rfl)) rfl) ?_
   exact .nil
  clear hS
  intro at2011 w2012 hS hI hp
  have hBw2012_w := hI.1
  have hBw2012_w2006 := hI.2.1
  have hBw2012_w2008 := hI.2.2
  replace hS := ((((((hS.nil).cons (hS.get 9 rfl)).cons (hS.get 8 rfl)).cons (hS.get 7 rfl)).cons (hS.get 6 rfl)).cons (hS.get 5 rfl)).cons (hS.get 4 rfl)
  have hv49 : sl _ 49 = .bool (!t2003_2) := hp 1 (by decide)
  have hBw2012_w2012 := Below.refl w2012.heap.size w2012
  have hS := hS.cons hv49
  clear hp hI hv49
  refine hK2010 _ _ ?_
  (try clear hK2010 K2010)
  refine wp_cond_false ((hS.get 0 rfl).trans (bF (congrArg (!·) c4))) ?_
  refine wp_skip ?_
  refine hK2001 _ _ ?_
  (try clear hK2001 K2001)
  refine wp_seq_k (fun K2013 hK2013 => ?_)
  refine reg_seq_tail 2 (N := 151) (bs := [(49, .bool (!t2003_2)), (1, .slice AL2_1 y2_1.length CL2_1), (2, .int .i64 x2_2), (3, .pointer (some ⟨gL2_3, 0, none⟩)), (6, .pointer (some ⟨gL2_6, 0, none⟩)), (9, .int .i64 x2_9), (10, .int .i64 x2_10)]) (I := fun x => Below w.heap.size w x ∧ Below w2006.heap.size w2006 x ∧ Below w2012.heap.size w2012 x) (ps := [VI x2_2, VI (wrap64 (x2_2 + 10))]) (by kernel_rfl) ?_ ?_ rfl hS ⟨hBw2012_w, hBw2012_w2006, hBw2012_w2012⟩ ?_ ?_
  ·exact fun x y hI hb => ⟨below_step hI.1 hb, below_step hI.2.1 hb, below_step hI.2.2 hb⟩
  ·exact .v (.v (.nil))
  ·refine .ms 2 rfl rfl rfl ?_
   refine .on rfl (fun a w hS hI hp => does_val (x_bin rfl (hp.V 0 rfl rfl) (rfl) (b_add _ _ _ _ _)) rfl) ?_
   exact .nil
  clear hS
  intro at2014 w2015 hS hI hp
  have hBw2015_w := hI.1
  have hBw2015_w2006 := hI.2.1
  have hBw2015_w2012 := hI.2.2
  replace hS := ((((((hS.nil).cons (hS.get 6 rfl)).cons (hS.get 5 rfl)).cons (hS.get 4 rfl)).cons (hS.get 3 rfl)).cons (hS.get 2 rfl)).cons (hS.get 1 rfl)
  have hv52 : sl _ 52 = .int .i64 (wrap64 (x2_2 + 10)) := hp 1 (by decide)
  have hBw2015_w2015 := Below.refl w2015.heap.size w2015
  have hS := hS.cons hv52
  clear hp hI hv52
  show wpList _ _ _ [_] _ _
  refine list_step rfl (R := fun v w' => Below _ _ w' ∧ (VI (wrap64 (x2_2 + 10))) v w') (does_val (x_assign rfl (hS.get 0 rfl)) rfl) ?_
  rintro vw2016 w2016 ⟨hb, he⟩
  have hBw2016_w := below_step hBw2015_w hb
  have hBw2016_w2006 := below_step hBw2015_w2006 hb
  have hBw2016_w2015 := below_step hBw2015_w2015 hb
  have hBw2016_w2016 := Below.refl w2016.heap.size w2016
  obtain rfl : vw2016 = .int .i64 (wrap64 (x2_2 + 10)) := he
  replace hS := ((((((hS.nil).cons (hS.get 6 rfl)).cons (hS.get 5 rfl)).cons (hS.get 4 rfl)).cons (hS.get 3 rfl)).cons (hS.get 1 rfl)).cons (hS.get 0 rfl)
  refine hS.next (v := .int .i64 (wrap64 (x2_2 + 10))) (d := 2) rfl (by decide) (by rfl) ?_
  clear hS
  intro at2017 hS
  refine wpList_nil ?_
  refine hK2013 _ _ ?_
  (try clear hK2013 K2013)
  refine wp_seq_k (fun K2018 hK2018 => ?_)
  refine wp_label ?_
  refine hK2018 _ _ ?_
  (try clear hK2018 K2018)
  refine wp_seq_k (fun K2019 hK2019 => ?_)
  have J3 : ∀ (aL3 : Act) (wL3 : World) (y3_1 : List Int) (AL3_1 : Option Addr) (CL3_1 : Nat) (x3_2 x3_3_0 x3_3_1 x3_3_2 x3_3_3 x3_3_4 x3_3_5 x3_3_6 x3_3_7 x3_3_8 x3_3_9 x3_3_10 x3_3_11 x3_3_12 x3_3_13 x3_3_14 x3_3_15 x3_3_16 x3_3_17 x3_3_18 x3_3_19 x3_3_20 x3_3_21 x3_3_22 : Int) (gL3_3 : Nat) (x3_6_0 x3_6_1 x3_6_2 x3_6_3 x3_6_4 x3_6_5 x3_6_6 x3_6_7 x3_6_8 x3_6_9 x3_6_10 x3_6_11 x3_6_12 x3_6_13 x3_6_14 x3_6_15 x3_6_16 x3_6_17 x3_6_18 x3_6_19 x3_6_20 x3_6_21 x3_6_22 : Int) (gL3_6 : Nat) (x3_9 x3_10 : Int), body_Get.j3 k y3_1 x3_2 x3_3_0 x3_3_1 x3_3_2 x3_3_3 x3_3_4 x3_3_5 x3_3_6 x3_3_7 x3_3_8 x3_3_9 x3_3_10 x3_3_11 x3_3_12 x3_3_13 x3_3_14 x3_3_15 x3_3_16 x3_3_17 x3_3_18 x3_3_19 x3_3_20 x3_3_21 x3_3_22 x3_6_0 x3_6_1 x3_6_2 x3_6_3 x3_6_4 x3_6_5 x3_6_6 x3_6_7 x3_6_8 x3_6_9 x3_6_10 x3_6_11 x3_6_12 x3_6_13 x3_6_14 x3_6_15 x3_6_16 x3_6_17 x3_6_18 x3_6_19 x3_6_20 x3_6_21 x3_6_22 x3_9 x3_10 = some (r1, r2, r3, r4, r5, r6, r7, r8, r9, r10, r11, r12, r13, r14, r15, r16, r17, r18, r19, r20, r21, r22, r23, r24, r25) → St 151 [(1, .slice AL3_1 y3_1.length CL3_1), (2, .int .i64 x3_2), (3, .pointer (some ⟨gL3_3, 0, none⟩)), (6, .pointer (some ⟨gL3_6, 0, none⟩)), (9, .int .i64 x3_9), (10, .int .i64 x3_10)] aL3 → Below w.heap.size w wL3 → y3_1.length ≤ CL3_1 → Kd.C (Kd.int .u8) w AL3_1 y3_1.length y3_1 → w.heap.size ≤ gL3_3 → wL3.heap[gL3_3]? = some (.cells (body_Get.c1 x3_3_0 x3_3_1 x3_3_2 x3_3_3 x3_3_4 x3_3_5 x3_3_6 x3_3_7 x3_3_8 x3_3_9 x3_3_10 x3_3_11 x3_3_12 x3_3_13 x3_3_14 x3_3_15 x3_3_16 x3_3_17 x3_3_18 x3_3_19 x3_3_20 x3_3_21 x3_3_22) 29 (0, 0)) → w.heap.size ≤ gL3_6 → wL3.heap[gL3_6]? = some (.cells (body_Get.c1 x3_6_0 x3_6_1 x3_6_2 x3_6_3 x3_6_4 x3_6_5 x3_6_6 x3_6_7 x3_6_8 x3_6_9 x3_6_10 x3_6_11 x3_6_12 x3_6_13 x3_6_14 x3_6_15 x3_6_16 x3_6_17 x3_6_18 x3_6_19 x3_6_20 x3_6_21 x3_6_22) 29 (0, 0)) → gL3_6 ≠ gL3_3 → K2019 aL3 wL3 := by
   intro aL3 wL3 y3_1 AL3_1 CL3_1 x3_2 x3_3_0 x3_3_1 x3_3_2 x3_3_3 x3_3_4 x3_3_5 x3_3_6 x3_3_7 x3_3_8 x3_3_9 x3_3_10 x3_3_11 x3_3_12 x3_3_13 x3_3_14 x3_3_15 x3_3_16 x3_3_17 x3_3_18 x3_3_19 x3_3_20 x3_3_21 x3_3_22 gL3_3 x3_6_0 x3_6_1 x3_6_2 x3_6_3 x3_6_4 x3_6_5 x3_6_6 x3_6_7 x3_6_8 x3_6_9 x3_6_10 x3_6_11 x3_6_12 x3_6_13 x3_6_14 x3_6_15 x3_6_16 x3_6_17 x3_6_18 x3_6_19 x3_6_20 x3_6_21 x3_6_22 gL3_6 x3_9 x3_10 H hS hBwL3_w hr3_1 hcL3_1 hgeLgL3_3 hbxLgL3_3 hgeLgL3_6 hbxLgL3_6 hneL3_6_3
   unfold body_Get.j3 at H
   (try dsimp only at H)
   have hBwL3_wL3 := Below.refl wL3.heap.size wL3
   refine hK2019 _ _ ?_
   (try clear hK2019 K2019)
   refine wp_seq_k (fun K3001 hK3001 => ?_)
   have J4 : ∀ (aL4 : Act) (wL4 : World) (x4_3_0 x4_3_1 x4_3_2 x4_3_3 x4_3_4 x4_3_5 x4_3_6 x4_3_7 x4_3_8 x4_3_9 x4_3_10 x4_3_11 x4_3_12 x4_3_13 x4_3_14 x4_3_15 x4_3_16 x4_3_17 x4_3_18 x4_3_19 x4_3_20 x4_3_21 x4_3_22 : Int) (gL4_3 : Nat) (x4_6_0 x4_6_1 x4_6_2 x4_6_3 x4_6_4 x4_6_5 x4_6_6 x4_6_7 x4_6_8 x4_6_9 x4_6_10 x4_6_11 x4_6_12 x4_6_13 x4_6_14 x4_6_15 x4_6_16 x4_6_17 x4_6_18 x4_6_19 x4_6_20 x4_6_21 x4_6_22 : Int) (gL4_6 : Nat) (x4_9 x4_10 : Int), body_Get.j4 k x4_3_0 x4_3_1 x4_3_2 x4_3_3 x4_3_4 x4_3_5 x4_3_6 x4_3_7 x4_3_8 x4_3_9 x4_3_10 x4_3_11 x4_3_12 x4_3_13 x4_3_14 x4_3_15 x4_3_16 x4_3_17 x4_3_18 x4_3_19 x4_3_20 x4_3_21 x4_3_22 x4_6_0 x4_6_1 x4_6_2 x4_6_3 x4_6_4 x4_6_5 x4_6_6 x4_6_7 x4_6_8 x4_6_9 x4_6_10 x4_6_11 x4_6_12 x4_6_13 x4_6_14 x4_6_15 x4_6_16 x4_6_17 x4_6_18 x4_6_19 x4_6_20 x4_6_21 x4_6_22 x4_9 x4_10 = some (r1, r2, r3, r4, r5, r6, r7, r8, r9, r10, r11, r12, r13, r14, r15, r16, r17, r18, r19, r20, r21, r22, r23, r24, r25) → St 151 [(3, .pointer (some ⟨gL4_3, 0, none⟩)), (6, .pointer (some ⟨gL4_6, 0, none⟩)), (9, .int .i64 x4_9), (10, .int .i64 x4_10)] aL4 → Below w.heap.size w wL4 → w.heap.size ≤ gL4_3 → wL4.heap[gL4_3]? = some (.cells (body_Get.c1 x4_3_0 x4_3_1 x4_3_2 x4_3_3 x4_3_4 x4_3_5 x4_3_6 x4_3_7 x4_3_8 x4_3_9 x4_3_10 x4_3_11 x4_3_12 x4_3_13 x4_3_14 x4_3_15 x4_3_16 x4_3_17 x4_3_18 x4_3_19 x4_3_20 x4_3_21 x4_3_22) 29 (0, 0)) → w.heap.size ≤ gL4_6 → wL4.heap[gL4_6]? = some (.cells (body_Get.c1 x4_6_0 x4_6_1 x4_6_2 x4_6_3 x4_6_4 x4_6_5 x4_6_6 x4_6_7 x4_6_8 x4_6_9 x4_6_10 x4_6_11 x4_6_12 x4_6_13 x4_6_14 x4_6_15 x4_6_16 x4_6_17 x4_6_18 x4_6_19 x4_6_20 x4_6_21 x4_6_22) 29 (0, 0)) → gL4_6 ≠ gL4_3 → K3001 aL4 wL4 := by
    intro aL4 wL4 x4_3_0 x4_3_1 x4_3_2 x4_3_3 x4_3_4 x4_3_5 x4_3_6 x4_3_7 x4_3_8 x4_3_9 x4_3_10 x4_3_11 x4_3_12 x4_3_13 x4_3_14 x4_3_15 x4_3_16 x4_3_17 x4_3_18 x4_3_19 x4_3_20 x4_3_21 x4_3_22 gL4_3 x4_6_0 x4_6_1 x4_6_2 x4_6_3 x4_6_4 x4_6_5 x4_6_6 x4_6_7 x4_6_8 x4_6_9 x4_6_10 x4_6_11 x4_6_12 x4_6_13 x4_6_14 x4_6_15 x4_6_16 x4_6_17 x4_6_18 x4_6_19 x4_6_20 x4_6_21 x4_6_22 gL4_6 x4_9 x4_10 H hS hBwL4_w hgeLgL4_3 hbxLgL4_3 hgeLgL4_6 hbxLgL4_6 hneL4_6_3
    unfold body_Get.j4 at H
    (try dsimp only at H)
    simp only [Option.some.injEq, Prod.mk.injEq] at H
    obtain ⟨rfl, rfl, rfl, rfl, rfl, rfl, rfl, rfl, rfl, rfl, rfl, rfl, rfl, rfl, rfl, rfl, rfl, rfl, rfl, rfl, rfl, rfl, rfl, rfl, rfl⟩ := H
    have hBwL4_wL4 := Below.refl wL4.heap.size wL4
    refine hK3001 _ _ ?_
    (try clear hK3001 K3001)
    refine wp_seq_k (fun K4001 hK4001 => ?_)
    refine reg_seq_tail 4 (N := 151) (bs := [(3, .pointer (some ⟨gL4_3, 0, none⟩)), (6, .pointer (some ⟨gL4_6, 0, none⟩)), (9, .int .i64 x4_9), (10, .int .i64 x4_10)]) (I := fun x => Below w.heap.size w x ∧ Below wL4.heap.size wL4 x) (ps := [IsV ((body_Get.v0 x4_3_0 x4_3_1 x4_3_2 x4_3_3 x4_3_4 x4_3_5 x4_3_6 x4_3_7 x4_3_8 x4_3_9 x4_3_10 x4_3_11 x4_3_12 x4_3_13 x4_3_14 x4_3_15 x4_3_16 x4_3_17 x4_3_18 x4_3_19 x4_3_20 x4_3_21 x4_3_22)), VI x4_9, VI x4_10, VI (wrap64 (x4_9 + x4_10))]) (by kernel_rfl) ?_ ?_ rfl hS ⟨hBwL4_w, hBwL4_wL4⟩ ?_ ?_
    ·exact fun x y hI hb => ⟨below_step hI.1 hb, below_step hI.2 hb⟩
    ·exact .v (.v (.v (.v (.nil))))
    ·refine .on rfl (fun a w hS hI hp => does_loadrow rfl (hS.get 0 rfl) (((hI.2).block gL4_3 (blk_lt hbxLgL4_3)).trans hbxLgL4_3) Try.underlying29 rfl (by kernel_rfl) rfl) ?_
     refine .ms 2 rfl rfl rfl ?_
     refine .ms 3 rfl rfl rfl ?_
     refine .on rfl (fun a w hS hI hp => does_val (x_bin rfl (hp.V 1 rfl rfl) (hp.V 2 rfl rfl) (b_add _ _ _ _ _)) rfl) ?_
     exact .nil
    clear hS
    intro at4002 w4003 hS hI hp
    have hBw4003_w := hI.1
    have hBw4003_wL4 := hI.2
    replace hS := (hS.nil).cons (hS.get 1 rfl)
    have hv147 : sl _ 147 = (body_Get.v0 x4_3_0 x4_3_1 x4_3_2 x4_3_3 x4_3_4 x4_3_5 x4_3_6 x4_3_7 x4_3_8 x4_3_9 x4_3_10 x4_3_11 x4_3_12 x4_3_13 x4_3_14 x4_3_15 x4_3_16 x4_3_17 x4_3_18 x4_3_19 x4_3_20 x4_3_21 x4_3_22) := hp 0 (by decide)
    have hv150 : sl _ 150 = .int .i64 (wrap64 (x4_9 + x4_10)) := hp 3 (by decide)
    have hBw4003_w4003 := Below.refl w4003.heap.size w4003
    have hS := hS.cons hv147
    have hS := hS.cons hv150
    clear hp hI hv147 hv150
    show wpList _ _ _ [_, _, _] _ _
    refine list_step rfl (does_storeAll (g := gL4_6) (cs := (body_Get.c1 x4_3_0 x4_3_1 x4_3_2 x4_3_3 x4_3_4 x4_3_5 x4_3_6 x4_3_7 x4_3_8 x4_3_9 x4_3_10 x4_3_11 x4_3_12 x4_3_13 x4_3_14 x4_3_15 x4_3_16 x4_3_17 x4_3_18 x4_3_19 x4_3_20 x4_3_21 x4_3_22)) rfl (hS.get 2 rfl) (hS.get 1 rfl) ((hBw4003_wL4.block gL4_6 (blk_lt hbxLgL4_6)).trans hbxLgL4_6) (by kernel_rfl) (by kernel_rfl) (by kernel_rfl)) ?_
    rintro vw4004 w4004 ⟨rfl, hbxw4004, hT⟩
    have hn4005 := hT.blk ((hBw4003_wL4.block gL4_3 (blk_lt hbxLgL4_3)).trans hbxLgL4_3) (Ne.symm hneL4_6_3)
    have hBw4004_w := hT.below hBw4003_w hgeLgL4_6 (hBw4003_w).size
    have hBw4004_w4004 := Below.refl w4004.heap.size w4004
    clear hT
    refine list_step rfl (R := fun v w' => Below _ _ w' ∧ (VI (wrap64 (x4_9 + x4_10))) v w') (does_val (x_assign rfl (hS.get 0 rfl)) rfl) ?_
    rintro vw4006 w4006 ⟨hb, he⟩
    have hBw4006_w := below_step hBw4004_w hb
    have hBw4006_w4004 := below_step hBw4004_w4004 hb
    have hBw4006_w4006 := Below.refl w4006.heap.size w4006
    obtain rfl : vw4006 = .int .i64 (wrap64 (x4_9 + x4_10)) := he
    refine hS.next (v := .int .i64 (wrap64 (x4_9 + x4_10))) (d := 7) rfl (by decide) (by rfl) ?_
    clear hS
    intro at4007 hS
    refine list_step rfl (R := fun v w' => Below _ _ w' ∧ (VI 0) v w') (does_val (x_assign rfl (rfl)) rfl) ?_
    rintro vw4008 w4008 ⟨hb, he⟩
    have hBw4008_w := below_step hBw4006_w hb
    have hBw4008_w4004 := below_step hBw4006_w4004 hb
    have hBw4008_w4006 := below_step hBw4006_w4006 hb
    have hBw4008_w4008 := Below.refl w4008.heap.size w4008
    obtain rfl : vw4008 = .int .i64 0 := he
    refine hS.next (v := .int .i64 0) (d := 8) rfl (by decide) (by rfl) ?_
    clear hS
    intro at4009 hS
    refine wpList_nil ?_
    refine hK4001 _ _ ?_
    (try clear hK4001 K4001)
    refine wp_ret ?_
    (try simp only [Exit.then, Exit.inBlock, Exit.jump, Exit.noGoto])
    exact bodyPost_ret (v := .tuple #[(body_Get.v0 x4_3_0 x4_3_1 x4_3_2 x4_3_3 x4_3_4 x4_3_5 x4_3_6 x4_3_7 x4_3_8 x4_3_9 x4_3_10 x4_3_11 x4_3_12 x4_3_13 x4_3_14 x4_3_15 x4_3_16 x4_3_17 x4_3_18 x4_3_19 x4_3_20 x4_3_21 x4_3_22), .int .i64 (wrap64 (x4_9 + x4_10)), .int .i64 0]) (results_list (rs := [.cell 6 29, .tmp 7, .tmp 8]) rfl (by simp) (Vals.cell gL4_6 29 (body_Get.c1 x4_3_0 x4_3_1 x4_3_2 x4_3_3 x4_3_4 x4_3_5 x4_3_6 x4_3_7 x4_3_8 x4_3_9 x4_3_10 x4_3_11 x4_3_12 x4_3_13 x4_3_14 x4_3_15 x4_3_16 x4_3_17 x4_3_18 x4_3_19 x4_3_20 x4_3_21 x4_3_22) (0, 0) _ (hS.get 4 rfl) ((hBw4008_w4004.block gL4_6 (blk_lt hbxw4004)).trans hbxw4004) Try.underlying29 rfl (by kernel_rfl) (Vals.at (hS.get 1 rfl) (Vals.at (hS.get 0 rfl) .nil)))) hS.nodef ⟨rfl, hBw4008_w⟩
   by_cases c5 : x3_3_0 = 11
   rotate_left
   ·rw [if_neg c5] at H
    by_cases c6 : x3_3_0 = 13
    rotate_left
    ·rw [if_neg c6] at H
     refine wp_seq_k (fun K3002 hK3002 => ?_)
     refine reg_seq (N := 151) (bs := [(1, .slice AL3_1 y3_1.length CL3_1), (2, .int .i64 x3_2), (3, .pointer (some ⟨gL3_3, 0, none⟩)), (6, .pointer (some ⟨gL3_6, 0, none⟩)), (9, .int .i64 x3_9), (10, .int .i64 x3_10)]) (I := fun x => Below w.heap.size w x ∧ Below wL3.heap.size wL3 x) (ps := [VP gL3_3 0, VI x3_3_0]) (by kernel_rfl) ?_ ?_ rfl hS ⟨hBwL3_w, hBwL3_wL3⟩ ?_ ?_
     ·exact fun x y hI hb => ⟨below_step hI.1 hb, below_step hI.2 hb⟩
     ·exact .v (.v (.nil))
     ·refine .on rfl (fun a w hS hI hp => does_val (x_fieldE (b := 0) rfl (hS.get 2 rfl) Try.underlying29 rfl rfl (by kernel_rfl)) rfl) ?_
      refine .on rfl (fun a w hS hI hp => does_val (x_load1 (d := .int .i64) rfl (hp.V 0 rfl rfl) (by kernel_rfl) rfl ((blk_cell (((hI.2).block gL3_3 (blk_lt hbxLgL3_3)).trans hbxLgL3_3) 0).trans rfl)) rfl) ?_
      exact .nil
     clear hS
     intro at3003 w3004 hS hI hp
     have hBw3004_w := hI.1
     have hBw3004_wL3 := hI.2
     have hv66 : sl _ 66 = .int .i64 x3_3_0 := hp 1 (by decide)
     have hBw3004_w3004 := Below.refl w3004.heap.size w3004
     have hS := hS.cons hv66
     clear hp hI hv66
     refine hK3002 _ _ ?_
     (try clear hK3002 K3002)
     refine wp_block ?_
     refine wp_seq_k (fun K3005 hK3005 => ?_)
     refine reg_seq (N := 151) (bs := [(66, .int .i64 x3_3_0), (1, .slice AL3_1 y3_1.length CL3_1), (2, .int .i64 x3_2), (3, .pointer (some ⟨gL3_3, 0, none⟩)), (6, .pointer (some ⟨gL3_6, 0, none⟩)), (9, .int .i64 x3_9), (10, .int .i64 x3_10)]) (I := fun x => Below w.heap.size w x ∧ Below wL3.heap.size wL3 x ∧ Below w3004.heap.size w3004 x) (ps := [VB (decide (x3_3_0 = 11)), VB (decide (x3_3_0 = 11))]) (by kernel_rfl) ?_ ?_ rfl hS ⟨hBw3004_w, hBw3004_wL3, hBw3004_w3004⟩ ?_ ?_
     ·exact fun x y hI hb => ⟨below_step hI.1 hb, below_step hI.2.1 hb, below_step hI.2.2 hb⟩
     ·exact .v (.v (.nil))
     ·refine .on rfl (fun a w hS hI hp => does_val (x_bin rfl (hS.get 0 rfl) (rfl) (b_eql _ _ _ _ _ _)) rfl) ?_
      refine .asg 0 rfl rfl rfl rfl ?_
      exact .nil
     clear hS
     intro at3006 w3007 hS hI hp
     have hBw3007_w := hI.1
     have hBw3007_wL3 := hI.2.1
     have hBw3007_w3004 := hI.2.2
     have hv67 : sl _ 67 = .bool (decide (x3_3_0 = 11)) := hp 1 (by decide)
     have hBw3007_w3007 := Below.refl w3007.heap.size w3007
     have hS := hS.cons hv67
     clear hp hI hv67
     refine hK3005 _ _ ?_
     (try clear hK3005 K3005)
     refine wp_cond_false ((hS.get 0 rfl).trans (bF (decide_eq_false c5))) ?_
     refine wp_seq_k (fun K3008 hK3008 => ?_)
     refine reg_seq (N := 151) (bs := [(67, .bool (decide (x3_3_0 = 11))), (66, .int .i64 x3_3_0), (1, .slice AL3_1 y3_1.length CL3_1), (2, .int .i64 x3_2), (3, .pointer (some ⟨gL3_3, 0, none⟩)), (6, .pointer (some ⟨gL3_6, 0, none⟩)), (9, .int .i64 x3_9), (10, .int .i64 x3_10)]) (I := fun x => Below w.heap.size w x ∧ Below wL3.heap.size wL3 x ∧ Below w3007.heap.size w3007 x) (ps := [VB (decide (x3_3_0 = 13)), VB (decide (x3_3_0 = 13))]) (by kernel_rfl) ?_ ?_ rfl hS ⟨hBw3007_w, hBw3007_wL3, hBw3007_w3007⟩ ?_ ?_
     ·exact fun x y hI hb => ⟨below_step hI.1 hb, below_step hI.2.1 hb, below_step hI.2.2 hb⟩
     ·exact .v (.v (.nil))
     ·refine .on rfl (fun a w hS hI hp => does_val (x_bin rfl (hS.get 1 rfl) (rfl) (b_eql _ _ _ _ _ _)) rfl) ?_
      refine .asg 0 rfl rfl rfl rfl ?_
      exact .nil
     clear hS
     intro at3009 w3010 hS hI hp
     have hBw3010_w := hI.1
     have hBw3010_wL3 := hI.2.1
     have hBw3010_w3007 := hI.2.2
     replace hS := ((((((hS.nil).cons (hS.get 7 rfl)).cons (hS.get 6 rfl)).cons (hS.get 5 rfl)).cons (hS.get 4 rfl)).cons (hS.get 3 rfl)).cons (hS.get 2 rfl)
     have hv124 : sl _ 124 = .bool (decide (x3_3_0 = 13)) := hp 1 (by decide)
     have hBw3010_w3010 := Below.refl w3010.heap.size w3010
     have hS := hS.cons hv124
     clear hp hI hv124
     refine hK3008 _ _ ?_
     (try clear hK3008 K3008)
     refine wp_cond_false ((hS.get 0 rfl).trans (bF (decide_eq_false c6))) ?_
     refine wp_skip ?_
     replace hS := ((((hS.nil).cons (hS.get 6 rfl)).cons (hS.get 5 rfl)).cons (hS.get 4 rfl)).cons (hS.get 3 rfl)
     (try simp only [Exit.then, Exit.inBlock])
     exact J4 _ _ x3_3_0 x3_3_1 x3_3_2 x3_3_3 x3_3_4 x3_3_5 x3_3_6 x3_3_7 x3_3_8 x3_3_9 x3_3_10 x3_3_11 x3_3_12 x3_3_13 x3_3_14 x3_3_15 x3_3_16 x3_3_17 x3_3_18 x3_3_19 x3_3_20 x3_3_21 x3_3_22 gL3_3 x3_6_0 x3_6_1 x3_6_2 x3_6_3 x3_6_4 x3_6_5 x3_6_6 x3_6_7 x3_6_8 x3_6_9 x3_6_10 x3_6_11 x3_6_12 x3_6_13 x3_6_14 x3_6_15 x3_6_16 x3_6_17 x3_6_18 x3_6_19 x3_6_20 x3_6_21 x3_6_22 gL3_6 x3_9 x3_10 H hS hBw3010_w hgeLgL3_3 ((hBw3010_wL3.block gL3_3 (blk_lt hbxLgL3_3)).trans hbxLgL3_3) hgeLgL3_6 ((hBw3010_wL3.block gL3_6 (blk_lt hbxLgL3_6)).trans hbxLgL3_6) hneL3_6_3
    rw [if_pos c6] at H
    by_cases c7 : 0 ≤ x3_2
    rotate_left
    ·rw [if_neg c7] at H
     exact absurd H (by simp)
    rw [if_pos c7] at H
    by_cases c8 : x3_2 < (y3_1.length : Int)
    rotate_left
    ·rw [if_neg c8] at H
     exact absurd H (by simp)
    rw [if_pos c8] at H
    by_cases c9 : 0 ≤ (wrap64 (x3_2 + 1))
    rotate_left
    ·rw [if_neg c9] at H
     exact absurd H (by simp)
    rw [if_pos c9] at H
    by_cases c10 : (wrap64 (x3_2 + 1)) < (y3_1.length : Int)
    rotate_left
    ·rw [if_neg c10] at H
     exact absurd H (by simp)
    rw [if_pos c10] at H
    by_cases c11 : 0 ≤ (wrap64 (x3_2 + 2))
    rotate_left
    ·rw [if_neg c11] at H
     exact absurd H (by simp)
    rw [if_pos c11] at H
    by_cases c12 : (wrap64 (x3_2 + 2)) < (y3_1.length : Int)
    rotate_left
    ·rw [if_neg c12] at H
     exact absurd H (by simp)
    rw [if_pos c12] at H
    refine wp_seq_k (fun K3002 hK3002 => ?_)
    refine reg_seq (N := 151) (bs := [(1, .slice AL3_1 y3_1.length CL3_1), (2, .int .i64 x3_2), (3, .pointer (some ⟨gL3_3, 0, none⟩)), (6, .pointer (some ⟨gL3_6, 0, none⟩)), (9, .int .i64 x3_9), (10, .int .i64 x3_10)]) (I := fun x => Below w.heap.size w x ∧ Below wL3.heap.size wL3 x) (ps := [VP gL3_3 0, VI x3_3_0]) (by kernel_rfl) ?_ ?_ rfl hS ⟨hBwL3_w, hBwL3_wL3⟩ ?_ ?_
    ·exact fun x y hI hb => ⟨below_step hI.1 hb, below_step hI.2 hb⟩
    ·exact .v (.v (.nil))
    ·refine .on rfl (fun a w hS hI hp => does_val (x_fieldE (b := 0) rfl (hS.get 2 rfl) Try.underlying29 rfl rfl (by kernel_rfl)) rfl) ?_
     refine .on rfl (fun a w hS hI hp => does_val (x_load1 (d := .int .i64) rfl (hp.V 0 rfl rfl) (by kernel_rfl) rfl ((blk_cell (((hI.2).block gL3_3 (blk_lt hbxLgL3_3)).trans hbxLgL3_3) 0).trans rfl)) rfl) ?_
     exact .nil
    clear hS
    intro at3003 w3004 hS hI hp
    have hBw3004_w := hI.1
    have hBw3004_wL3 := hI.2
    have hv66 : sl _ 66 = .int .i64 x3_3_0 := hp 1 (by decide)
    have hBw3004_w3004 := Below.refl w3004.heap.size w3004
    have hS := hS.cons hv66
    clear hp hI hv66
    refine hK3002 _ _ ?_
    (try clear hK3002 K3002)
    refine wp_block ?_
    refine wp_seq_k (fun K3005 hK3005 => ?_)
    refine reg_seq (N := 151) (bs := [(66, .int .i64 x3_3_0), (1, .slice AL3_1 y3_1.length CL3_1), (2, .int .i64 x3_2), (3, .pointer (some ⟨gL3_3, 0, none⟩)), (6, .pointer (some ⟨gL3_6, 0, none⟩)), (9, .int .i64 x3_9), (10, .int .i64 x3_10)]) (I := fun x => Below w.heap.size w x ∧ Below wL3.heap.size wL3 x ∧ Below w3004.heap.size w3004 x) (ps := [VB (decide (x3_3_0 = 11)), VB (decide (x3_3_0 = 11))]) (by kernel_rfl) ?_ ?_ rfl hS ⟨hBw3004_w, hBw3004_wL3, hBw3004_w3004⟩ ?_ ?_
    ·exact fun x y hI hb => ⟨below_step hI.1 hb, below_step hI.2.1 hb, below_step hI.2.2 hb⟩
    ·exact .v (.v (.nil))
    ·refine .on rfl (fun a w hS hI hp => does_val (x_bin rfl (hS.get 0 rfl) (rfl) (b_eql _ _ _ _ _ _)) rfl) ?_
     refine .asg 0 rfl rfl rfl rfl ?_
     exact .nil
    clear hS
    intro at3006 w3007 hS hI hp
    have hBw3007_w := hI.1
    have hBw3007_wL3 := hI.2.1
    have hBw3007_w3004 := hI.2.2
    have hv67 : sl _ 67 = .bool (decide (x3_3_0 = 11)) := hp 1 (by decide)
    have hBw3007_w3007 := Below.refl w3007.heap.size w3007
    have hS := hS.cons hv67
    clear hp hI hv67
    refine hK3005 _ _ ?_
    (try clear hK3005 K3005)
    refine wp_cond_false ((hS.get 0 rfl).trans (bF (decide_eq_false c5))) ?_
    refine wp_seq_k (fun K3008 hK3008 => ?_)
    refine reg_seq (N := 151) (bs := [(67, .bool (decide (x3_3_0 = 11))), (66, .int .i64 x3_3_0), (1, .slice AL3_1 y3_1.length CL3_1), (2, .int .i64 x3_2), (3, .pointer (some ⟨gL3_3, 0, none⟩)), (6, .pointer (some ⟨gL3_6, 0, none⟩)), (9, .int .i64 x3_9), (10, .int .i64 x3_10)]) (I := fun x => Below w.heap.size w x ∧ Below wL3.heap.size wL3 x ∧ Below w3007.heap.size w3007 x) (ps := [VB (decide (x3_3_0 = 13)), VB (decide (x3_3_0 = 13))]) (by kernel_rfl) ?_ ?_ rfl hS ⟨hBw3007_w, hBw3007_wL3, hBw3007_w3007⟩ ?_ ?_
    ·exact fun x y hI hb => ⟨below_step hI.1 hb, below_step hI.2.1 hb, below_step hI.2.2 hb⟩
    ·exact .v (.v (.nil))
    ·refine .on rfl (fun a w hS hI hp => does_val (x_bin rfl (hS.get 1 rfl) (rfl) (b_eql _ _ _ _ _ _)) rfl) ?_
     refine .asg 0 rfl rfl rfl rfl ?_
     exact .nil
    clear hS
    intro at3009 w3010 hS hI hp
    have hBw3010_w := hI.1
    have hBw3010_wL3 := hI.2.1
    have hBw3010_w3007 := hI.2.2
    replace hS := ((((((hS.nil).cons (hS.get 7 rfl)).cons (hS.get 6 rfl)).cons (hS.get 5 rfl)).cons (hS.get 4 rfl)).cons (hS.get 3 rfl)).cons (hS.get 2 rfl)
    have hv124 : sl _ 124 = .bool (decide (x3_3_0 = 13)) := hp 1 (by decide)
    have hBw3010_w3010 := Below.refl w3010.heap.size w3010
    have hS := hS.cons hv124
    clear hp hI hv124
    refine hK3008 _ _ ?_
    (try clear hK3008 K3008)
    refine wp_cond_true ((hS.get 0 rfl).trans (bT (decide_eq_true c6))) ?_
    obtain ⟨ad3011, hAad3011⟩ := row_some (0 : Int) (Kd.C_below hcL3_1 hBw3010_w) c7 c8
    refine reg_float (N := 151) (bs := [(124, .bool (decide (x3_3_0 = 13))), (1, .slice AL3_1 y3_1.length CL3_1), (2, .int .i64 x3_2), (3, .pointer (some ⟨gL3_3, 0, none⟩)), (6, .pointer (some ⟨gL3_6, 0, none⟩)), (9, .int .i64 x3_9), (10, .int .i64 x3_10)]) (I := fun x => Below w.heap.size w x ∧ Below wL3.heap.size wL3 x ∧ Below w3010.heap.size w3010 x) (C := fun x => Kd.C (Kd.int .u8) x AL3_1 y3_1.length y3_1) [true, true, true, true, true, true, true, true, true, true, true, true, true, true, true, true, true, true, true, false, false, false, false, false] [.slice AL3_1 y3_1.length CL3_1, .int .i64 x3_2, .pointer (some (ad3011.add ((x3_2 : Int).toNat * 1))), .int .u8 (rd y3_1 x3_2), .int .i64 (wrap64 (rd y3_1 x3_2)), .slice AL3_1 y3_1.length CL3_1, .int .i64 x3_2, .int .i64 (wrap64 (x3_2 + 1)), .pointer (some (ad3011.add ((wrap64 (x3_2 + 1) : Int).toNat * 1))), .int .u8 (rd y3_1 (wrap64 (x3_2 + 1))), .int .i64 (wrap64 (rd y3_1 (wrap64 (x3_2 + 1)))), .slice AL3_1 y3_1.length CL3_1, .int .i64 x3_2, .int .i64 (wrap64 (x3_2 + 2)), .pointer (some (ad3011.add ((wrap64 (x3_2 + 2) : Int).toNat * 1))), .int .u8 (rd y3_1 (wrap64 (x3_2 + 2))), .int .u8 (Go.bits .and .u8 (rd y3_1 (wrap64 (x3_2 + 2))) 15), .int .i64 (wrap64 (Go.bits .and .u8 (rd y3_1 (wrap64 (x3_2 + 2))) 15)), .pointer (some ⟨gL3_3, 20, none⟩), undef, undef, undef, undef, undef] [0, 0, 3, 7, 15, 0, 0, 64, 224, 480, 992, 0, 0, 4096, 14336, 30720, 63488, 129024, 31, 262175, 788479, 1837055, 4194303, 8388607] (by kernel_rfl) (by kernel_rfl) rfl ?_ ?_ hS ⟨hBw3010_w, hBw3010_wL3, hBw3010_w3010⟩ ?_ ?_
    ·exact fun x y hI hb => ⟨below_step hI.1 hb, below_step hI.2.1 hb, below_step hI.2.2 hb⟩
    ·exact fun x hI => (Kd.C_below hcL3_1 hI.1)
    ·intro a hS hp
     refine .g (fun w hC => GRun.on rfl (x_move rfl (hS.get 1 rfl))) ?_
     refine .g (fun w hC => GRun.on rfl (x_move rfl (hS.get 2 rfl))) ?_
     refine .g (fun w hC => GRun.on rfl (x_index (sz := 1) (e := 5) rfl ((hp.get 0 rfl rfl rfl).trans (by rw [hAad3011])) ((hp.get 1 rfl rfl rfl)) (by kernel_rfl) (by kernel_rfl) c7 c8)) ?_
     refine .g (fun w hC => GRun.on rfl (x_load1 (d := .int .u8) rfl ((hp.get 2 rfl rfl rfl)) (by kernel_rfl) rfl (row_cell1 (flat_int .u8) (0 : Int) (hAad3011 ▸ hC) x3_2 c7 c8 _ rfl))) ?_
     refine .g (fun w hC => GRun.on rfl ((i64_w (rd y3_1 x3_2)) ▸ x_convI rfl (by kernel_rfl) (by kernel_rfl) ((hp.get 3 rfl rfl rfl)))) ?_
     refine .g (fun w hC => GRun.on rfl (x_move rfl (hS.get 1 rfl))) ?_
     refine .g (fun w hC => GRun.on rfl (x_move rfl (hS.get 2 rfl))) ?_
     refine .g (fun w hC => GRun.on rfl (x_bin rfl ((hp.get 6 rfl rfl rfl)) (rfl) (b_add _ _ _ _ _))) ?_
     refine .g (fun w hC => GRun.on rfl (x_index (sz := 1) (e := 5) rfl ((hp.get 5 rfl rfl rfl).trans (by rw [hAad3011])) ((hp.get 7 rfl rfl rfl)) (by kernel_rfl) (by kernel_rfl) c9 c10)) ?_
     refine .g (fun w hC => GRun.on rfl (x_load1 (d := .int .u8) rfl ((hp.get 8 rfl rfl rfl)) (by kernel_rfl) rfl (row_cell1 (flat_int .u8) (0 : Int) (hAad3011 ▸ hC) (wrap64 (x3_2 + 1)) c9 c10 _ rfl))) ?_
     refine .g (fun w hC => GRun.on rfl ((i64_w (rd y3_1 (wrap64 (x3_2 + 1)))) ▸ x_convI rfl (by kernel_rfl) (by kernel_rfl) ((hp.get 9 rfl rfl rfl)))) ?_
     refine .g (fun w hC => GRun.on rfl (x_move rfl (hS.get 1 rfl))) ?_
     refine .g (fun w hC => GRun.on rfl (x_move rfl (hS.get 2 rfl))) ?_
     refine .g (fun w hC => GRun.on rfl (x_bin rfl ((hp.get 12 rfl rfl rfl)) (rfl) (b_add _ _ _ _ _))) ?_
     refine .g (fun w hC => GRun.on rfl (x_index (sz := 1) (e := 5) rfl ((hp.get 11 rfl rfl rfl).trans (by rw [hAad3011])) ((hp.get 13 rfl rfl rfl)) (by kernel_rfl) (by kernel_rfl) c11 c12)) ?_
     refine .g (fun w hC => GRun.on rfl (x_load1 (d := .int .u8) rfl ((hp.get 14 rfl rfl rfl)) (by kernel_rfl) rfl (row_cell1 (flat_int .u8) (0 : Int) (hAad3011 ▸ hC) (wrap64 (x3_2 + 2)) c11 c12 _ rfl))) ?_
     refine .g (fun w hC => GRun.on rfl (x_bin rfl ((hp.get 15 rfl rfl rfl)) (rfl) (b_and _ _ _ _ _ _))) ?_
     refine .g (fun w hC => GRun.on rfl ((i64_w (Go.bits .and .u8 (rd y3_1 (wrap64 (x3_2 + 2))) 15)) ▸ x_convI rfl (by kernel_rfl) (by kernel_rfl) ((hp.get 16 rfl rfl rfl)))) ?_
     refine .g (fun w hC => GRun.on rfl (x_fieldE (b := 0) rfl (hS.get 3 rfl) Try.underlying29 rfl rfl (by kernel_rfl))) ?_
     iterate 5 refine .t ?_
     exact .nil
    clear hS
    intro at3012 w3013 hS hp hI
    have hBw3013_w := hI.1
    have hBw3013_wL3 := hI.2.1
    have hBw3013_w3010 := hI.2.2
    have hBw3013_w3013 := Below.refl w3013.heap.size w3013
    have hS := hS.cons (show sl _ 130 = .int .i64 (wrap64 (rd y3_1 x3_2)) from hp.get 4 rfl rfl rfl)
    have hS := hS.cons (show sl _ 136 = .int .i64 (wrap64 (rd y3_1 (wrap64 (x3_2 + 1)))) from hp.get 10 rfl rfl rfl)
    have hS := hS.cons (show sl _ 143 = .int .i64 (wrap64 (Go.bits .and .u8 (rd y3_1 (wrap64 (x3_2 + 2))) 15)) from hp.get 17 rfl rfl rfl)
    have hS := hS.cons (show sl _ 144 = .pointer (some ⟨gL3_3, 20, none⟩) from hp.get 18 rfl rfl rfl)
    clear hp hI
    show ListC _ _ _ _ [_, _, _, _, _] _ _
    refine lc_step rfl (does_store (g := gL3_3) (off := 20) (v := .int .i64 (wrap64 (rd y3_1 x3_2))) (new := (body_Get.c1 x3_3_0 x3_3_1 x3_3_2 x3_3_3 x3_3_4 x3_3_5 x3_3_6 x3_3_7 x3_3_8 x3_3_9 x3_3_10 x3_3_11 x3_3_12 x3_3_13 x3_3_14 x3_3_15 x3_3_16 x3_3_17 x3_3_18 x3_3_19 (wrap64 (rd y3_1 x3_2)) x3_3_21 x3_3_22)) rfl (hS.get 0 rfl) (hS.get 3 rfl) ((hBw3013_wL3.block gL3_3 (blk_lt hbxLgL3_3)).trans hbxLgL3_3) (by kernel_rfl) (by kernel_rfl) (by kernel_rfl) (by kernel_rfl)) ?_
    rintro vw3014 w3014 ⟨rfl, hbxw3014, hT⟩
    have hn3015 := hT.blk ((hBw3013_wL3.block gL3_6 (blk_lt hbxLgL3_6)).trans hbxLgL3_6) hneL3_6_3
    have hBw3014_w := hT.below hBw3013_w hgeLgL3_3 (hBw3013_w).size
    have hBw3014_w3014 := Below.refl w3014.heap.size w3014
    clear hT
    refine ⟨(Kd.C_below hcL3_1 hBw3014_w), ?_⟩
    refine lc_step rfl (R := fun v w' => Below _ _ w' ∧ (VP gL3_3 21) v w') (does_val (x_fieldE (b := 0) rfl (hS.get 7 rfl) Try.underlying29 rfl rfl (by kernel_rfl)) rfl) ?_
    rintro vw3016 w3016 ⟨hb, he⟩
    have hBw3016_w := below_step hBw3014_w hb
    have hBw3016_w3014 := below_step hBw3014_w3014 hb
    have hBw3016_w3016 := Below.refl w3016.heap.size w3016
    obtain rfl : vw3016 = .pointer (some ⟨gL3_3, 21, none⟩) := he
    refine ⟨(Kd.C_below hcL3_1 hBw3016_w), ?_⟩
    refine hS.nextC (v := .pointer (some ⟨gL3_3, 21, none⟩)) (d := 145) rfl (by decide) (by rfl) ?_
    clear hS
    intro at3017 hS
    refine lc_step rfl (does_store (g := gL3_3) (off := 21) (v := .int .i64 (wrap64 (rd y3_1 (wrap64 (x3_2 + 1))))) (new := (body_Get.c1 x3_3_0 x3_3_1 x3_3_2 x3_3_3 x3_3_4 x3_3_5 x3_3_6 x3_3_7 x3_3_8 x3_3_9 x3_3_10 x3_3_11 x3_3_12 x3_3_13 x3_3_14 x3_3_15 x3_3_16 x3_3_17 x3_3_18 x3_3_19 (wrap64 (rd y3_1 x3_2)) (wrap64 (rd y3_1 (wrap64 (x3_2 + 1)))) x3_3_22)) rfl (hS.get 0 rfl) (hS.get 3 rfl) ((hBw3016_w3014.block gL3_3 (blk_lt hbxw3014)).trans hbxw3014) (by kernel_rfl) (by kernel_rfl) (by kernel_rfl) (by kernel_rfl)) ?_
    rintro vw3018 w3018 ⟨rfl, hbxw3018, hT⟩
    have hn3019 := hT.blk ((hBw3016_w3014.block gL3_6 (blk_lt hn3015)).trans hn3015) hneL3_6_3
    have hBw3018_w := hT.below hBw3016_w hgeLgL3_3 (hBw3016_w).size
    have hBw3018_w3018 := Below.refl w3018.heap.size w3018
    clear hT
    refine ⟨(Kd.C_below hcL3_1 hBw3018_w), ?_⟩
    refine lc_step rfl (R := fun v w' => Below _ _ w' ∧ (VP gL3_3 22) v w') (does_val (x_fieldE (b := 0) rfl (hS.get 8 rfl) Try.underlying29 rfl rfl (by kernel_rfl)) rfl) ?_
    rintro vw3020 w3020 ⟨hb, he⟩
    have hBw3020_w := below_step hBw3018_w hb
    have hBw3020_w3018 := below_step hBw3018_w3018 hb
    have hBw3020_w3020 := Below.refl w3020.heap.size w3020
    obtain rfl : vw3020 = .pointer (some ⟨gL3_3, 22, none⟩) := he
    refine ⟨(Kd.C_below hcL3_1 hBw3020_w), ?_⟩
    refine hS.nextC (v := .pointer (some ⟨gL3_3, 22, none⟩)) (d := 146) rfl (by decide) (by rfl) ?_
    clear hS
    intro at3021 hS
    refine lc_step rfl (does_store (g := gL3_3) (off := 22) (v := .int .i64 (wrap64 (Go.bits .and .u8 (rd y3_1 (wrap64 (x3_2 + 2))) 15))) (new := (body_Get.c1 x3_3_0 x3_3_1 x3_3_2 x3_3_3 x3_3_4 x3_3_5 x3_3_6 x3_3_7 x3_3_8 x3_3_9 x3_3_10 x3_3_11 x3_3_12 x3_3_13 x3_3_14 x3_3_15 x3_3_16 x3_3_17 x3_3_18 x3_3_19 (wrap64 (rd y3_1 x3_2)) (wrap64 (rd y3_1 (wrap64 (x3_2 + 1)))) (wrap64 (Go.bits .and .u8 (rd y3_1 (wrap64 (x3_2 + 2))) 15)))) rfl (hS.get 0 rfl) (hS.get 3 rfl) ((hBw3020_w3018.block gL3_3 (blk_lt hbxw3018)).trans hbxw3018) (by kernel_rfl) (by kernel_rfl) (by kernel_rfl) (by kernel_rfl)) ?_
    rintro vw3022 w3022 ⟨rfl, hbxw3022, hT⟩
    have hn3023 := hT.blk ((hBw3020_w3018.block gL3_6 (blk_lt hn3019)).trans hn3019) hneL3_6_3
    have hBw3022_w := hT.below hBw3020_w hgeLgL3_3 (hBw3020_w).size
    have hBw3022_w3022 := Below.refl w3022.heap.size w3022
    clear hT
    refine ⟨(Kd.C_below hcL3_1 hBw3022_w), ?_⟩
    refine lc_nil ?_
    replace hS := ((((hS.nil).cons (hS.get 12 rfl)).cons (hS.get 11 rfl)).cons (hS.get 10 rfl)).cons (hS.get 9 rfl)
    (try simp only [Exit.then, Exit.inBlock])
    exact J4 _ _ x3_3_0 x3_3_1 x3_3_2 x3_3_3 x3_3_4 x3_3_5 x3_3_6 x3_3_7 x3_3_8 x3_3_9 x3_3_10 x3_3_11 x3_3_12 x3_3_13 x3_3_14 x3_3_15 x3_3_16 x3_3_17 x3_3_18 x3_3_19 (wrap64 (rd y3_1 x3_2)) (wrap64 (rd y3_1 (wrap64 (x3_2 + 1)))) (wrap64 (Go.bits .and .u8 (rd y3_1 (wrap64 (x3_2 + 2))) 15)) gL3_3 x3_6_0 x3_6_1 x3_6_2 x3_6_3 x3_6_4 x3_6_5 x3_6_6 x3_6_7 x3_6_8 x3_6_9 x3_6_10 x3_6_11 x3_6_12 x3_6_13 x3_6_14 x3_6_15 x3_6_16 x3_6_17 x3_6_18 x3_6_19 x3_6_20 x3_6_21 x3_6_22 gL3_6 x3_9 x3_10 H hS hBw3022_w hgeLgL3_3 ((hBw3022_w3022.block gL3_3 (blk_lt hbxw3022)).trans hbxw3022) hgeLgL3_6 ((hBw3022_w3022.block gL3_6 (blk_lt hn3023)).trans hn3023) hneL3_6_3
   rw [if_pos c5] at H
   obtain ⟨t3009, At3009, H⟩ := Option.bind_eq_some_iff.mp H
   obtain ⟨t3009_1, t3009_2⟩ := t3009
   (try dsimp only at H)
   obtain ⟨t3015, At3015, H⟩ := Option.bind_eq_some_iff.mp H
   obtain ⟨t3015_1, t3015_2⟩ := t3015
   (try dsimp only at H)
   obtain ⟨t3021, At3021, H⟩ := Option.bind_eq_some_iff.mp H
   obtain ⟨t3021_1, t3021_2, t3021_3, t3021_4⟩ := t3021
   (try dsimp only at H)
   obtain ⟨t3027, At3027, H⟩ := Option.bind_eq_some_iff.mp H
   obtain ⟨t3027_1, t3027_2⟩ := t3027
   (try dsimp only at H)
   obtain ⟨t3033, At3033, H⟩ := Option.bind_eq_some_iff.mp H
   obtain ⟨t3033_1, t3033_2⟩ := t3033
   (try dsimp only at H)
   obtain ⟨t3039, At3039, H⟩ := Option.bind_eq_some_iff.mp H
   obtain ⟨t3039_1, t3039_2⟩ := t3039
   (try dsimp only at H)
   obtain ⟨t3044, At3044, H⟩ := Option.bind_eq_some_iff.mp H
   obtain ⟨t3044_1, t3044_2⟩ := t3044
   (try dsimp only at H)
   refine wp_seq_k (fun K3002 hK3002 => ?_)
   refine reg_seq (N := 151) (bs := [(1, .slice AL3_1 y3_1.length CL3_1), (2, .int .i64 x3_2), (3, .pointer (some ⟨gL3_3, 0, none⟩)), (6, .pointer (some ⟨gL3_6, 0, none⟩)), (9, .int .i64 x3_9), (10, .int .i64 x3_10)]) (I := fun x => Below w.heap.size w x ∧ Below wL3.heap.size wL3 x) (ps := [VP gL3_3 0, VI x3_3_0]) (by kernel_rfl) ?_ ?_ rfl hS ⟨hBwL3_w, hBwL3_wL3⟩ ?_ ?_
   ·exact fun x y hI hb => ⟨below_step hI.1 hb, below_step hI.2 hb⟩
   ·exact .v (.v (.nil))
   ·refine .on rfl (fun a w hS hI hp => does_val (x_fieldE (b := 0) rfl (hS.get 2 rfl) Try.underlying29 rfl rfl (by kernel_rfl)) rfl) ?_
    refine .on rfl (fun a w hS hI hp => does_val (x_load1 (d := .int .i64) rfl (hp.V 0 rfl rfl) (by kernel_rfl) rfl ((blk_cell (((hI.2).block gL3_3 (blk_lt hbxLgL3_3)).trans hbxLgL3_3) 0).trans rfl)) rfl) ?_
    exact .nil
   clear hS
   intro at3003 w3004 hS hI hp
   have hBw3004_w := hI.1
   have hBw3004_wL3 := hI.2
   have hv66 : sl _ 66 = .int .i64 x3_3_0 := hp 1 (by decide)
   have hBw3004_w3004 := Below.refl w3004.heap.size w3004
   have hS := hS.cons hv66
   clear hp hI hv66
   refine hK3002 _ _ ?_
   (try clear hK3002 K3002)
   refine wp_block ?_
   refine wp_seq_k (fun K3005 hK3005 => ?_)
   refine reg_seq (N := 151) (bs := [(66, .int .i64 x3_3_0), (1, .slice AL3_1 y3_1.length CL3_1), (2, .int .i64 x3_2), (3, .pointer (some ⟨gL3_3, 0, none⟩)), (6, .pointer (some ⟨gL3_6, 0, none⟩)), (9, .int .i64 x3_9), (10, .int .i64 x3_10)]) (I := fun x => Below w.heap.size w x ∧ Below wL3.heap.size wL3 x ∧ Below w3004.heap.size w3004 x) (ps := [VB (decide (x3_3_0 = 11)), VB (decide (x3_3_0 = 11))]) (by kernel_rfl) ?_ ?_ rfl hS ⟨hBw3004_w, hBw3004_wL3, hBw3004_w3004⟩ ?_ ?_
   ·exact fun x y hI hb => ⟨below_step hI.1 hb, below_step hI.2.1 hb, below_step hI.2.2 hb⟩
   ·exact .v (.v (.nil))
   ·refine .on rfl (fun a w hS hI hp => does_val (x_bin rfl (hS.get 0 rfl) (rfl) (b_eql _ _ _ _ _ _)) rfl) ?_
    refine .asg 0 rfl rfl rfl rfl ?_
    exact .nil
   clear hS
   intro at3006 w3007 hS hI hp
   have hBw3007_w := hI.1
   have hBw3007_wL3 := hI.2.1
   have hBw3007_w3004 := hI.2.2
   have hv67 : sl _ 67 = .bool (decide (x3_3_0 = 11)) := hp 1 (by decide)
   have hBw3007_w3007 := Below.refl w3007.heap.size w3007
   have hS := hS.cons hv67
   clear hp hI hv67
   refine hK3005 _ _ ?_
   (try clear hK3005 K3005)
   refine wp_cond_true ((hS.get 0 rfl).trans (bT (decide_eq_true c5))) ?_
   refine wp_seq_k (fun K3008 hK3008 => ?_)
   refine reg_seq_tail 7 (N := 151) (bs := [(67, .bool (decide (x3_3_0 = 11))), (66, .int .i64 x3_3_0), (1, .slice AL3_1 y3_1.length CL3_1), (2, .int .i64 x3_2), (3, .pointer (some ⟨gL3_3, 0, none⟩)), (6, .pointer (some ⟨gL3_6, 0, none⟩)), (9, .int .i64 x3_9), (10, .int .i64 x3_10)]) (I := fun x => Below w.heap.size w x ∧ Below wL3.heap.size wL3 x ∧ Below w3007.heap.size w3007 x) (ps := [IsV (.slice AL3_1 y3_1.length CL3_1), VI x3_2, IsV (.tuple #[.int .i64 t3009_1, .bool t3009_2]), IsV (.tuple #[.int .i64 t3009_1, .bool t3009_2]), VI t3009_1, VB t3009_2, VP gL3_3 11]) (by kernel_rfl) ?_ ?_ rfl hS ⟨hBw3007_w, hBw3007_wL3, hBw3007_w3007⟩ ?_ ?_
   ·exact fun x y hI hb => ⟨below_step hI.1 hb, below_step hI.2.1 hb, below_step hI.2.2 hb⟩
   ·exact .v (.v (.v (.v (.v (.v (.v (.nil)))))))
   ·refine .ms 2 rfl rfl rfl ?_
    refine .ms 3 rfl rfl rfl ?_
    refine .on rfl (fun a w hS hI hp => does_call (by kernel_rfl) (ar3 (hp.V 0 rfl rfl) (hp.V 1 rfl rfl) (rfl)) ((octets_Signed.calls k _ _ y3_1 x3_2 2 t3009_1 t3009_2 _ (Kd.C_below hcL3_1 hI.1) hr3_1 At3009).mono fun _ _ h => ⟨_, h.1, h.2.below, rfl⟩)) ?_
    refine .mv 2 rfl rfl rfl rfl ?_
    iterate 2 refine .on rfl (fun a w hS hI hp => does_val (x_extract rfl (hp.V 3 rfl rfl) rfl) rfl) ?_
    refine .on rfl (fun a w hS hI hp => does_val (x_fieldE (b := 0) rfl (hS.get 4 rfl) Try.underlying29 rfl rfl (by kernel_rfl)) rfl) ?_
    exact .nil
   clear hS
   intro at3010 w3011 hS hI hp
   have hBw3011_w := hI.1
   have hBw3011_wL3 := hI.2.1
   have hBw3011_w3007 := hI.2.2
   replace hS := ((((((hS.nil).cons (hS.get 7 rfl)).cons (hS.get 6 rfl)).cons (hS.get 5 rfl)).cons (hS.get 4 rfl)).cons (hS.get 3 rfl)).cons (hS.get 2 rfl)
   have hv73 : sl _ 73 = .int .i64 t3009_1 := hp 4 (by decide)
   have hv75 : sl _ 75 = .pointer (some ⟨gL3_3, 11, none⟩) := hp 6 (by decide)
   have hBw3011_w3011 := Below.refl w3011.heap.size w3011
   have hS := hS.cons hv73
   have hS := hS.cons hv75
   clear hp hI hv73 hv75
   show wpList _ _ _ [_] _ _
   refine list_step rfl (does_store (g := gL3_3) (off := 11) (v := .int .i64 t3009_1) (new := (body_Get.c1 x3_3_0 x3_3_1 x3_3_2 x3_3_3 x3_3_4 x3_3_5 x3_3_6 x3_3_7 x3_3_8 x3_3_9 x3_3_10 t3009_1 x3_3_12 x3_3_13 x3_3_14 x3_3_15 x3_3_16 x3_3_17 x3_3_18 x3_3_19 x3_3_20 x3_3_21 x3_3_22)) rfl (hS.get 0 rfl) (hS.get 1 rfl) ((hBw3011_wL3.block gL3_3 (blk_lt hbxLgL3_3)).trans hbxLgL3_3) (by kernel_rfl) (by kernel_rfl) (by kernel_rfl) (by kernel_rfl)) ?_
   rintro vw3012 w3012 ⟨rfl, hbxw3012, hT⟩
   have hn3013 := hT.blk ((hBw3011_wL3.block gL3_6 (blk_lt hbxLgL3_6)).trans hbxLgL3_6) hneL3_6_3
   have hBw3012_w := hT.below hBw3011_w hgeLgL3_3 (hBw3011_w).size
   have hBw3012_w3012 := Below.refl w3012.heap.size w3012
   clear hT
   refine wpList_nil ?_
   refine hK3008 _ _ ?_
   (try clear hK3008 K3008)
   refine wp_seq_k (fun K3014 hK3014 => ?_)
   refine reg_seq_tail 8 (N := 151) (bs := [(75, .pointer (some ⟨gL3_3, 11, none⟩)), (73, .int .i64 t3009_1), (1, .slice AL3_1 y3_1.length CL3_1), (2, .int .i64 x3_2), (3, .pointer (some ⟨gL3_3, 0, none⟩)), (6, .pointer (some ⟨gL3_6, 0, none⟩)), (9, .int .i64 x3_9), (10, .int .i64 x3_10)]) (I := fun x => Below w.heap.size w x ∧ Below w3012.heap.size w3012 x) (ps := [IsV (.slice AL3_1 y3_1.length CL3_1), VI x3_2, VI (wrap64 (x3_2 + 3)), IsV (.tuple #[.int .i64 t3015_1, .bool t3015_2]), IsV (.tuple #[.int .i64 t3015_1, .bool t3015_2]), VI t3015_1, VB t3015_2, VP gL3_3 12]) (by kernel_rfl) ?_ ?_ rfl hS ⟨hBw3012_w, hBw3012_w3012⟩ ?_ ?_
   ·exact fun x y hI hb => ⟨below_step hI.1 hb, below_step hI.2 hb⟩
   ·exact .v (.v (.v (.v (.v (.v (.v (.v (.nil))))))))
   ·refine .ms 2 rfl rfl rfl ?_
    refine .ms 3 rfl rfl rfl ?_
    refine .on rfl (fun a w hS hI hp => does_val (x_bin rfl (hp.V 1 rfl rfl) (rfl) (b_add _ _ _ _ _)) rfl) ?_
    refine .on rfl (fun a w hS hI hp => does_call (by kernel_rfl) (ar3 (hp.V 0 rfl rfl) (hp.V 2 rfl rfl) (rfl)) ((octets_Get.calls k _ _ y3_1 (wrap64 (x3_2 + 3)) 1 t3015_1 t3015_2 _ (Kd.C_below hcL3_1 hI.1) hr3_1 At3015).mono fun _ _ h => ⟨_, h.1, h.2.below, rfl⟩)) ?_
    refine .mv 3 rfl rfl rfl rfl ?_
    iterate 2 refine .on rfl (fun a w hS hI hp => does_val (x_extract rfl (hp.V 4 rfl rfl) rfl) rfl) ?_
    refine .on rfl (fun a w hS hI hp => does_val (x_fieldE (b := 0) rfl (hS.get 4 rfl) Try.underlying29 rfl rfl (by kernel_rfl)) rfl) ?_
    exact .nil
   clear hS
   intro at3016 w3017 hS hI hp
   have hBw3017_w := hI.1
   have hBw3017_w3012 := hI.2
   replace hS := ((((((hS.nil).cons (hS.get 7 rfl)).cons (hS.get 6 rfl)).cons (hS.get 5 rfl)).cons (hS.get 4 rfl)).cons (hS.get 3 rfl)).cons (hS.get 2 rfl)
   have hv81 : sl _ 81 = .int .i64 t3015_1 := hp 5 (by decide)
   have hv83 : sl _ 83 = .pointer (some ⟨gL3_3, 12, none⟩) := hp 7 (by decide)
   have hBw3017_w3017 := Below.refl w3017.heap.size w3017
   have hS := hS.cons hv81
   have hS := hS.cons hv83
   clear hp hI hv81 hv83
   show wpList _ _ _ [_] _ _
   refine list_step rfl (does_store (g := gL3_3) (off := 12) (v := .int .i64 t3015_1) (new := (body_Get.c1 x3_3_0 x3_3_1 x3_3_2 x3_3_3 x3_3_4 x3_3_5 x3_3_6 x3_3_7 x3_3_8 x3_3_9 x3_3_10 t3009_1 t3015_1 x3_3_13 x3_3_14 x3_3_15 x3_3_16 x3_3_17 x3_3_18 x3_3_19 x3_3_20 x3_3_21 x3_3_22)) rfl (hS.get 0 rfl) (hS.get 1 rfl) ((hBw3017_w3012.block gL3_3 (blk_lt hbxw3012)).trans hbxw3012) (by kernel_rfl) (by kernel_rfl) (by kernel_rfl) (by kernel_rfl)) ?_
   rintro vw3018 w3018 ⟨rfl, hbxw3018, hT⟩
   have hn3019 := hT.blk ((hBw3017_w3012.block gL3_6 (blk_lt hn3013)).trans hn3013) hneL3_6_3
   have hBw3018_w := hT.below hBw3017_w hgeLgL3_3 (hBw3017_w).size
   have hBw3018_w3018 := Below.refl w3018.heap.size w3018
   clear hT
   refine wpList_nil ?_
   refine hK3014 _ _ ?_
   (try clear hK3014 K3014)
   refine wp_seq_k (fun K3020 hK3020 => ?_)
   refine reg_seq_tail 8 (N := 151) (bs := [(83, .pointer (some ⟨gL3_3, 12, none⟩)), (81, .int .i64 t3015_1), (1, .slice AL3_1 y3_1.length CL3_1), (2, .int .i64 x3_2), (3, .pointer (some ⟨gL3_3, 0, none⟩)), (6, .pointer (some ⟨gL3_6, 0, none⟩)), (9, .int .i64 x3_9), (10, .int .i64 x3_10)]) (I := fun x => Below w.heap.size w x ∧ Below w3018.heap.size w3018 x) (ps := [IsV (.slice AL3_1 y3_1.length CL3_1), VI x3_2, VI (wrap64 (x3_2 + 4)), IsV (.tuple #[.agg #[.int .i64 t3021_1, .int .i64 t3021_2, .int .i64 t3021_3], .bool t3021_4]), IsV (.tuple #[.agg #[.int .i64 t3021_1, .int .i64 t3021_2, .int .i64 t3021_3], .bool t3021_4]), IsV (.agg #[.int .i64 t3021_1, .int .i64 t3021_2, .int .i64 t3021_3]), VB t3021_4, VP gL3_3 13]) (by kernel_rfl) ?_ ?_ rfl hS ⟨hBw3018_w, hBw3018_w3018⟩ ?_ ?_
   ·exact fun x y hI hb => ⟨below_step hI.1 hb, below_step hI.2 hb⟩
   ·exact .v (.v (.v (.v (.v (.v (.v (.v (.nil))))))))
   ·refine .ms 2 rfl rfl rfl ?_
    refine .ms 3 rfl rfl rfl ?_
    refine .on rfl (fun a w hS hI hp => does_val (x_bin rfl (hp.V 1 rfl rfl) (rfl) (b_add _ _ _ _ _)) rfl) ?_
    refine .on rfl (fun a w hS hI hp => does_call (by kernel_rfl) (ar2 (hp.V 0 rfl rfl) (hp.V 2 rfl rfl)) ((quality_Get.calls k _ _ y3_1 (wrap64 (x3_2 + 4)) t3021_1 t3021_2 t3021_3 t3021_4 _ (Kd.C_below hcL3_1 hI.1) hr3_1 At3021).mono fun _ _ h => ⟨_, h.1, h.2, rfl⟩)) ?_
    refine .mv 3 rfl rfl rfl rfl ?_
    iterate 2 refine .on rfl (fun a w hS hI hp => does_val (x_extract rfl (hp.V 4 rfl rfl) rfl) rfl) ?_
    refine .on rfl (fun a w hS hI hp => does_val (x_fieldE (b := 0) rfl (hS.get 4 rfl) Try.underlying29 rfl rfl (by kernel_rfl)) rfl) ?_
    exact .nil
   clear hS
   intro at3022 w3023 hS hI hp
   have hBw3023_w := hI.1
   have hBw3023_w3018 := hI.2
   replace hS := ((((((hS.nil).cons (hS.get 7 rfl)).cons (hS.get 6 rfl)).cons (hS.get 5 rfl)).cons (hS.get 4 rfl)).cons (hS.get 3 rfl)).cons (hS.get 2 rfl)
   have hv89 : sl _ 89 = .agg #[.int .i64 t3021_1, .int .i64 t3021_2, .int .i64 t3021_3] := hp 5 (by decide)
   have hv91 : sl _ 91 = .pointer (some ⟨gL3_3, 13, none⟩) := hp 7 (by decide)
   have hBw3023_w3023 := Below.refl w3023.heap.size w3023
   have hS := hS.cons hv89
   have hS := hS.cons hv91
   clear hp hI hv89 hv91
   show wpList _ _ _ [_] _ _
   refine list_step rfl (does_store (g := gL3_3) (off := 13) (v := .agg #[.int .i64 t3021_1, .int .i64 t3021_2, .int .i64 t3021_3]) (new := (body_Get.c1 x3_3_0 x3_3_1 x3_3_2 x3_3_3 x3_3_4 x3_3_5 x3_3_6 x3_3_7 x3_3_8 x3_3_9 x3_3_10 t3009_1 t3015_1 t3021_1 t3021_2 t3021_3 x3_3_16 x3_3_17 x3_3_18 x3_3_19 x3_3_20 x3_3_21 x3_3_22)) rfl (hS.get 0 rfl) (hS.get 1 rfl) ((hBw3023_w3018.block gL3_3 (blk_lt hbxw3018)).trans hbxw3018) (by kernel_rfl) (by kernel_rfl) (by kernel_rfl) (by kernel_rfl)) ?_
   rintro vw3024 w3024 ⟨rfl, hbxw3024, hT⟩
   have hn3025 := hT.blk ((hBw3023_w3018.block gL3_6 (blk_lt hn3019)).trans hn3019) hneL3_6_3
   have hBw3024_w := hT.below hBw3023_w hgeLgL3_3 (hBw3023_w).size
   have hBw3024_w3024 := Below.refl w3024.heap.size w3024
   clear hT
   refine wpList_nil ?_
   refine hK3020 _ _ ?_
   (try clear hK3020 K3020)
   refine wp_seq_k (fun K3026 hK3026 => ?_)
   refine reg_seq_tail 8 (N := 151) (bs := [(91, .pointer (some ⟨gL3_3, 13, none⟩)), (89, .agg #[.int .i64 t3021_1, .int .i64 t3021_2, .int .i64 t3021_3]), (1, .slice AL3_1 y3_1.length CL3_1), (2, .int .i64 x3_2), (3, .pointer (some ⟨gL3_3, 0, none⟩)), (6, .pointer (some ⟨gL3_6, 0, none⟩)), (9, .int .i64 x3_9), (10, .int .i64 x3_10)]) (I := fun x => Below w.heap.size w x ∧ Below w3024.heap.size w3024 x) (ps := [IsV (.slice AL3_1 y3_1.length CL3_1), VI x3_2, VI (wrap64 (x3_2 + 8)), IsV (.tuple #[.int .i64 t3027_1, .bool t3027_2]), IsV (.tuple #[.int .i64 t3027_1, .bool t3027_2]), VI t3027_1, VB t3027_2, VP gL3_3 16]) (by kernel_rfl) ?_ ?_ rfl hS ⟨hBw3024_w, hBw3024_w3024⟩ ?_ ?_
   ·exact fun x y hI hb => ⟨below_step hI.1 hb, below_step hI.2 hb⟩
   ·exact .v (.v (.v (.v (.v (.v (.v (.v (.nil))))))))
   ·refine .ms 2 rfl rfl rfl ?_
    refine .ms 3 rfl rfl rfl ?_
    refine .on rfl (fun a w hS hI hp => does_val (x_bin rfl (hp.V 1 rfl rfl) (rfl) (b_add _ _ _ _ _)) rfl) ?_
    refine .on rfl (fun a w hS hI hp => does_call (by kernel_rfl) (ar3 (hp.V 0 rfl rfl) (hp.V 2 rfl rfl) (rfl)) ((octets_Get.calls k _ _ y3_1 (wrap64 (x3_2 + 8)) 1 t3027_1 t3027_2 _ (Kd.C_below hcL3_1 hI.1) hr3_1 At3027).mono fun _ _ h => ⟨_, h.1, h.2.below, rfl⟩)) ?_
    refine .mv 3 rfl rfl rfl rfl ?_
    iterate 2 refine .on rfl (fun a w hS hI hp => does_val (x_extract rfl (hp.V 4 rfl rfl) rfl) rfl) ?_
    refine .on rfl (fun a w hS hI hp => does_val (x_fieldE (b := 0) rfl (hS.get 4 rfl) Try.underlying29 rfl rfl (by kernel_rfl)) rfl) ?_
    exact .nil
   clear hS
   intro at3028 w3029 hS hI hp
   have hBw3029_w := hI.1
   have hBw3029_w3024 := hI.2
   replace hS := ((((((hS.nil).cons (hS.get 7 rfl)).cons (hS.get 6 rfl)).cons (hS.get 5 rfl)).cons (hS.get 4 rfl)).cons (hS.get 3 rfl)).cons (hS.get 2 rfl)
   have hv97 : sl _ 97 = .int .i64 t3027_1 := hp 5 (by decide)
   have hv99 : sl _ 99 = .pointer (some ⟨gL3_3, 16, none⟩) := hp 7 (by decide)
   have hBw3029_w3029 := Below.refl w3029.heap.size w3029
   have hS := hS.cons hv97
   have hS := hS.cons hv99
   clear hp hI hv97 hv99
   show wpList _ _ _ [_] _ _
   refine list_step rfl (does_store (g := gL3_3) (off := 16) (v := .int .i64 t3027_1) (new := (body_Get.c1 x3_3_0 x3_3_1 x3_3_2 x3_3_3 x3_3_4 x3_3_5 x3_3_6 x3_3_7 x3_3_8 x3_3_9 x3_3_10 t3009_1 t3015_1 t3021_1 t3021_2 t3021_3 t3027_1 x3_3_17 x3_3_18 x3_3_19 x3_3_20 x3_3_21 x3_3_22)) rfl (hS.get 0 rfl) (hS.get 1 rfl) ((hBw3029_w3024.block gL3_3 (blk_lt hbxw3024)).trans hbxw3024) (by kernel_rfl) (by kernel_rfl) (by kernel_rfl) (by kernel_rfl)) ?_
   rintro vw3030 w3030 ⟨rfl, hbxw3030, hT⟩
   have hn3031 := hT.blk ((hBw3029_w3024.block gL3_6 (blk_lt hn3025)).trans hn3025) hneL3_6_3
   have hBw3030_w := hT.below hBw3029_w hgeLgL3_3 (hBw3029_w).size
   have hBw3030_w3030 := Below.refl w3030.heap.size w3030
   clear hT
   refine wpList_nil ?_
   refine hK3026 _ _ ?_
   (try clear hK3026 K3026)
   refine wp_seq_k (fun K3032 hK3032 => ?_)
   refine reg_seq_tail 8 (N := 151) (bs := [(99, .pointer (some ⟨gL3_3, 16, none⟩)), (97, .int .i64 t3027_1), (1, .slice AL3_1 y3_1.length CL3_1), (2, .int .i64 x3_2), (3, .pointer (some ⟨gL3_3, 0, none⟩)), (6, .pointer (some ⟨gL3_6, 0, none⟩)), (9, .int .i64 x3_9), (10, .int .i64 x3_10)]) (I := fun x => Below w.heap.size w x ∧ Below w3030.heap.size w3030 x) (ps := [IsV (.slice AL3_1 y3_1.length CL3_1), VI x3_2, VI (wrap64 (x3_2 + 9)), IsV (.tuple #[.int .u64 t3033_1, .bool t3033_2]), IsV (.tuple #[.int .u64 t3033_1, .bool t3033_2]), IsV (.int .u64 t3033_1), VB t3033_2, VP gL3_3 17]) (by kernel_rfl) ?_ ?_ rfl hS ⟨hBw3030_w, hBw3030_w3030⟩ ?_ ?_
   ·exact fun x y hI hb => ⟨below_step hI.1 hb, below_step hI.2 hb⟩
   ·exact .v (.v (.v (.v (.v (.v (.v (.v (.nil))))))))
   ·refine .ms 2 rfl rfl rfl ?_
    refine .ms 3 rfl rfl rfl ?_
    refine .on rfl (fun a w hS hI hp => does_val (x_bin rfl (hp.V 1 rfl rfl) (rfl) (b_add _ _ _ _ _)) rfl) ?_
    refine .on rfl (fun a w hS hI hp => does_call (by kernel_rfl) (ar2 (hp.V 0 rfl rfl) (hp.V 2 rfl rfl)) ((octets_GetId.calls k _ _ y3_1 (wrap64 (x3_2 + 9)) t3033_1 t3033_2 _ (Kd.C_below hcL3_1 hI.1) hr3_1 At3033).mono fun _ _ h => ⟨_, h.1, h.2.below, rfl⟩)) ?_
    refine .mv 3 rfl rfl rfl rfl ?_
    iterate 2 refine .on rfl (fun a w hS hI hp => does_val (x_extract rfl (hp.V 4 rfl rfl) rfl) rfl) ?_
    refine .on rfl (fun a w hS hI hp => does_val (x_fieldE (b := 0) rfl (hS.get 4 rfl) Try.underlying29 rfl rfl (by kernel_rfl)) rfl) ?_
    exact .nil
   clear hS
   intro at3034 w3035 hS hI hp
   have hBw3035_w := hI.1
   have hBw3035_w3030 := hI.2
   replace hS := ((((((hS.nil).cons (hS.get 7 rfl)).cons (hS.get 6 rfl)).cons (hS.get 5 rfl)).cons (hS.get 4 rfl)).cons (hS.get 3 rfl)).cons (hS.get 2 rfl)
   have hv105 : sl _ 105 = .int .u64 t3033_1 := hp 5 (by decide)
   have hv107 : sl _ 107 = .pointer (some ⟨gL3_3, 17, none⟩) := hp 7 (by decide)
   have hBw3035_w3035 := Below.refl w3035.heap.size w3035
   have hS := hS.cons hv105
   have hS := hS.cons hv107
   clear hp hI hv105 hv107
   show wpList _ _ _ [_] _ _
   refine list_step rfl (does_store (g := gL3_3) (off := 17) (v := .int .u64 t3033_1) (new := (body_Get.c1 x3_3_0 x3_3_1 x3_3_2 x3_3_3 x3_3_4 x3_3_5 x3_3_6 x3_3_7 x3_3_8 x3_3_9 x3_3_10 t3009_1 t3015_1 t3021_1 t3021_2 t3021_3 t3027_1 t3033_1 x3_3_18 x3_3_19 x3_3_20 x3_3_21 x3_3_22)) rfl (hS.get 0 rfl) (hS.get 1 rfl) ((hBw3035_w3030.block gL3_3 (blk_lt hbxw3030)).trans hbxw3030) (by kernel_rfl) (by kernel_rfl) (by kernel_rfl) (by kernel_rfl)) ?_
   rintro vw3036 w3036 ⟨rfl, hbxw3036, hT⟩
   have hn3037 := hT.blk ((hBw3035_w3030.block gL3_6 (blk_lt hn3031)).trans hn3031) hneL3_6_3
   have hBw3036_w := hT.below hBw3035_w hgeLgL3_3 (hBw3035_w).size
   have hBw3036_w3036 := Below.refl w3036.heap.size w3036
   clear hT
   refine wpList_nil ?_
   refine hK3032 _ _ ?_
   (try clear hK3032 K3032)
   refine wp_seq_k (fun K3038 hK3038 => ?_)
   refine reg_seq_tail 8 (N := 151) (bs := [(107, .pointer (some ⟨gL3_3, 17, none⟩)), (105, .int .u64 t3033_1), (1, .slice AL3_1 y3_1.length CL3_1), (2, .int .i64 x3_2), (3, .pointer (some ⟨gL3_3, 0, none⟩)), (6, .pointer (some ⟨gL3_6, 0, none⟩)), (9, .int .i64 x3_9), (10, .int .i64 x3_10)]) (I := fun x => Below w.heap.size w x ∧ Below w3036.heap.size w3036 x) (ps := [IsV (.slice AL3_1 y3_1.length CL3_1), VI x3_2, VI (wrap64 (x3_2 + 17)), IsV (.tuple #[.int .i64 t3039_1, .bool t3039_2]), IsV (.tuple #[.int .i64 t3039_1, .bool t3039_2]), VI t3039_1, VB t3039_2, VP gL3_3 18]) (by kernel_rfl) ?_ ?_ rfl hS ⟨hBw3036_w, hBw3036_w3036⟩ ?_ ?_
   ·exact fun x y hI hb => ⟨below_step hI.1 hb, below_step hI.2 hb⟩
   ·exact .v (.v (.v (.v (.v (.v (.v (.v (.nil))))))))
   ·refine .ms 2 rfl rfl rfl ?_
    refine .ms 3 rfl rfl rfl ?_
    refine .on rfl (fun a w hS hI hp => does_val (x_bin rfl (hp.V 1 rfl rfl) (rfl) (b_add _ _ _ _ _)) rfl) ?_
    refine .on rfl (fun a w hS hI hp => does_call (by kernel_rfl) (ar3 (hp.V 0 rfl rfl) (hp.V 2 rfl rfl) (rfl)) ((octets_Get.calls k _ _ y3_1 (wrap64 (x3_2 + 17)) 2 t3039_1 t3039_2 _ (Kd.C_below hcL3_1 hI.1) hr3_1 At3039).mono fun _ _ h => ⟨_, h.1, h.2.below, rfl⟩)) ?_
    refine .mv 3 rfl rfl rfl rfl ?_
    iterate 2 refine .on rfl (fun a w hS hI hp => does_val (x_extract rfl (hp.V 4 rfl rfl) rfl) rfl) ?_
    refine .on rfl (fun a w hS hI hp => does_val (x_fieldE (b := 0) rfl (hS.get 4 rfl) Try.underlying29 rfl rfl (by kernel_rfl)) rfl) ?_
    exact .nil
   clear hS
   intro at3040 w3041 hS hI hp
   have hBw3041_w := hI.1
   have hBw3041_w3036 := hI.2
   replace hS := ((((((hS.nil).cons (hS.get 7 rfl)).cons (hS.get 6 rfl)).cons (hS.get 5 rfl)).cons (hS.get 4 rfl)).cons (hS.get 3 rfl)).cons (hS.get 2 rfl)
   have hv113 : sl _ 113 = .int .i64 t3039_1 := hp 5 (by decide)
   have hv115 : sl _ 115 = .pointer (some ⟨gL3_3, 18, none⟩) := hp 7 (by decide)
   have hBw3041_w3041 := Below.refl w3041.heap.size w3041
   have hS := hS.cons hv113
   have hS := hS.cons hv115
   clear hp hI hv113 hv115
   show wpList _ _ _ [_] _ _
   refine list_step rfl (does_store (g := gL3_3) (off := 18) (v := .int .i64 t3039_1) (new := (body_Get.c1 x3_3_0 x3_3_1 x3_3_2 x3_3_3 x3_3_4 x3_3_5 x3_3_6 x3_3_7 x3_3_8 x3_3_9 x3_3_10 t3009_1 t3015_1 t3021_1 t3021_2 t3021_3 t3027_1 t3033_1 t3039_1 x3_3_19 x3_3_20 x3_3_21 x3_3_22)) rfl (hS.get 0 rfl) (hS.get 1 rfl) ((hBw3041_w3036.block gL3_3 (blk_lt hbxw3036)).trans hbxw3036) (by kernel_rfl) (by kernel_rfl) (by kernel_rfl) (by kernel_rfl)) ?_
   rintro vw3042 w3042 ⟨rfl, hbxw3042, hT⟩
   have hn3043 := hT.blk ((hBw3041_w3036.block gL3_6 (blk_lt hn3037)).trans hn3037) hneL3_6_3
   have hBw3042_w := hT.below hBw3041_w hgeLgL3_3 (hBw3041_w).size
   have hBw3042_w3042 := Below.refl w3042.heap.size w3042
   clear hT
   refine wpList_nil ?_
   refine hK3038 _ _ ?_
   (try clear hK3038 K3038)
   refine reg_seq_tail 8 (N := 151) (bs := [(115, .pointer (some ⟨gL3_3, 18, none⟩)), (113, .int .i64 t3039_1), (1, .slice AL3_1 y3_1.length CL3_1), (2, .int .i64 x3_2), (3, .pointer (some ⟨gL3_3, 0, none⟩)), (6, .pointer (some ⟨gL3_6, 0, none⟩)), (9, .int .i64 x3_9), (10, .int .i64 x3_10)]) (I := fun x => Below w.heap.size w x ∧ Below w3042.heap.size w3042 x) (ps := [IsV (.slice AL3_1 y3_1.length CL3_1), VI x3_2, VI (wrap64 (x3_2 + 19)), IsV (.tuple #[.int .i64 t3044_1, .bool t3044_2]), IsV (.tuple #[.int .i64 t3044_1, .bool t3044_2]), VI t3044_1, VB t3044_2, VP gL3_3 19]) (by kernel_rfl) ?_ ?_ rfl hS ⟨hBw3042_w, hBw3042_w3042⟩ ?_ ?_
   ·exact fun x y hI hb => ⟨below_step hI.1 hb, below_step hI.2 hb⟩
   ·exact .v (.v (.v (.v (.v (.v (.v (.v (.nil))))))))
   ·refine .ms 2 rfl rfl rfl ?_
    refine .ms 3 rfl rfl rfl ?_
    refine .on rfl (fun a w hS hI hp => does_val (x_bin rfl (hp.V 1 rfl rfl) (rfl) (b_add _ _ _ _ _)) rfl) ?_
    refine .on rfl (fun a w hS hI hp => does_call (by kernel_rfl) (ar3 (hp.V 0 rfl rfl) (hp.V 2 rfl rfl) (rfl)) ((octets_Get.calls k _ _ y3_1 (wrap64 (x3_2 + 19)) 1 t3044_1 t3044_2 _ (Kd.C_below hcL3_1 hI.1) hr3_1 At3044).mono fun _ _ h => ⟨_, h.1, h.2.below, rfl⟩)) ?_
    refine .mv 3 rfl rfl rfl rfl ?_
    iterate 2 refine .on rfl (fun a w hS hI hp => does_val (x_extract rfl (hp.V 4 rfl rfl) rfl) rfl) ?_
    refine .on rfl (fun a w hS hI hp => does_val (x_fieldE (b := 0) rfl (hS.get 4 rfl) Try.underlying29 rfl rfl (by kernel_rfl)) rfl) ?_
    exact .nil
   clear hS
   intro at3045 w3046 hS hI hp
   have hBw3046_w := hI.1
   have hBw3046_w3042 := hI.2
   replace hS := ((((hS.nil).cons (hS.get 7 rfl)).cons (hS.get 6 rfl)).cons (hS.get 5 rfl)).cons (hS.get 4 rfl)
   have hv121 : sl _ 121 = .int .i64 t3044_1 := hp 5 (by decide)
   have hv123 : sl _ 123 = .pointer (some ⟨gL3_3, 19, none⟩) := hp 7 (by decide)
   have hBw3046_w3046 := Below.refl w3046.heap.size w3046
   have hS := hS.cons hv121
   have hS := hS.cons hv123
   clear hp hI hv121 hv123
   show wpList _ _ _ [_] _ _
   refine list_step rfl (does_store (g := gL3_3) (off := 19) (v := .int .i64 t3044_1) (new := (body_Get.c1 x3_3_0 x3_3_1 x3_3_2 x3_3_3 x3_3_4 x3_3_5 x3_3_6 x3_3_7 x3_3_8 x3_3_9 x3_3_10 t3009_1 t3015_1 t3021_1 t3021_2 t3021_3 t3027_1 t3033_1 t3039_1 t3044_1 x3_3_20 x3_3_21 x3_3_22)) rfl (hS.get 0 rfl) (hS.get 1 rfl) ((hBw3046_w3042.block gL3_3 (blk_lt hbxw3042)).trans hbxw3042) (by kernel_rfl) (by kernel_rfl) (by kernel_rfl) (by kernel_rfl)) ?_
   rintro vw3047 w3047 ⟨rfl, hbxw3047, hT⟩
   have hn3048 := hT.blk ((hBw3046_w3042.block gL3_6 (blk_lt hn3043)).trans hn3043) hneL3_6_3
   have hBw3047_w := hT.below hBw3046_w hgeLgL3_3 (hBw3046_w).size
   have hBw3047_w3047 := Below.refl w3047.heap.size w3047
   clear hT
   refine wpList_nil ?_
   replace hS := ((((hS.nil).cons (hS.get 5 rfl)).cons (hS.get 4 rfl)).cons (hS.get 3 rfl)).cons (hS.get 2 rfl)
   (try simp only [Exit.then, Exit.inBlock])
   exact J4 _ _ x3_3_0 x3_3_1 x3_3_2 x3_3_3 x3_3_4 x3_3_5 x3_3_6 x3_3_7 x3_3_8 x3_3_9 x3_3_10 t3009_1 t3015_1 t3021_1 t3021_2 t3021_3 t3027_1 t3033_1 t3039_1 t3044_1 x3_3_20 x3_3_21 x3_3_22 gL3_3 x3_6_0 x3_6_1 x3_6_2 x3_6_3 x3_6_4 x3_6_5 x3_6_6 x3_6_7 x3_6_8 x3_6_9 x3_6_10 x3_6_11 x3_6_12 x3_6_13 x3_6_14 x3_6_15 x3_6_16 x3_6_17 x3_6_18 x3_6_19 x3_6_20 x3_6_21 x3_6_22 gL3_6 x3_9 x3_10 H hS hBw3047_w hgeLgL3_3 ((hBw3047_w3047.block gL3_3 (blk_lt hbxw3047)).trans hbxw3047) hgeLgL3_6 ((hBw3047_w3047.block gL3_6 (blk_lt hn3048)).trans hn3048) hneL3_6_3
  obtain ⟨t2021, At2021, H⟩ := Option.bind_eq_some_iff.mp H
  by_cases c5 : t2021 = true
  rotate_left
  ·rw [if_neg c5] at H
   refine wp_seq_k (fun K2020 hK2020 => ?_)
   refine reg_seq (N := 151) (bs := [(2, .int .i64 (wrap64 (x2_2 + 10))), (52, .int .i64 (wrap64 (x2_2 + 10))), (1, .slice AL2_1 y2_1.length CL2_1), (3, .pointer (some ⟨gL2_3, 0, none⟩)), (6, .pointer (some ⟨gL2_6, 0, none⟩)), (9, .int .i64 x2_9), (10, .int .i64 x2_10)]) (I := fun x => Below w.heap.size w x ∧ Below w2006.heap.size w2006 x ∧ Below w2016.heap.size w2016 x) (ps := [VP gL2_3 0, VI x2_3_0, VB t2021]) (by kernel_rfl) ?_ ?_ rfl hS ⟨hBw2016_w, hBw2016_w2006, hBw2016_w2016⟩ ?_ ?_
   ·exact fun x y hI hb => ⟨below_step hI.1 hb, below_step hI.2.1 hb, below_step hI.2.2 hb⟩
   ·exact .v (.v (.v (.nil)))
   ·refine .on rfl (fun a w hS hI hp => does_val (x_fieldE (b := 0) rfl (hS.get 3 rfl) Try.underlying29 rfl rfl (by kernel_rfl)) rfl) ?_
    refine .on rfl (fun a w hS hI hp => does_val (x_load1 (d := .int .i64) rfl (hp.V 0 rfl rfl) (by kernel_rfl) rfl ((blk_cell (((hI.2.1).block gL2_3 (blk_lt hbxw2006)).trans hbxw2006) 0).trans rfl)) rfl) ?_
    refine .on rfl (fun a w hS hI hp => does_call (by kernel_rfl) (ar1 (hp.V 1 rfl rfl)) ((body_targeted.calls x2_3_0 t2021 _  At2021).mono fun _ _ h => ⟨_, h.1, h.2.below, rfl⟩)) ?_
    exact .nil
   clear hS
   intro at2022 w2023 hS hI hp
   have hBw2023_w := hI.1
   have hBw2023_w2006 := hI.2.1
   have hBw2023_w2016 := hI.2.2
   replace hS := ((((((hS.nil).cons (hS.get 6 rfl)).cons (hS.get 5 rfl)).cons (hS.get 4 rfl)).cons (hS.get 3 rfl)).cons (hS.get 2 rfl)).cons (hS.get 0 rfl)
   have hv55 : sl _ 55 = .bool t2021 := hp 2 (by decide)
   have hBw2023_w2023 := Below.refl w2023.heap.size w2023
   have hS := hS.cons hv55
   clear hp hI hv55
   refine hK2020 _ _ ?_
   (try clear hK2020 K2020)
   refine wp_cond_false ((hS.get 0 rfl).trans (bF (Bool.eq_false_iff.2 c5))) ?_
   refine wp_skip ?_
   replace hS := ((((((hS.nil).cons (hS.get 6 rfl)).cons (hS.get 5 rfl)).cons (hS.get 4 rfl)).cons (hS.get 3 rfl)).cons (hS.get 1 rfl)).cons (hS.get 2 rfl)
   (try simp only [Exit.then, Exit.inBlock])
   exact J3 _ _ y2_1 AL2_1 CL2_1 (wrap64 (x2_2 + 10)) x2_3_0 x2_3_1 x2_3_2 x2_3_3 x2_3_4 x2_3_5 x2_3_6 x2_3_7 t2003_1 x2_3_9 x2_3_10 x2_3_11 x2_3_12 x2_3_13 x2_3_14 x2_3_15 x2_3_16 x2_3_17 x2_3_18 x2_3_19 x2_3_20 x2_3_21 x2_3_22 gL2_3 x2_6_0 x2_6_1 x2_6_2 x2_6_3 x2_6_4 x2_6_5 x2_6_6 x2_6_7 x2_6_8 x2_6_9 x2_6_10 x2_6_11 x2_6_12 x2_6_13 x2_6_14 x2_6_15 x2_6_16 x2_6_17 x2_6_18 x2_6_19 x2_6_20 x2_6_21 x2_6_22 gL2_6 x2_9 x2_10 H hS hBw2023_w hr2_1 (hcL2_1) hgeLgL2_3 ((hBw2023_w2006.block gL2_3 (blk_lt hbxw2006)).trans hbxw2006) hgeLgL2_6 ((hBw2023_w2006.block gL2_6 (blk_lt hn2007)).trans hn2007) hneL2_6_3
  rw [if_pos c5] at H
  obtain ⟨t2025, At2025, H⟩ := Option.bind_eq_some_iff.mp H
  obtain ⟨t2025_1, t2025_2, t2025_3⟩ := t2025
  (try dsimp only at H)
  refine wp_seq_k (fun K2020 hK2020 => ?_)
  refine reg_seq (N := 151) (bs := [(2, .int .i64 (wrap64 (x2_2 + 10))), (52, .int .i64 (wrap64 (x2_2 + 10))), (1, .slice AL2_1 y2_1.length CL2_1), (3, .pointer (some ⟨gL2_3, 0, none⟩)), (6, .pointer (some ⟨gL2_6, 0, none⟩)), (9, .int .i64 x2_9), (10, .int .i64 x2_10)]) (I := fun x => Below w.heap.size w x ∧ Below w2006.heap.size w2006 x ∧ Below w2016.heap.size w2016 x) (ps := [VP gL2_3 0, VI x2_3_0, VB t2021]) (by kernel_rfl) ?_ ?_ rfl hS ⟨hBw2016_w, hBw2016_w2006, hBw2016_w2016⟩ ?_ ?_
  ·exact fun x y hI hb => ⟨below_step hI.1 hb, below_step hI.2.1 hb, below_step hI.2.2 hb⟩
  ·exact .v (.v (.v (.nil)))
  ·refine .on rfl (fun a w hS hI hp => does_val (x_fieldE (b := 0) rfl (hS.get 3 rfl) Try.underlying29 rfl rfl (by kernel_rfl)) rfl) ?_
   refine .on rfl (fun a w hS hI hp => does_val (x_load1 (d := .int .i64) rfl (hp.V 0 rfl rfl) (by kernel_rfl) rfl ((blk_cell (((hI.2.1).block gL2_3 (blk_lt hbxw2006)).trans hbxw2006) 0).trans rfl)) rfl) ?_
   refine .on rfl (fun a w hS hI hp => does_call (by kernel_rfl) (ar1 (hp.V 1 rfl rfl)) ((body_targeted.calls x2_3_0 t2021 _  At2021).mono fun _ _ h => ⟨_, h.1, h.2.below, rfl⟩)) ?_
   exact .nil
  clear hS
  intro at2022 w2023 hS hI hp
  have hBw2023_w := hI.1
  have hBw2023_w2006 := hI.2.1
  have hBw2023_w2016 := hI.2.2
  replace hS := ((((((hS.nil).cons (hS.get 6 rfl)).cons (hS.get 5 rfl)).cons (hS.get 4 rfl)).cons (hS.get 3 rfl)).cons (hS.get 2 rfl)).cons (hS.get 0 rfl)
  have hv55 : sl _ 55 = .bool t2021 := hp 2 (by decide)
  have hBw2023_w2023 := Below.refl w2023.heap.size w2023
  have hS := hS.cons hv55
  clear hp hI hv55
  refine hK2020 _ _ ?_
  (try clear hK2020 K2020)
  refine wp_cond_true ((hS.get 0 rfl).trans (bT c5)) ?_
  refine wp_seq_k (fun K2024 hK2024 => ?_)
  refine reg_seq_tail 7 (N := 151) (bs := [(55, .bool t2021), (2, .int .i64 (wrap64 (x2_2 + 10))), (1, .slice AL2_1 y2_1.length CL2_1), (3, .pointer (some ⟨gL2_3, 0, none⟩)), (6, .pointer (some ⟨gL2_6, 0, none⟩)), (9, .int .i64 x2_9), (10, .int .i64 x2_10)]) (I := fun x => Below w.heap.size w x ∧ Below w2006.heap.size w2006 x ∧ Below w2023.heap.size w2023 x) (ps := [IsV (.slice AL2_1 y2_1.length CL2_1), VI (wrap64 (x2_2 + 10)), IsV (.tuple #[.agg #[.int .u64 t2025_1, .int .i64 t2025_2], .bool t2025_3]), IsV (.tuple #[.agg #[.int .u64 t2025_1, .int .i64 t2025_2], .bool t2025_3]), IsV (.agg #[.int .u64 t2025_1, .int .i64 t2025_2]), VB t2025_3, VP gL2_3 9]) (by kernel_rfl) ?_ ?_ rfl hS ⟨hBw2023_w, hBw2023_w2006, hBw2023_w2023⟩ ?_ ?_
  ·exact fun x y hI hb => ⟨below_step hI.1 hb, below_step hI.2.1 hb, below_step hI.2.2 hb⟩
  ·exact .v (.v (.v (.v (.v (.v (.v (.nil)))))))
  ·refine .ms 2 rfl rfl rfl ?_
   refine .ms 1 rfl rfl rfl ?_
   refine .on rfl (fun a w hS hI hp => does_call (by kernel_rfl) (ar2 (hp.V 0 rfl rfl) (hp.V 1 rfl rfl)) ((ident_Get.calls k _ _ y2_1 (wrap64 (x2_2 + 10)) t2025_1 t2025_2 t2025_3 _ (Kd.C_below hcL2_1 hI.1) hr2_1 At2025).mono fun _ _ h => ⟨_, h.1, h.2, rfl⟩)) ?_
   refine .mv 2 rfl rfl rfl rfl ?_
   iterate 2 refine .on rfl (fun a w hS hI hp => does_val (x_extract rfl (hp.V 3 rfl rfl) rfl) rfl) ?_
   refine .on rfl (fun a w hS hI hp => does_val (x_fieldE (b := 0) rfl (hS.get 3 rfl) Try.underlying29 rfl rfl (by kernel_rfl)) rfl) ?_
   exact .nil
  clear hS
  intro at2026 w2027 hS hI hp
  have hBw2027_w := hI.1
  have hBw2027_w2006 := hI.2.1
  have hBw2027_w2023 := hI.2.2
  replace hS := ((((((hS.nil).cons (hS.get 6 rfl)).cons (hS.get 5 rfl)).cons (hS.get 4 rfl)).cons (hS.get 3 rfl)).cons (hS.get 2 rfl)).cons (hS.get 1 rfl)
  have hv60 : sl _ 60 = .agg #[.int .u64 t2025_1, .int .i64 t2025_2] := hp 4 (by decide)
  have hv62 : sl _ 62 = .pointer (some ⟨gL2_3, 9, none⟩) := hp 6 (by decide)
  have hBw2027_w2027 := Below.refl w2027.heap.size w2027
  have hS := hS.cons hv60
  have hS := hS.cons hv62
  clear hp hI hv60 hv62
  show wpList _ _ _ [_] _ _
  refine list_step rfl (does_store (g := gL2_3) (off := 9) (v := .agg #[.int .u64 t2025_1, .int .i64 t2025_2]) (new := (body_Get.c1 x2_3_0 x2_3_1 x2_3_2 x2_3_3 x2_3_4 x2_3_5 x2_3_6 x2_3_7 t2003_1 t2025_1 t2025_2 x2_3_11 x2_3_12 x2_3_13 x2_3_14 x2_3_15 x2_3_16 x2_3_17 x2_3_18 x2_3_19 x2_3_20 x2_3_21 x2_3_22)) rfl (hS.get 0 rfl) (hS.get 1 rfl) ((hBw2027_w2006.block gL2_3 (blk_lt hbxw2006)).trans hbxw2006) (by kernel_rfl) (by kernel_rfl) (by kernel_rfl) (by kernel_rfl)) ?_
  rintro vw2028 w2028 ⟨rfl, hbxw2028, hT⟩
  have hn2029 := hT.blk ((hBw2027_w2006.block gL2_6 (blk_lt hn2007)).trans hn2007) hneL2_6_3
  have hBw2028_w := hT.below hBw2027_w hgeLgL2_3 (hBw2027_w).size
  have hBw2028_w2028 := Below.refl w2028.heap.size w2028
  clear hT
  refine wpList_nil ?_
  refine hK2024 _ _ ?_
  (try clear hK2024 K2024)
  refine reg_seq_tail 2 (N := 151) (bs := [(62, .pointer (some ⟨gL2_3, 9, none⟩)), (60, .agg #[.int .u64 t2025_1, .int .i64 t2025_2]), (2, .int .i64 (wrap64 (x2_2 + 10))), (1, .slice AL2_1 y2_1.length CL2_1), (3, .pointer (some ⟨gL2_3, 0, none⟩)), (6, .pointer (some ⟨gL2_6, 0, none⟩)), (9, .int .i64 x2_9), (10, .int .i64 x2_10)]) (I := fun x => Below w.heap.size w x ∧ Below w2028.heap.size w2028 x) (ps := [VI (wrap64 (x2_2 + 10)), VI (wrap64 ((wrap64 (x2_2 + 10)) + 10))]) (by kernel_rfl) ?_ ?_ rfl hS ⟨hBw2028_w, hBw2028_w2028⟩ ?_ ?_
  ·exact fun x y hI hb => ⟨below_step hI.1 hb, below_step hI.2 hb⟩
  ·exact .v (.v (.nil))
  ·refine .ms 2 rfl rfl rfl ?_
   refine .on rfl (fun a w hS hI hp => does_val (x_bin rfl (hp.V 0 rfl rfl) (rfl) (b_add _ _ _ _ _)) rfl) ?_
   exact .nil
  clear hS
  intro at2030 w2031 hS hI hp
  have hBw2031_w := hI.1
  have hBw2031_w2028 := hI.2
  replace hS := ((((((hS.nil).cons (hS.get 7 rfl)).cons (hS.get 6 rfl)).cons (hS.get 5 rfl)).cons (hS.get 4 rfl)).cons (hS.get 3 rfl)).cons (hS.get 2 rfl)
  have hv64 : sl _ 64 = .int .i64 (wrap64 ((wrap64 (x2_2 + 10)) + 10)) := hp 1 (by decide)
  have hBw2031_w2031 := Below.refl w2031.heap.size w2031
  have hS := hS.cons hv64
  clear hp hI hv64
  show wpList _ _ _ [_] _ _
  refine list_step rfl (R := fun v w' => Below _ _ w' ∧ (VI (wrap64 ((wrap64 (x2_2 + 10)) + 10))) v w') (does_val (x_assign rfl (hS.get 0 rfl)) rfl) ?_
  rintro vw2032 w2032 ⟨hb, he⟩
  have hBw2032_w := below_step hBw2031_w hb
  have hBw2032_w2028 := below_step hBw2031_w2028 hb
  have hBw2032_w2031 := below_step hBw2031_w2031 hb
  have hBw2032_w2032 := Below.refl w2032.heap.size w2032
  obtain rfl : vw2032 = .int .i64 (wrap64 ((wrap64 (x2_2 + 10)) + 10)) := he
  replace hS := ((((((hS.nil).cons (hS.get 6 rfl)).cons (hS.get 5 rfl)).cons (hS.get 4 rfl)).cons (hS.get 3 rfl)).cons (hS.get 2 rfl)).cons (hS.get 0 rfl)
  refine hS.next (v := .int .i64 (wrap64 ((wrap64 (x2_2 + 10)) + 10))) (d := 2) rfl (by decide) (by rfl) ?_
  clear hS
  intro at2033 hS
  refine wpList_nil ?_
  replace hS := ((((((hS.nil).cons (hS.get 6 rfl)).cons (hS.get 5 rfl)).cons (hS.get 4 rfl)).cons (hS.get 3 rfl)).cons (hS.get 0 rfl)).cons (hS.get 2 rfl)
  (try simp only [Exit.then, Exit.inBlock])
  exact J3 _ _ y2_1 AL2_1 CL2_1 (wrap64 ((wrap64 (x2_2 + 10)) + 10)) x2_3_0 x2_3_1 x2_3_2 x2_3_3 x2_3_4 x2_3_5 x2_3_6 x2_3_7 t2003_1 t2025_1 t2025_2 x2_3_11 x2_3_12 x2_3_13 x2_3_14 x2_3_15 x2_3_16 x2_3_17 x2_3_18 x2_3_19 x2_3_20 x2_3_21 x2_3_22 gL2_3 x2_6_0 x2_6_1 x2_6_2 x2_6_3 x2_6_4 x2_6_5 x2_6_6 x2_6_7 x2_6_8 x2_6_9 x2_6_10 x2_6_11 x2_6_12 x2_6_13 x2_6_14 x2_6_15 x2_6_16 x2_6_17 x2_6_18 x2_6_19 x2_6_20 x2_6_21 x2_6_22 gL2_6 x2_9 x2_10 H hS hBw2032_w hr2_1 (hcL2_1) hgeLgL2_3 ((hBw2032_w2028.block gL2_3 (blk_lt hbxw2028)).trans hbxw2028) hgeLgL2_6 ((hBw2032_w2028.block gL2_6 (blk_lt hn2029)).trans hn2029) hneL2_6_3
 by_cases c4 : t14 = 0
 ·rw [if_pos c4] at H
  refine wp_seq_k (fun K22 hK22 => ?_)
  refine reg_seq (N := 151) (bs := [(31, .bool (decide ((wrap64 ((l1.length : Int) - a2)) < t14))), (10, .int .i64 t14), (9, .int .i64 a2), (6, .pointer (some ⟨g6, 0, none⟩)), (3, .pointer (some ⟨g4, 0, none⟩)), (1, .slice A1 l1.length cp1), (2, .int .i64 a2)]) (I := fun x => Below w.heap.size w x ∧ Below w3.heap.size w3 x ∧ Below w5.heap.size w5 x ∧ Below w20.heap.size w20 x) (ps := [VI t14, VB (decide (t14 = 0)), VB (decide (t14 = 0)), VU, VU, VU, VU, VB true]) (by kernel_rfl) ?_ ?_ rfl hS ⟨hBw20_w, hBw20_w3, hBw20_w5, hBw20_w20⟩ ?_ ?_
  ·exact fun x y hI hb => ⟨below_step hI.1 hb, below_step hI.2.1 hb, below_step hI.2.2.1 hb, below_step hI.2.2.2 hb⟩
  ·exact .v (.v (.v (.v (.v (.v (.v (.v (.nil))))))))
  ·refine .ms 1 rfl rfl rfl ?_
   refine .on rfl (fun a w hS hI hp => does_val (x_bin rfl (hp.V 0 rfl rfl) (rfl) (b_eql _ _ _ _ _ _)) rfl) ?_
   refine .mv 1 rfl rfl rfl rfl ?_
   iterate 4 refine .sn 2 35 rfl rfl rfl rfl rfl ((decide_eq_true c4)) ?_
   refine .on rfl (fun a w hS hI hp => does_val (x_pickT rfl ((hp.V 2 rfl rfl).trans (bT (decide_eq_true c4))) (rfl)) rfl) ?_
   exact .nil
  clear hS
  intro at23 w24 hS hI hp
  have hBw24_w := hI.1
  have hBw24_w3 := hI.2.1
  have hBw24_w5 := hI.2.2.1
  have hBw24_w20 := hI.2.2.2
  replace hS := ((((((hS.nil).cons (hS.get 6 rfl)).cons (hS.get 5 rfl)).cons (hS.get 4 rfl)).cons (hS.get 3 rfl)).cons (hS.get 2 rfl)).cons (hS.get 1 rfl)
  have hv40 : sl _ 40 = .bool true := hp 7 (by decide)
  have hBw24_w24 := Below.refl w24.heap.size w24
  have hS := hS.cons hv40
  clear hp hI hv40
  refine hK22 _ _ ?_
  (try clear hK22 K22)
  refine wp_cond_true ((hS.get 0 rfl).trans (bT rfl)) ?_
  refine wp_goto ?_
  (try simp only [Exit.then, Exit.inBlock])
  replace hS := ((((((hS.nil).cons (hS.get 1 rfl)).cons (hS.get 2 rfl)).cons (hS.get 3 rfl)).cons (hS.get 4 rfl)).cons (hS.get 6 rfl)).cons (hS.get 5 rfl)
  exact ⟨rfl, l1, A1, cp1, a2, a0_0, a0_1, a0_2, a0_3, a0_4, a0_5, a0_6, a0_7, a0_8, a0_9, a0_10, a0_11, a0_12, a0_13, a0_14, a0_15, a0_16, a0_17, a0_18, a0_19, a0_20, a0_21, a0_22, g4, 0, 0, 0, 0, 0, 0, 0, 0, 0, 0, 0, 0, 0, 0, 0, 0, 0, 0, 0, 0, 0, 0, 0, g6, a2, t14, H, hS, hBw24_w, HC1, (HR1), hgeg4, ((hBw24_w3.block g4 (blk_lt hbxg4)).trans hbxg4), (Nat.le_trans (hBw3_w).size hgeg6), ((hBw24_w5.block g6 (blk_lt hbxg6)).trans hbxg6), hne7⟩
 rw [if_neg c4] at H
 obtain ⟨t23, At23, H⟩ := Option.bind_eq_some_iff.mp H
 by_cases c5 : t23 = true
 ·rw [if_pos c5] at H
  refine wp_seq_k (fun K22 hK22 => ?_)
  refine reg_seq (N := 151) (bs := [(31, .bool (decide ((wrap64 ((l1.length : Int) - a2)) < t14))), (10, .int .i64 t14), (9, .int .i64 a2), (6, .pointer (some ⟨g6, 0, none⟩)), (3, .pointer (some ⟨g4, 0, none⟩)), (1, .slice A1 l1.length cp1), (2, .int .i64 a2)]) (I := fun x => Below w.heap.size w x ∧ Below w3.heap.size w3 x ∧ Below w5.heap.size w5 x ∧ Below w20.heap.size w20 x) (ps := [VI t14, VB (decide (t14 = 0)), VB (decide (t14 = 0)), VP g4 0, VI a0_0, VB t23, VB (!t23), VB (!t23)]) (by kernel_rfl) ?_ ?_ rfl hS ⟨hBw20_w, hBw20_w3, hBw20_w5, hBw20_w20⟩ ?_ ?_
  ·exact fun x y hI hb => ⟨below_step hI.1 hb, below_step hI.2.1 hb, below_step hI.2.2.1 hb, below_step hI.2.2.2 hb⟩
  ·exact .v (.v (.v (.v (.v (.v (.v (.v (.nil))))))))
  ·refine .ms 1 rfl rfl rfl ?_
   refine .on rfl (fun a w hS hI hp => does_val (x_bin rfl (hp.V 0 rfl rfl) (rfl) (b_eql _ _ _ _ _ _)) rfl) ?_
   refine .mv 1 rfl rfl rfl rfl ?_
   refine .oy 2 35 rfl rfl rfl rfl rfl ((decide_eq_false c4)) (fun a w hS hI hp => does_val (x_fieldE (b := 0) rfl (hS.get 4 rfl) Try.underlying29 rfl rfl (by kernel_rfl)) rfl) ?_
   refine .oy 2 35 rfl rfl rfl rfl rfl ((decide_eq_false c4)) (fun a w hS hI hp => does_val (x_load1 (d := .int .i64) rfl (hp.V 3 rfl rfl) (by kernel_rfl) rfl ((blk_cell (((hI.2.1).block g4 (blk_lt hbxg4)).trans hbxg4) 0).trans rfl)) rfl) ?_
   refine .oy 2 35 rfl rfl rfl rfl rfl ((decide_eq_false c4)) (fun a w hS hI hp => does_call (by kernel_rfl) (ar1 (hp.V 4 rfl rfl)) ((body_stamped.calls a0_0 t23 _  At23).mono fun _ _ h => ⟨_, h.1, h.2.below, rfl⟩)) ?_
   refine .oy 2 35 rfl rfl rfl rfl rfl ((decide_eq_false c4)) (fun a w hS hI hp => does_val (x_not rfl (hp.V 5 rfl rfl)) rfl) ?_
   refine .on rfl (fun a w hS hI hp => does_val (x_pickF rfl ((hp.V 2 rfl rfl).trans (bF (decide_eq_false c4))) (hp.V 6 rfl rfl)) rfl) ?_
   exact .nil
  clear hS
  intro at24 w25 hS hI hp
  have hBw25_w := hI.1
  have hBw25_w3 := hI.2.1
  have hBw25_w5 := hI.2.2.1
  have hBw25_w20 := hI.2.2.2
  replace hS := ((((((hS.nil).cons (hS.get 6 rfl)).cons (hS.get 5 rfl)).cons (hS.get 4 rfl)).cons (hS.get 3 rfl)).cons (hS.get 2 rfl)).cons (hS.get 1 rfl)
  have hv40 : sl _ 40 = .bool (!t23) := hp 7 (by decide)
  have hBw25_w25 := Below.refl w25.heap.size w25
  have hS := hS.cons hv40
  clear hp hI hv40
  refine hK22 _ _ ?_
  (try clear hK22 K22)
  refine wp_cond_false ((hS.get 0 rfl).trans (bF (congrArg (!·) c5))) ?_
  refine wp_skip ?_
  replace hS := ((((((hS.nil).cons (hS.get 1 rfl)).cons (hS.get 2 rfl)).cons (hS.get 3 rfl)).cons (hS.get 4 rfl)).cons (hS.get 6 rfl)).cons (hS.get 5 rfl)
  (try simp only [Exit.then, Exit.inBlock])
  exact J2 _ _ l1 A1 cp1 a2 a0_0 a0_1 a0_2 a0_3 a0_4 a0_5 a0_6 a0_7 a0_8 a0_9 a0_10 a0_11 a0_12 a0_13 a0_14 a0_15 a0_16 a0_17 a0_18 a0_19 a0_20 a0_21 a0_22 g4 0 0 0 0 0 0 0 0 0 0 0 0 0 0 0 0 0 0 0 0 0 0 0 g6 a2 t14 H hS hBw25_w HC1 (HR1) hgeg4 ((hBw25_w3.block g4 (blk_lt hbxg4)).trans hbxg4) (Nat.le_trans (hBw3_w).size hgeg6) ((hBw25_w5.block g6 (blk_lt hbxg6)).trans hbxg6) hne7
 rw [if_neg c5] at H
 refine wp_seq_k (fun K22 hK22 => ?_)
 refine reg_seq (N := 151) (bs := [(31, .bool (decide ((wrap64 ((l1.length : Int) - a2)) < t14))), (10, .int .i64 t14), (9, .int .i64 a2), (6, .pointer (some ⟨g6, 0, none⟩)), (3, .pointer (some ⟨g4, 0, none⟩)), (1, .slice A1 l1.length cp1), (2, .int .i64 a2)]) (I := fun x => Below w.heap.size w x ∧ Below w3.heap.size w3 x ∧ Below w5.heap.size w5 x ∧ Below w20.heap.size w20 x) (ps := [VI t14, VB (decide (t14 = 0)), VB (decide (t14 = 0)), VP g4 0, VI a0_0, VB t23, VB (!t23), VB (!t23)]) (by kernel_rfl) ?_ ?_ rfl hS ⟨hBw20_w, hBw20_w3, hBw20_w5, hBw20_w20⟩ ?_ ?_
 ·exact fun x y hI hb => ⟨below_step hI.1 hb, below_step hI.2.1 hb, below_step hI.2.2.1 hb, below_step hI.2.2.2 hb⟩
 ·exact .v (.v (.v (.v (.v (.v (.v (.v (.nil))))))))
 ·refine .ms 1 rfl rfl rfl ?_
  refine .on rfl (fun a w hS hI hp => does_val (x_bin rfl (hp.V 0 rfl rfl) (rfl) (b_eql _ _ _ _ _ _)) rfl) ?_
  refine .mv 1 rfl rfl rfl rfl ?_
  refine .oy 2 35 rfl rfl rfl rfl rfl ((decide_eq_false c4)) (fun a w hS hI hp => does_val (x_fieldE (b := 0) rfl (hS.get 4 rfl) Try.underlying29 rfl rfl (by kernel_rfl)) rfl) ?_
  refine .oy 2 35 rfl rfl rfl rfl rfl ((decide_eq_false c4)) (fun a w hS hI hp => does_val (x_load1 (d := .int .i64) rfl (hp.V 3 rfl rfl) (by kernel_rfl) rfl ((blk_cell (((hI.2.1).block g4 (blk_lt hbxg4)).trans hbxg4) 0).trans rfl)) rfl) ?_
  refine .oy 2 35 rfl rfl rfl rfl rfl ((decide_eq_false c4)) (fun a w hS hI hp => does_call (by kernel_rfl) (ar1 (hp.V 4 rfl rfl)) ((body_stamped.calls a0_0 t23 _  At23).mono fun _ _ h => ⟨_, h.1, h.2.below, rfl⟩)) ?_
  refine .oy 2 35 rfl rfl rfl rfl rfl ((decide_eq_false c4)) (fun a w hS hI hp => does_val (x_not rfl (hp.V 5 rfl rfl)) rfl) ?_
  refine .on rfl (fun a w hS hI hp => does_val (x_pickF rfl ((hp.V 2 rfl rfl).trans (bF (decide_eq_false c4))) (hp.V 6 rfl rfl)) rfl) ?_
  exact .nil
 clear hS
 intro at24 w25 hS hI hp
 have hBw25_w := hI.1
 have hBw25_w3 := hI.2.1
 have hBw25_w5 := hI.2.2.1
 have hBw25_w20 := hI.2.2.2
 replace hS := ((((((hS.nil).cons (hS.get 6 rfl)).cons (hS.get 5 rfl)).cons (hS.get 4 rfl)).cons (hS.get 3 rfl)).cons (hS.get 2 rfl)).cons (hS.get 1 rfl)
 have hv40 : sl _ 40 = .bool (!t23) := hp 7 (by decide)
 have hBw25_w25 := Below.refl w25.heap.size w25
 have hS := hS.cons hv40
 clear hp hI hv40
 refine hK22 _ _ ?_
 (try clear hK22 K22)
 refine wp_cond_true ((hS.get 0 rfl).trans (bT (congrArg (!·) (Bool.eq_false_iff.2 c5)))) ?_
 refine wp_goto ?_
 (try simp only [Exit.then, Exit.inBlock])
 replace hS := ((((((hS.nil).cons (hS.get 1 rfl)).cons (hS.get 2 rfl)).cons (hS.get 3 rfl)).cons (hS.get 4 rfl)).cons (hS.get 6 rfl)).cons (hS.get 5 rfl)
 exact ⟨rfl, l1, A1, cp1, a2, a0_0, a0_1, a0_2, a0_3, a0_4, a0_5, a0_6, a0_7, a0_8, a0_9, a0_10, a0_11, a0_12, a0_13, a0_14, a0_15, a0_16, a0_17, a0_18, a0_19, a0_20, a0_21, a0_22, g4, 0, 0, 0, 0, 0, 0, 0, 0, 0, 0, 0, 0, 0, 0, 0, 0, 0, 0, 0, 0, 0, 0, 0, g6, a2, t14, H, hS, hBw25_w, HC1, (HR1), hgeg4, ((hBw25_w3.block g4 (blk_lt hbxg4)).trans hbxg4), (Nat.le_trans (hBw3_w).size hgeg6), ((hBw25_w5.block g6 (blk_lt hbxg6)).trans hbxg6), hne7⟩
end Go.Proofs.Ytpoocfapmgmfkaa.P
