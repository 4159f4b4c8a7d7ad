/- Functions and loops of the given program as Lean functions, and that the code comes to what they say: written by this session's own program; Lean checks it. -/
import Derived.Test.YtiomlbkakiienaaZzPx0
import Derived.Test.YtiomlbkakiienaaZzPx2
import Derived.Test.YtiomlbkakiienaaZzPx6
import Derived.Test.YtiomlbkakiienaaZzPx7
import Derived.Test.YtiomlbkakiienaaZzPx8
namespace Go.Proofs.Ytiomlbkakiienaa.P
open Go.RowKit Go.Proofs.YtiomlbkakiienaaW.PrintWords Go.Proofs.YtiomlbkakiienaaW.PrintLast Go.Proofs.YtiomlbkakiienaaW.PrintMore
attribute [local go_sem] max2_int min2_int max_two min_two max_three min_three max_four min_four   -- for this text's walks alone
set_option linter.unusedVariables false
set_option linter.unusedSimpArgs false
/-! ### body_Get: function 29: by our own printer -/
def body_Get.j4 (k : Nat) (x4_3_0 x4_3_1 x4_3_2 x4_3_3 x4_3_4 x4_3_5 x4_3_6 x4_3_7 x4_3_8 x4_3_9 x4_3_10 x4_3_11 x4_3_12 x4_3_13 x4_3_14 x4_3_15 x4_3_16 x4_3_17 x4_3_18 x4_3_19 x4_3_20 x4_3_21 x4_3_22 x4_6_0 x4_6_1 x4_6_2 x4_6_3 x4_6_4 x4_6_5 x4_6_6 x4_6_7 x4_6_8 x4_6_9 x4_6_10 x4_6_11 x4_6_12 x4_6_13 x4_6_14 x4_6_15 x4_6_16 x4_6_17 x4_6_18 x4_6_19 x4_6_20 x4_6_21 x4_6_22 x4_9 x4_10 : Int) : Option (Int × Int × Int × Int × Int × Int × Int × Int × Int × Int × Int × Int × Int × Int × Int × Int × Int × Int × Int × Int × Int × Int × Int × Int × Int) := some (x4_3_0, x4_3_1, x4_3_2, x4_3_3, x4_3_4, x4_3_5, x4_3_6, x4_3_7, x4_3_8, x4_3_9, x4_3_10, x4_3_11, x4_3_12, x4_3_13, x4_3_14, x4_3_15, x4_3_16, x4_3_17, x4_3_18, x4_3_19, x4_3_20, x4_3_21, x4_3_22, wrap64 (x4_9 + x4_10), 0)
def body_Get.j3 (k : Nat) (y3_1 : List Int) (x3_2 x3_3_0 x3_3_1 x3_3_2 x3_3_3 x3_3_4 x3_3_5 x3_3_6 x3_3_7 x3_3_8 x3_3_9 x3_3_10 x3_3_11 x3_3_12 x3_3_13 x3_3_14 x3_3_15 x3_3_16 x3_3_17 x3_3_18 x3_3_19 x3_3_20 x3_3_21 x3_3_22 x3_6_0 x3_6_1 x3_6_2 x3_6_3 x3_6_4 x3_6_5 x3_6_6 x3_6_7 x3_6_8 x3_6_9 x3_6_10 x3_6_11 x3_6_12 x3_6_13 x3_6_14 x3_6_15 x3_6_16 x3_6_17 x3_6_18 x3_6_19 x3_6_20 x3_6_21 x3_6_22 x3_9 x3_10 : Int) : Option (Int × Int × Int × Int × Int × Int × Int × Int × Int × Int × Int × Int × Int × Int × Int × Int × Int × Int × Int × Int × Int × Int × Int × Int × Int) := if x3_3_0 = 11 then ((octets_Signed.f k y3_1 x3_2 2).bind fun t3009 => ((octets_Get.f k y3_1 (wrap64 (x3_2 + 3)) 1).bind fun t3015 => ((quality_Get.f k y3_1 (wrap64 (x3_2 + 4))).bind fun t3021 => ((octets_Get.f k y3_1 (wrap64 (x3_2 + 8)) 1).bind fun t3027 => ((octets_GetId.f k y3_1 (wrap64 (x3_2 + 9))).bind fun t3033 => ((octets_Get.f k y3_1 (wrap64 (x3_2 + 17)) 2).bind fun t3039 => ((octets_Get.f k y3_1 (wrap64 (x3_2 + 19)) 1).bind fun t3044 => (body_Get.j4 k x3_3_0 x3_3_1 x3_3_2 x3_3_3 x3_3_4 x3_3_5 x3_3_6 x3_3_7 x3_3_8 x3_3_9 x3_3_10 t3009.1 t3015.1 t3021.1 t3021.2.1 t3021.2.2.1 t3027.1 t3033.1 t3039.1 t3044.1 x3_3_20 x3_3_21 x3_3_22 x3_6_0 x3_6_1 x3_6_2 x3_6_3 x3_6_4 x3_6_5 x3_6_6 x3_6_7 x3_6_8 x3_6_9 x3_6_10 x3_6_11 x3_6_12 x3_6_13 x3_6_14 x3_6_15 x3_6_16 x3_6_17 x3_6_18 x3_6_19 x3_6_20 x3_6_21 x3_6_22 x3_9 x3_10)))))))) else (if x3_3_0 = 13 then (if 0 ≤ x3_2 then (if x3_2 < (y3_1.length : Int) then (if 0 ≤ (wrap64 (x3_2 + 1)) then (if (wrap64 (x3_2 + 1)) < (y3_1.length : Int) then (if 0 ≤ (wrap64 (x3_2 + 2)) then (if (wrap64 (x3_2 + 2)) < (y3_1.length : Int) then (body_Get.j4 k x3_3_0 x3_3_1 x3_3_2 x3_3_3 x3_3_4 x3_3_5 x3_3_6 x3_3_7 x3_3_8 x3_3_9 x3_3_10 x3_3_11 x3_3_12 x3_3_13 x3_3_14 x3_3_15 x3_3_16 x3_3_17 x3_3_18 x3_3_19 (wrap64 (rd y3_1 x3_2)) (wrap64 (rd y3_1 (wrap64 (x3_2 + 1)))) (wrap64 (Go.bits .and .u8 (rd y3_1 (wrap64 (x3_2 + 2))) 15)) x3_6_0 x3_6_1 x3_6_2 x3_6_3 x3_6_4 x3_6_5 x3_6_6 x3_6_7 x3_6_8 x3_6_9 x3_6_10 x3_6_11 x3_6_12 x3_6_13 x3_6_14 x3_6_15 x3_6_16 x3_6_17 x3_6_18 x3_6_19 x3_6_20 x3_6_21 x3_6_22 x3_9 x3_10) else (none)) else (none)) else (none)) else (none)) else (none)) else (none)) else (body_Get.j4 k x3_3_0 x3_3_1 x3_3_2 x3_3_3 x3_3_4 x3_3_5 x3_3_6 x3_3_7 x3_3_8 x3_3_9 x3_3_10 x3_3_11 x3_3_12 x3_3_13 x3_3_14 x3_3_15 x3_3_16 x3_3_17 x3_3_18 x3_3_19 x3_3_20 x3_3_21 x3_3_22 x3_6_0 x3_6_1 x3_6_2 x3_6_3 x3_6_4 x3_6_5 x3_6_6 x3_6_7 x3_6_8 x3_6_9 x3_6_10 x3_6_11 x3_6_12 x3_6_13 x3_6_14 x3_6_15 x3_6_16 x3_6_17 x3_6_18 x3_6_19 x3_6_20 x3_6_21 x3_6_22 x3_9 x3_10))
def body_Get.j2 (k : Nat) (y2_1 : List Int) (x2_2 x2_3_0 x2_3_1 x2_3_2 x2_3_3 x2_3_4 x2_3_5 x2_3_6 x2_3_7 x2_3_8 x2_3_9 x2_3_10 x2_3_11 x2_3_12 x2_3_13 x2_3_14 x2_3_15 x2_3_16 x2_3_17 x2_3_18 x2_3_19 x2_3_20 x2_3_21 x2_3_22 x2_6_0 x2_6_1 x2_6_2 x2_6_3 x2_6_4 x2_6_5 x2_6_6 x2_6_7 x2_6_8 x2_6_9 x2_6_10 x2_6_11 x2_6_12 x2_6_13 x2_6_14 x2_6_15 x2_6_16 x2_6_17 x2_6_18 x2_6_19 x2_6_20 x2_6_21 x2_6_22 x2_9 x2_10 : Int) : Option (Int × Int × Int × Int × Int × Int × Int × Int × Int × Int × Int × Int × Int × Int × Int × Int × Int × Int × Int × Int × Int × Int × Int × Int × Int) := (stamp_Get.f k y2_1 x2_2).bind fun t2003 => (if t2003.2 = true then ((body_targeted.f x2_3_0).bind fun t2021 => (if t2021 = true then ((ident_Get.f k y2_1 (wrap64 (x2_2 + 10))).bind fun t2025 => (body_Get.j3 k y2_1 (wrap64 ((wrap64 (x2_2 + 10)) + 10)) x2_3_0 x2_3_1 x2_3_2 x2_3_3 x2_3_4 x2_3_5 x2_3_6 x2_3_7 t2003.1 t2025.1 t2025.2.1 x2_3_11 x2_3_12 x2_3_13 x2_3_14 x2_3_15 x2_3_16 x2_3_17 x2_3_18 x2_3_19 x2_3_20 x2_3_21 x2_3_22 x2_6_0 x2_6_1 x2_6_2 x2_6_3 x2_6_4 x2_6_5 x2_6_6 x2_6_7 x2_6_8 x2_6_9 x2_6_10 x2_6_11 x2_6_12 x2_6_13 x2_6_14 x2_6_15 x2_6_16 x2_6_17 x2_6_18 x2_6_19 x2_6_20 x2_6_21 x2_6_22 x2_9 x2_10)) else (body_Get.j3 k y2_1 (wrap64 (x2_2 + 10)) x2_3_0 x2_3_1 x2_3_2 x2_3_3 x2_3_4 x2_3_5 x2_3_6 x2_3_7 t2003.1 x2_3_9 x2_3_10 x2_3_11 x2_3_12 x2_3_13 x2_3_14 x2_3_15 x2_3_16 x2_3_17 x2_3_18 x2_3_19 x2_3_20 x2_3_21 x2_3_22 x2_6_0 x2_6_1 x2_6_2 x2_6_3 x2_6_4 x2_6_5 x2_6_6 x2_6_7 x2_6_8 x2_6_9 x2_6_10 x2_6_11 x2_6_12 x2_6_13 x2_6_14 x2_6_15 x2_6_16 x2_6_17 x2_6_18 x2_6_19 x2_6_20 x2_6_21 x2_6_22 x2_9 x2_10))) else (some (0, 0, 0, 0, 0, 0, 0, 0, 0, 0, 0, 0, 0, 0, 0, 0, 0, 0, 0, 0, 0, 0, 0, 0, 10)))
def body_Get.j1 (k : Nat) (y1_1 : List Int) (x1_2 x1_3_0 x1_3_1 x1_3_2 x1_3_3 x1_3_4 x1_3_5 x1_3_6 x1_3_7 x1_3_8 x1_3_9 x1_3_10 x1_3_11 x1_3_12 x1_3_13 x1_3_14 x1_3_15 x1_3_16 x1_3_17 x1_3_18 x1_3_19 x1_3_20 x1_3_21 x1_3_22 x1_6_0 x1_6_1 x1_6_2 x1_6_3 x1_6_4 x1_6_5 x1_6_6 x1_6_7 x1_6_8 x1_6_9 x1_6_10 x1_6_11 x1_6_12 x1_6_13 x1_6_14 x1_6_15 x1_6_16 x1_6_17 x1_6_18 x1_6_19 x1_6_20 x1_6_21 x1_6_22 x1_9 x1_10 : Int) : Option (Int × Int × Int × Int × Int × Int × Int × Int × Int × Int × Int × Int × Int × Int × Int × Int × Int × Int × Int × Int × Int × Int × Int × Int × Int) := (body_targeted.f x1_3_0).bind fun t1003 => (if t1003 = true then ((ident_Get.f k y1_1 x1_2).bind fun t1007 => (body_Get.j3 k y1_1 (wrap64 (x1_2 + 10)) x1_3_0 x1_3_1 x1_3_2 x1_3_3 x1_3_4 x1_3_5 x1_3_6 x1_3_7 x1_3_8 t1007.1 t1007.2.1 x1_3_11 x1_3_12 x1_3_13 x1_3_14 x1_3_15 x1_3_16 x1_3_17 x1_3_18 x1_3_19 x1_3_20 x1_3_21 x1_3_22 x1_6_0 x1_6_1 x1_6_2 x1_6_3 x1_6_4 x1_6_5 x1_6_6 x1_6_7 x1_6_8 x1_6_9 x1_6_10 x1_6_11 x1_6_12 x1_6_13 x1_6_14 x1_6_15 x1_6_16 x1_6_17 x1_6_18 x1_6_19 x1_6_20 x1_6_21 x1_6_22 x1_9 x1_10)) else (body_Get.j3 k y1_1 x1_2 x1_3_0 x1_3_1 x1_3_2 x1_3_3 x1_3_4 x1_3_5 x1_3_6 x1_3_7 x1_3_8 x1_3_9 x1_3_10 x1_3_11 x1_3_12 x1_3_13 x1_3_14 x1_3_15 x1_3_16 x1_3_17 x1_3_18 x1_3_19 x1_3_20 x1_3_21 x1_3_22 x1_6_0 x1_6_1 x1_6_2 x1_6_3 x1_6_4 x1_6_5 x1_6_6 x1_6_7 x1_6_8 x1_6_9 x1_6_10 x1_6_11 x1_6_12 x1_6_13 x1_6_14 x1_6_15 x1_6_16 x1_6_17 x1_6_18 x1_6_19 x1_6_20 x1_6_21 x1_6_22 x1_9 x1_10))
def body_Get.f (k : Nat) (a0_0 a0_1 a0_2 a0_3 a0_4 a0_5 a0_6 a0_7 a0_8 a0_9 a0_10 a0_11 a0_12 a0_13 a0_14 a0_15 a0_16 a0_17 a0_18 a0_19 a0_20 a0_21 a0_22 : Int) (l1 : List Int) (a2 : Int) : Option (Int × Int × Int × Int × Int × Int × Int × Int × Int × Int × Int × Int × Int × Int × Int × Int × Int × Int × Int × Int × Int × Int × Int × Int × Int) := (body_Len.f k a0_0).bind fun t14 => (if a2 < 0 then (some (0, 0, 0, 0, 0, 0, 0, 0, 0, 0, 0, 0, 0, 0, 0, 0, 0, 0, 0, 0, 0, 0, 0, 0, 2)) else (if a2 > (l1.length : Int) then (some (0, 0, 0, 0, 0, 0, 0, 0, 0, 0, 0, 0, 0, 0, 0, 0, 0, 0, 0, 0, 0, 0, 0, 0, 2)) else (if (wrap64 ((l1.length : Int) - a2)) < t14 then (some (0, 0, 0, 0, 0, 0, 0, 0, 0, 0, 0, 0, 0, 0, 0, 0, 0, 0, 0, 0, 0, 0, 0, 0, 2)) else (if t14 = 0 then (body_Get.j1 k l1 a2 a0_0 a0_1 a0_2 a0_3 a0_4 a0_5 a0_6 a0_7 a0_8 a0_9 a0_10 a0_11 a0_12 a0_13 a0_14 a0_15 a0_16 a0_17 a0_18 a0_19 a0_20 a0_21 a0_22 0 0 0 0 0 0 0 0 0 0 0 0 0 0 0 0 0 0 0 0 0 0 0 a2 t14) else ((body_stamped.f a0_0).bind fun t23 => (if t23 = true then (body_Get.j2 k l1 a2 a0_0 a0_1 a0_2 a0_3 a0_4 a0_5 a0_6 a0_7 a0_8 a0_9 a0_10 a0_11 a0_12 a0_13 a0_14 a0_15 a0_16 a0_17 a0_18 a0_19 a0_20 a0_21 a0_22 0 0 0 0 0 0 0 0 0 0 0 0 0 0 0 0 0 0 0 0 0 0 0 a2 t14) else (body_Get.j1 k l1 a2 a0_0 a0_1 a0_2 a0_3 a0_4 a0_5 a0_6 a0_7 a0_8 a0_9 a0_10 a0_11 a0_12 a0_13 a0_14 a0_15 a0_16 a0_17 a0_18 a0_19 a0_20 a0_21 a0_22 0 0 0 0 0 0 0 0 0 0 0 0 0 0 0 0 0 0 0 0 0 0 0 a2 t14)))))))
abbrev body_Get.v0 (x0 x1 x2 x3 x4 x5 x6 x7 x8 x9 x10 x11 x12 x13 x14 x15 x16 x17 x18 x19 x20 x21 x22 : Int) : Value := .agg #[.int .i64 x0, .int .i64 x1, .int .i64 x2, .int .i64 x3, .int .u64 x4, .int .i64 x5, .int .i64 x6, .int .i64 x7, .int .i64 x8, .int .u64 x9, .int .i64 x10, .int .i64 x11, .int .i64 x12, .int .i64 x13, .int .i64 x14, .int .i64 x15, .int .i64 x16, .int .u64 x17, .int .i64 x18, .int .i64 x19, .int .i64 x20, .int .i64 x21, .int .i64 x22]
abbrev body_Get.c1 (x0 x1 x2 x3 x4 x5 x6 x7 x8 x9 x10 x11 x12 x13 x14 x15 x16 x17 x18 x19 x20 x21 x22 : Int) : Array Value := #[.int .i64 x0, .int .i64 x1, .int .i64 x2, .int .i64 x3, .int .u64 x4, .int .i64 x5, .int .i64 x6, .int .i64 x7, .int .i64 x8, .int .u64 x9, .int .i64 x10, .int .i64 x11, .int .i64 x12, .int .i64 x13, .int .i64 x14, .int .i64 x15, .int .i64 x16, .int .u64 x17, .int .i64 x18, .int .i64 x19, .int .i64 x20, .int .i64 x21, .int .i64 x22]
open Go.Proofs.Ytiomlbkakiienaa.E in
set_option maxHeartbeats 60000000 in
set_option maxRecDepth 100000 in
theorem body_Get.calls (k : Nat) (cb hn ho hq hr hs ht hu hw hx gr gs gt gu gv gw gx gy gz gA gB gC gD : Int) (A1 : Option Addr) (gE : Nat) (l1 : List Int) (a2 r1 r2 r3 r4 r5 r6 r7 r8 r9 i2 i3 i4 i5 i6 i7 i8 i9 ja jb jc jd je jf jg jh : Int) (w : World) (HR1 : Kd.C (Kd.int .u8) w A1 l1.length l1) (HC1 : l1.length ≤ gE) (h : body_Get.f k cb hn ho hq hr hs ht hu hw hx gr gs gt gu gv gw gx gy gz gA gB gC gD l1 a2 = some (r1, r2, r3, r4, r5, r6, r7, r8, r9, i2, i3, i4, i5, i6, i7, i8, i9, ja, jb, jc, jd, je, jf, jg, jh)) :
    Calls Try.prog 29 #[.agg #[.int .i64 cb, .int .i64 hn, .int .i64 ho, .int .i64 hq, .int .u64 hr, .int .i64 hs, .int .i64 ht, .int .i64 hu, .int .i64 hw, .int .u64 hx, .int .i64 gr, .int .i64 gs, .int .i64 gt, .int .i64 gu, .int .i64 gv, .int .i64 gw, .int .i64 gx, .int .u64 gy, .int .i64 gz, .int .i64 gA, .int .i64 gB, .int .i64 gC, .int .i64 gD], .slice A1 l1.length gE, .int .i64 a2] w fun e w' => e = .returned (.tuple #[.agg #[.int .i64 r1, .int .i64 r2, .int .i64 r3, .int .i64 r4, .int .u64 r5, .int .i64 r6, .int .i64 r7, .int .i64 r8, .int .i64 r9, .int .u64 i2, .int .i64 i3, .int .i64 i4, .int .i64 i5, .int .i64 i6, .int .i64 i7, .int .i64 i8, .int .i64 i9, .int .u64 ja, .int .i64 jb, .int .i64 jc, .int .i64 jd, .int .i64 je, .int .i64 jf], .int .i64 jg, .int .i64 jh]) ∧ Below w.heap.size w w' := by
 have H := h
 clear h
 unfold body_Get.f at H
 refine calls_of_wp (fn := Try.f29) (by kernel_rfl) rfl ?_
 have hS := St.enter #[(body_Get.v0 cb hn ho hq hr hs ht hu hw hx gr gs gt gu gv gw gx gy gz gA gB gC gD), .slice A1 l1.length gE, .int .i64 a2] 151 (by simp) [(0, (body_Get.v0 cb hn ho hq hr hs ht hu hw hx gr gs gt gu gv gw gx gy gz gA gB gC gD)), (1, .slice A1 l1.length gE), (2, .int .i64 a2)] (by simp)
 have lc := Below.refl w.heap.size w
 refine wp_seq_k (fun K1 lm => ?_)
 refine reg_seq_tail 1 (I := I1_ w) (ps := [IsB (body_Get.c1 cb hn ho hq hr hs ht hu hw hx gr gs gt gu gv gw gx gy gz gA gB gC gD) 28 w.heap.size]) (by kernel_rfl) ?_ ?_ rfl hS lc ?_ ?_
 ·exact bs1
 ·exact .cons (Stays.b _ _ _) (.nil)
 ·refine .on rfl (fun a w hS hI hp => does_var (x_box rfl (congrArg Value.cells (hS.get 0 rfl))) (hI).size) ?_
  exact .nil
 clear hS
 intro lC w3 hS ic hp
 replace hS := ((hS.nil).cons (hS.get 2 rfl)).cons (hS.get 1 rfl)
 obtain ⟨g4, k6, iz, bq⟩ := (show IsB _ 28 _ (sl _ 3) _ from hp 0 (by decide))
 have hS := hS.cons k6
 clear hp k6
 show wpList _ _ _ [_, _, _] _ _
 refine list_step rfl (R := fun v w' => Below _ _ w' ∧ (IsB (body_Get.c1 0 0 0 0 0 0 0 0 0 0 0 0 0 0 0 0 0 0 0 0 0 0 0) 28 w3.heap.size) v w') (does_var (x_alloc rfl (by kernel_rfl)) ((bR w3)).size) ?_
 rintro lE w5 ⟨hb, he⟩
 have j8 := below_step ic hb
 have ju := below_step (bR w3) hb
 obtain ⟨g6, rfl, ds, cw⟩ := he
 have jl : g6 ≠ g4 := Nat.ne_of_gt (Nat.lt_of_lt_of_le (blk_lt (((bR w3).block g4 (blk_lt bq)).trans bq)) ds)
 refine hS.next (v := .pointer (some ⟨g6, 0, none⟩)) (d := 6) rfl (by decide) (by rfl) ?_
 clear hS
 intro lD hS
 refine list_step rfl (R := fun v w' => Below _ _ w' ∧ (VI 0) v w') (does_val (x_assign rfl (rfl)) rfl) ?_
 rintro lq w9 ⟨hb, he⟩
 have j9 := below_step j8 hb
 have jv := below_step ju hb
 have jw := below_step (bR w5) hb
 obtain rfl : lq = .int .i64 0 := he
 refine hS.next (v := .int .i64 0) (d := 7) rfl (by decide) (by rfl) ?_
 clear hS
 intro lz hS
 refine list_step rfl (R := fun v w' => Below _ _ w' ∧ (VI 0) v w') (does_val (x_assign rfl (rfl)) rfl) ?_
 rintro lb g9 ⟨hb, he⟩
 have gg := below_step j9 hb
 have fd := below_step jv hb
 have fe := below_step jw hb
 have la := below_step (bR w9) hb
 obtain rfl : lb = .int .i64 0 := he
 refine hS.next (v := .int .i64 0) (d := 8) rfl (by decide) (by rfl) ?_
 clear hS
 intro lA hS
 refine wpList_nil ?_
 refine lm _ _ ?_
 refine wp_scope_fwd 0 (fun k5 gZ => ∃ (ey : List Int) (ge : Option Addr) (gf : Nat) (db cv eE eF eG eH eI eJ eK eL g2 gk dM dN dO dP dQ dR dS dT dU dV dW dX : Int) (bL : Nat) (fU fV fW fX fY fZ f0 f1 f2 f3 eM eN eO eP eQ eR eS eT eU eV eW eX eY : Int) (dr : Nat) (ip g1 : Int) , body_Get.j1 k ey db cv eE eF eG eH eI eJ eK eL g2 gk dM dN dO dP dQ dR dS dT dU dV dW dX fU fV fW fX fY fZ f0 f1 f2 f3 eM eN eO eP eQ eR eS eT eU eV eW eX eY ip g1 = some (r1, r2, r3, r4, r5, r6, r7, r8, r9, i2, i3, i4, i5, i6, i7, i8, i9, ja, jb, jc, jd, je, jf, jg, jh) ∧ St 151 [(1, .slice ge ey.length gf), (2, .int .i64 db), (3, .pointer (some ⟨bL, 0, none⟩)), (6, .pointer (some ⟨dr, 0, none⟩)), (9, .int .i64 ip), (10, .int .i64 g1)] k5 ∧ Below w.heap.size w gZ ∧ ey.length ≤ gf ∧ Kd.C (Kd.int .u8) w ge ey.length ey ∧ w.heap.size ≤ bL ∧ gZ.heap[bL]? = some (.cells (body_Get.c1 cv eE eF eG eH eI eJ eK eL g2 gk dM dN dO dP dQ dR dS dT dU dV dW dX) 28 (0, 0)) ∧ w.heap.size ≤ dr ∧ gZ.heap[dr]? = some (.cells (body_Get.c1 fU fV fW fX fY fZ f0 f1 f2 f3 eM eN eO eP eQ eR eS eT eU eV eW eX eY) 28 (0, 0)) ∧ dr ≠ bL) rfl ?_ (fun J1 => ?_)
 ·clear H hS
  rintro k5 gZ ⟨ey, ge, gf, db, cv, eE, eF, eG, eH, eI, eJ, eK, eL, g2, gk, dM, dN, dO, dP, dQ, dR, dS, dT, dU, dV, dW, dX, bL, fU, fV, fW, fX, fY, fZ, f0, f1, f2, f3, eM, eN, eO, eP, eQ, eR, eS, eT, eU, eV, eW, eX, eY, dr, ip, g1, H, hS, it, iA, hW, fB, b5, g8, ev, fM⟩
  unfold body_Get.j1 at H
  (try dsimp only at H)
  refine wp_seq_k (fun kx ka => ?_)
  have J3 : ∀ (hy : Act) (bb : World) (ad : List Int) (aN : Option Addr) (aO : Nat) (ab ac am an ao ap aq ar au av aw ag aV aQ aK aL aM aI aD ay ak aE az al : Int) (aa : Nat) (bV bW bX bY bZ b0 b1 b2 b3 b4 bs bt bu bv bw bx bz bA bB bC bD bE bG : Int) (ai : Nat) (dc cu : Int), body_Get.j3 k ad ab ac am an ao ap aq ar au av aw ag aV aQ aK aL aM aI aD ay ak aE az al bV bW bX bY bZ b0 b1 b2 b3 b4 bs bt bu bv bw bx bz bA bB bC bD bE bG dc cu = some (r1, r2, r3, r4, r5, r6, r7, r8, r9, i2, i3, i4, i5, i6, i7, i8, i9, ja, jb, jc, jd, je, jf, jg, jh) → St 151 [(1, .slice aN ad.length aO), (2, .int .i64 ab), (3, .pointer (some ⟨aa, 0, none⟩)), (6, .pointer (some ⟨ai, 0, none⟩)), (9, .int .i64 dc), (10, .int .i64 cu)] hy → Below w.heap.size w bb → ad.length ≤ aO → Kd.C (Kd.int .u8) w aN ad.length ad → w.heap.size ≤ aa → bb.heap[aa]? = some (.cells (body_Get.c1 ac am an ao ap aq ar au av aw ag aV aQ aK aL aM aI aD ay ak aE az al) 28 (0, 0)) → w.heap.size ≤ ai → bb.heap[ai]? = some (.cells (body_Get.c1 bV bW bX bY bZ b0 b1 b2 b3 b4 bs bt bu bv bw bx bz bA bB bC bD bE bG) 28 (0, 0)) → ai ≠ aa → kx hy bb := by
   intro hy bb ad aN aO ab ac am an ao ap aq ar au av aw ag aV aQ aK aL aM aI aD ay ak aE az al aa bV bW bX bY bZ b0 b1 b2 b3 b4 bs bt bu bv bw bx bz bA bB bC bD bE bG ai dc cu H hS da b7 aF ae ah ch aS af
   unfold body_Get.j3 at H
   (try dsimp only at H)
   refine ka _ _ ?_
   refine wp_seq_k (fun ix hK => ?_)
   have J4 : ∀ (hz : Act) (eh : World) (bg bh bi bj bk bl bm bn bo bp aW aX aY aZ a0 a1 a3 a4 a5 a6 a7 a8 a9 : Int) (b6 : Nat) (ei ej ek el em en eo ep eq er dd de df dg dh di dj dk dl dm dn dp dq : Int) (br : Nat) (bS bd : Int), body_Get.j4 k bg bh bi bj bk bl bm bn bo bp aW aX aY aZ a0 a1 a3 a4 a5 a6 a7 a8 a9 ei ej ek el em en eo ep eq er dd de df dg dh di dj dk dl dm dn dp dq bS bd = some (r1, r2, r3, r4, r5, r6, r7, r8, r9, i2, i3, i4, i5, i6, i7, i8, i9, ja, jb, jc, jd, je, jf, jg, jh) → St 151 [(3, .pointer (some ⟨b6, 0, none⟩)), (6, .pointer (some ⟨br, 0, none⟩)), (9, .int .i64 bS), (10, .int .i64 bd)] hz → Below w.heap.size w eh → w.heap.size ≤ b6 → eh.heap[b6]? = some (.cells (body_Get.c1 bg bh bi bj bk bl bm bn bo bp aW aX aY aZ a0 a1 a3 a4 a5 a6 a7 a8 a9) 28 (0, 0)) → w.heap.size ≤ br → eh.heap[br]? = some (.cells (body_Get.c1 ei ej ek el em en eo ep eq er dd de df dg dh di dj dk dl dm dn dp dq) 28 (0, 0)) → br ≠ b6 → ix hz eh := by
    intro hz eh bg bh bi bj bk bl bm bn bo bp aW aX aY aZ a0 a1 a3 a4 a5 a6 a7 a8 a9 b6 ei ej ek el em en eo ep eq er dd de df dg dh di dj dk dl dm dn dp dq br bS bd H hS g5 iX bN fD dy fN
    unfold body_Get.j4 at H
    (try dsimp only at H)
    simp only [Option.some.injEq, Prod.mk.injEq] at H
    obtain ⟨rfl, rfl, rfl, rfl, rfl, rfl, rfl, rfl, rfl, rfl, rfl, rfl, rfl, rfl, rfl, rfl, rfl, rfl, rfl, rfl, rfl, rfl, rfl, rfl, rfl⟩ := H
    refine hK _ _ ?_
    refine wp_seq_k (fun kK hQ => ?_)
    refine reg_seq_tail 4 (I := I2_ w eh) (ps := [IsV ((body_Get.v0 bg bh bi bj bk bl bm bn bo bp aW aX aY aZ a0 a1 a3 a4 a5 a6 a7 a8 a9)), VI bS, VI bd, VI (wrap64 (bS + bd))]) (by kernel_rfl) ?_ ?_ rfl hS ⟨g5, (bR eh)⟩ ?_ ?_
    ·exact bs2
    ·exact .v (.v (.v (.v (.nil))))
    ·refine .on rfl (fun a w hS hI hp => does_loadrow rfl (hS.get 0 rfl) (((hI.2).block b6 (blk_lt bN)).trans bN) Try.underlying28 rfl (by kernel_rfl) rfl) ?_
     refine .ms 2 rfl rfl rfl ?_
     refine .ms 3 rfl rfl rfl ?_
     refine .on rfl (fun a w hS hI hp => does_val (x_bin rfl (hp.V 1 rfl rfl) (hp.V 2 rfl rfl) (b_add _ _ _ _ _)) rfl) ?_
     exact .nil
    clear hS
    intro j5 k2 hS cZ hp
    replace hS := (hS.nil).cons (hS.get 1 rfl)
    have gM : sl _ 147 = (body_Get.v0 bg bh bi bj bk bl bm bn bo bp aW aX aY aZ a0 a1 a3 a4 a5 a6 a7 a8 a9) := hp 0 (by decide)
    have gN : sl _ 150 = .int .i64 (wrap64 (bS + bd)) := hp 3 (by decide)
    have hS := hS.cons gM
    have hS := hS.cons gN
    clear hp gM gN
    show wpList _ _ _ [_, _, _] _ _
    refine list_step rfl (does_storeAll (g := br) (cs := (body_Get.c1 bg bh bi bj bk bl bm bn bo bp aW aX aY aZ a0 a1 a3 a4 a5 a6 a7 a8 a9)) rfl (hS.get 2 rfl) (hS.get 1 rfl) ((cZ.2.block br (blk_lt dy)).trans dy) (by kernel_rfl) (by kernel_rfl) (by kernel_rfl)) ?_
    rintro kw iL ⟨rfl, ea, hT⟩
    have kf := hT.blk ((cZ.2.block b6 (blk_lt bN)).trans bN) (Ne.symm fN)
    have fw := hT.below cZ.1 fD (cZ.1).size
    clear hT
    refine list_step rfl (R := fun v w' => Below _ _ w' ∧ (VI (wrap64 (bS + bd))) v w') (does_val (x_assign rfl (hS.get 0 rfl)) rfl) ?_
    rintro il iM ⟨hb, he⟩
    have fx := below_step fw hb
    have dJ := below_step (bR iL) hb
    obtain rfl : il = .int .i64 (wrap64 (bS + bd)) := he
    refine hS.next (v := .int .i64 (wrap64 (bS + bd))) (d := 7) rfl (by decide) (by rfl) ?_
    clear hS
    intro j6 hS
    refine list_step rfl (R := fun v w' => Below _ _ w' ∧ (VI 0) v w') (does_val (x_assign rfl (rfl)) rfl) ?_
    rintro im k3 ⟨hb, he⟩
    have fy := below_step fx hb
    have dK := below_step dJ hb
    have hf := below_step (bR iM) hb
    obtain rfl : im = .int .i64 0 := he
    refine hS.next (v := .int .i64 0) (d := 8) rfl (by decide) (by rfl) ?_
    clear hS
    intro j7 hS
    refine wpList_nil ?_
    refine hQ _ _ ?_
    refine wp_ret ?_
    (try simp only [Exit.then, Exit.inBlock, Exit.jump, Exit.noGoto])
    exact bodyPost_ret (v := .tuple #[(body_Get.v0 bg bh bi bj bk bl bm bn bo bp aW aX aY aZ a0 a1 a3 a4 a5 a6 a7 a8 a9), .int .i64 (wrap64 (bS + bd)), .int .i64 0]) (results_list (rs := [.cell 6 28, .tmp 7, .tmp 8]) rfl (by simp) (Vals.cell br 28 (body_Get.c1 bg bh bi bj bk bl bm bn bo bp aW aX aY aZ a0 a1 a3 a4 a5 a6 a7 a8 a9) (0, 0) _ (hS.get 4 rfl) ((dK.block br (blk_lt ea)).trans ea) Try.underlying28 rfl (by kernel_rfl) (Vals.at (hS.get 1 rfl) (Vals.at (hS.get 0 rfl) .nil)))) hS.nodef ⟨rfl, fy⟩
   by_cases c1 : ac = 11
   rotate_left
   ·rw [if_neg c1] at H
    by_cases c2 : ac = 13
    rotate_left
    ·rw [if_neg c2] at H
     refine wp_seq_k (fun go ce => ?_)
     refine reg_seq (I := I2_ w bb) (ps := [VP aa 0, VI ac]) (by kernel_rfl) ?_ ?_ rfl hS ⟨da, (bR bb)⟩ ?_ ?_
     ·exact bs2
     ·exact .v (.v (.nil))
     ·refine .on rfl (fun a w hS hI hp => does_val (x_fieldE (b := 0) rfl (hS.get 2 rfl) Try.underlying28 rfl rfl (by kernel_rfl)) rfl) ?_
      refine .on rfl (fun a w hS hI hp => does_val (x_load1 (d := .int .i64) rfl (hp.V 0 rfl rfl) (by kernel_rfl) rfl ((blk_cell (((hI.2).block aa (blk_lt ah)).trans ah) 0).trans rfl)) rfl) ?_
      exact .nil
     clear hS
     intro fl bO hS be hp
     have cj : sl _ 66 = .int .i64 ac := hp 1 (by decide)
     have hS := hS.cons cj
     clear hp cj
     refine ce _ _ ?_
     refine wp_block ?_
     refine wp_seq_k (fun gp cf => ?_)
     refine reg_seq (I := I3_ w bb bO) (ps := [VB (decide (ac = 11)), VB (decide (ac = 11))]) (by kernel_rfl) ?_ ?_ rfl hS ⟨be.1, be.2, (bR bO)⟩ ?_ ?_
     ·exact bs3
     ·exact .v (.v (.nil))
     ·refine .on rfl (fun a w hS hI hp => does_val (x_bin rfl (hS.get 0 rfl) (rfl) (b_eql _ _ _ _ _ _)) rfl) ?_
      refine .asg 0 rfl rfl rfl rfl ?_
      exact .nil
     clear hS
     intro fm bP hS bf hp
     have ck : sl _ 67 = .bool (decide (ac = 11)) := hp 1 (by decide)
     have hS := hS.cons ck
     clear hp ck
     refine cf _ _ ?_
     refine wp_cond_false ((hS.get 0 rfl).trans (bF (decide_eq_false c1))) ?_
     refine wp_seq_k (fun gq cg => ?_)
     refine reg_seq (I := I3_ w bb bP) (ps := [VB (decide (ac = 13)), VB (decide (ac = 13))]) (by kernel_rfl) ?_ ?_ rfl hS ⟨bf.1, bf.2.1, (bR bP)⟩ ?_ ?_
     ·exact bs3
     ·exact .v (.v (.nil))
     ·refine .on rfl (fun a w hS hI hp => does_val (x_bin rfl (hS.get 1 rfl) (rfl) (b_eql _ _ _ _ _ _)) rfl) ?_
      refine .asg 0 rfl rfl rfl rfl ?_
      exact .nil
     clear hS
     intro hA fh hS bJ hp
     replace hS := ((((((hS.nil).cons (hS.get 7 rfl)).cons (hS.get 6 rfl)).cons (hS.get 5 rfl)).cons (hS.get 4 rfl)).cons (hS.get 3 rfl)).cons (hS.get 2 rfl)
     have cP : sl _ 124 = .bool (decide (ac = 13)) := hp 1 (by decide)
     have hS := hS.cons cP
     clear hp cP
     refine cg _ _ ?_
     refine wp_cond_false ((hS.get 0 rfl).trans (bF (decide_eq_false c2))) ?_
     refine wp_skip ?_
     replace hS := ((((hS.nil).cons (hS.get 6 rfl)).cons (hS.get 5 rfl)).cons (hS.get 4 rfl)).cons (hS.get 3 rfl)
     (try simp only [Exit.then, Exit.inBlock])
     exact J4 _ _ ac am an ao ap aq ar au av aw ag aV aQ aK aL aM aI aD ay ak aE az al aa bV bW bX bY bZ b0 b1 b2 b3 b4 bs bt bu bv bw bx bz bA bB bC bD bE bG ai dc cu H hS bJ.1 ae ((bJ.2.1.block aa (blk_lt ah)).trans ah) ch ((bJ.2.1.block ai (blk_lt aS)).trans aS) af
    rw [if_pos c2] at H
    by_cases c3 : 0 ≤ ab
    rotate_left
    ·rw [if_neg c3] at H
     exact absurd H (by simp)
    rw [if_pos c3] at H
    by_cases c4 : ab < (ad.length : Int)
    rotate_left
    ·rw [if_neg c4] at H
     exact absurd H (by simp)
    rw [if_pos c4] at H
    by_cases c5 : 0 ≤ (wrap64 (ab + 1))
    rotate_left
    ·rw [if_neg c5] at H
     exact absurd H (by simp)
    rw [if_pos c5] at H
    by_cases c6 : (wrap64 (ab + 1)) < (ad.length : Int)
    rotate_left
    ·rw [if_neg c6] at H
     exact absurd H (by simp)
    rw [if_pos c6] at H
    by_cases c7 : 0 ≤ (wrap64 (ab + 2))
    rotate_left
    ·rw [if_neg c7] at H
     exact absurd H (by simp)
    rw [if_pos c7] at H
    by_cases c8 : (wrap64 (ab + 2)) < (ad.length : Int)
    rotate_left
    ·rw [if_neg c8] at H
     exact absurd H (by simp)
    rw [if_pos c8] at H
    refine wp_seq_k (fun go ce => ?_)
    refine reg_seq (I := I2_ w bb) (ps := [VP aa 0, VI ac]) (by kernel_rfl) ?_ ?_ rfl hS ⟨da, (bR bb)⟩ ?_ ?_
    ·exact bs2
    ·exact .v (.v (.nil))
    ·refine .on rfl (fun a w hS hI hp => does_val (x_fieldE (b := 0) rfl (hS.get 2 rfl) Try.underlying28 rfl rfl (by kernel_rfl)) rfl) ?_
     refine .on rfl (fun a w hS hI hp => does_val (x_load1 (d := .int .i64) rfl (hp.V 0 rfl rfl) (by kernel_rfl) rfl ((blk_cell (((hI.2).block aa (blk_lt ah)).trans ah) 0).trans rfl)) rfl) ?_
     exact .nil
    clear hS
    intro fl bO hS be hp
    have cj : sl _ 66 = .int .i64 ac := hp 1 (by decide)
    have hS := hS.cons cj
    clear hp cj
    refine ce _ _ ?_
    refine wp_block ?_
    refine wp_seq_k (fun gp cf => ?_)
    refine reg_seq (I := I3_ w bb bO) (ps := [VB (decide (ac = 11)), VB (decide (ac = 11))]) (by kernel_rfl) ?_ ?_ rfl hS ⟨be.1, be.2, (bR bO)⟩ ?_ ?_
    ·exact bs3
    ·exact .v (.v (.nil))
    ·refine .on rfl (fun a w hS hI hp => does_val (x_bin rfl (hS.get 0 rfl) (rfl) (b_eql _ _ _ _ _ _)) rfl) ?_
     refine .asg 0 rfl rfl rfl rfl ?_
     exact .nil
    clear hS
    intro fm bP hS bf hp
    have ck : sl _ 67 = .bool (decide (ac = 11)) := hp 1 (by decide)
    have hS := hS.cons ck
    clear hp ck
    refine cf _ _ ?_
    refine wp_cond_false ((hS.get 0 rfl).trans (bF (decide_eq_false c1))) ?_
    refine wp_seq_k (fun gq cg => ?_)
    refine reg_seq (I := I3_ w bb bP) (ps := [VB (decide (ac = 13)), VB (decide (ac = 13))]) (by kernel_rfl) ?_ ?_ rfl hS ⟨bf.1, bf.2.1, (bR bP)⟩ ?_ ?_
    ·exact bs3
    ·exact .v (.v (.nil))
    ·refine .on rfl (fun a w hS hI hp => does_val (x_bin rfl (hS.get 1 rfl) (rfl) (b_eql _ _ _ _ _ _)) rfl) ?_
     refine .asg 0 rfl rfl rfl rfl ?_
     exact .nil
    clear hS
    intro hA fh hS bJ hp
    replace hS := ((((((hS.nil).cons (hS.get 7 rfl)).cons (hS.get 6 rfl)).cons (hS.get 5 rfl)).cons (hS.get 4 rfl)).cons (hS.get 3 rfl)).cons (hS.get 2 rfl)
    have cP : sl _ 124 = .bool (decide (ac = 13)) := hp 1 (by decide)
    have hS := hS.cons cP
    clear hp cP
    refine cg _ _ ?_
    refine wp_cond_true ((hS.get 0 rfl).trans (bT (decide_eq_true c2))) ?_
    obtain ⟨dZ, bc⟩ := row_some (0 : Int) (Kd.C_below aF bJ.1) c3 c4
    refine reg_float (I := I3_ w bb fh) (C := fun x => Kd.C (Kd.int .u8) x aN ad.length ad) [true, true, true, true, true, true, true, true, true, true, true, true, true, true, true, true, true, true, true, false, false, false, false, false] [.slice aN ad.length aO, .int .i64 ab, .pointer (some (dZ.add ((ab : Int).toNat * 1))), .int .u8 (rd ad ab), .int .i64 (wrap64 (rd ad ab)), .slice aN ad.length aO, .int .i64 ab, .int .i64 (wrap64 (ab + 1)), .pointer (some (dZ.add ((wrap64 (ab + 1) : Int).toNat * 1))), .int .u8 (rd ad (wrap64 (ab + 1))), .int .i64 (wrap64 (rd ad (wrap64 (ab + 1)))), .slice aN ad.length aO, .int .i64 ab, .int .i64 (wrap64 (ab + 2)), .pointer (some (dZ.add ((wrap64 (ab + 2) : Int).toNat * 1))), .int .u8 (rd ad (wrap64 (ab + 2))), .int .u8 (Go.bits .and .u8 (rd ad (wrap64 (ab + 2))) 15), .int .i64 (wrap64 (Go.bits .and .u8 (rd ad (wrap64 (ab + 2))) 15)), .pointer (some ⟨aa, 20, none⟩), undef, undef, undef, undef, undef] [0, 0, 3, 7, 15, 0, 0, 64, 224, 480, 992, 0, 0, 4096, 14336, 30720, 63488, 129024, 31, 262175, 788479, 1837055, 4194303, 8388607] (by kernel_rfl) (by kernel_rfl) rfl ?_ ?_ hS ⟨bJ.1, bJ.2.1, (bR fh)⟩ ?_ ?_
    ·exact bs3
    ·exact fun x hI => (Kd.C_below aF hI.1)
    ·intro a hS hp
     refine .g (fun w hC => GRun.on rfl (x_move rfl (hS.get 1 rfl))) ?_
     refine .g (fun w hC => GRun.on rfl (x_move rfl (hS.get 2 rfl))) ?_
     refine .g (fun w hC => GRun.on rfl (x_index (sz := 1) (e := 5) rfl ((hp.get 0 rfl rfl rfl).trans (by rw [bc])) ((hp.get 1 rfl rfl rfl)) (by kernel_rfl) (by kernel_rfl) c3 c4)) ?_
     refine .g (fun w hC => GRun.on rfl (x_load1 (d := .int .u8) rfl ((hp.get 2 rfl rfl rfl)) (by kernel_rfl) rfl (row_cell1 (flat_int .u8) (0 : Int) (bc ▸ hC) ab c3 c4 _ rfl))) ?_
     refine .g (fun w hC => GRun.on rfl ((i64_w (rd ad ab)) ▸ x_convI rfl (by kernel_rfl) (by kernel_rfl) ((hp.get 3 rfl rfl rfl)))) ?_
     refine .g (fun w hC => GRun.on rfl (x_move rfl (hS.get 1 rfl))) ?_
     refine .g (fun w hC => GRun.on rfl (x_move rfl (hS.get 2 rfl))) ?_
     refine .g (fun w hC => GRun.on rfl (x_bin rfl ((hp.get 6 rfl rfl rfl)) (rfl) (b_add _ _ _ _ _))) ?_
     refine .g (fun w hC => GRun.on rfl (x_index (sz := 1) (e := 5) rfl ((hp.get 5 rfl rfl rfl).trans (by rw [bc])) ((hp.get 7 rfl rfl rfl)) (by kernel_rfl) (by kernel_rfl) c5 c6)) ?_
     refine .g (fun w hC => GRun.on rfl (x_load1 (d := .int .u8) rfl ((hp.get 8 rfl rfl rfl)) (by kernel_rfl) rfl (row_cell1 (flat_int .u8) (0 : Int) (bc ▸ hC) (wrap64 (ab + 1)) c5 c6 _ rfl))) ?_
     refine .g (fun w hC => GRun.on rfl ((i64_w (rd ad (wrap64 (ab + 1)))) ▸ x_convI rfl (by kernel_rfl) (by kernel_rfl) ((hp.get 9 rfl rfl rfl)))) ?_
     refine .g (fun w hC => GRun.on rfl (x_move rfl (hS.get 1 rfl))) ?_
     refine .g (fun w hC => GRun.on rfl (x_move rfl (hS.get 2 rfl))) ?_
     refine .g (fun w hC => GRun.on rfl (x_bin rfl ((hp.get 12 rfl rfl rfl)) (rfl) (b_add _ _ _ _ _))) ?_
     refine .g (fun w hC => GRun.on rfl (x_index (sz := 1) (e := 5) rfl ((hp.get 11 rfl rfl rfl).trans (by rw [bc])) ((hp.get 13 rfl rfl rfl)) (by kernel_rfl) (by kernel_rfl) c7 c8)) ?_
     refine .g (fun w hC => GRun.on rfl (x_load1 (d := .int .u8) rfl ((hp.get 14 rfl rfl rfl)) (by kernel_rfl) rfl (row_cell1 (flat_int .u8) (0 : Int) (bc ▸ hC) (wrap64 (ab + 2)) c7 c8 _ rfl))) ?_
     refine .g (fun w hC => GRun.on rfl (x_bin rfl ((hp.get 15 rfl rfl rfl)) (rfl) (b_and _ _ _ _ _ _))) ?_
     refine .g (fun w hC => GRun.on rfl ((i64_w (Go.bits .and .u8 (rd ad (wrap64 (ab + 2))) 15)) ▸ x_convI rfl (by kernel_rfl) (by kernel_rfl) ((hp.get 16 rfl rfl rfl)))) ?_
     refine .g (fun w hC => GRun.on rfl (x_fieldE (b := 0) rfl (hS.get 3 rfl) Try.underlying28 rfl rfl (by kernel_rfl))) ?_
     iterate 5 refine .t ?_
     exact .nil
    clear hS
    intro jS kT hS hp cS
    have hS := hS.cons (show sl _ 130 = .int .i64 (wrap64 (rd ad ab)) from hp.get 4 rfl rfl rfl)
    have hS := hS.cons (show sl _ 136 = .int .i64 (wrap64 (rd ad (wrap64 (ab + 1)))) from hp.get 10 rfl rfl rfl)
    have hS := hS.cons (show sl _ 143 = .int .i64 (wrap64 (Go.bits .and .u8 (rd ad (wrap64 (ab + 2))) 15)) from hp.get 17 rfl rfl rfl)
    have hS := hS.cons (show sl _ 144 = .pointer (some ⟨aa, 20, none⟩) from hp.get 18 rfl rfl rfl)
    clear hp
    show ListC _ _ _ _ [_, _, _, _, _] _ _
    refine lc_step rfl (does_store (g := aa) (off := 20) (v := .int .i64 (wrap64 (rd ad ab))) (new := (body_Get.c1 ac am an ao ap aq ar au av aw ag aV aQ aK aL aM aI aD ay ak (wrap64 (rd ad ab)) az al)) rfl (hS.get 0 rfl) (hS.get 3 rfl) ((cS.2.1.block aa (blk_lt ah)).trans ah) (by kernel_rfl) (by kernel_rfl) (by kernel_rfl) (by kernel_rfl)) ?_
    rintro kp iK ⟨rfl, d3, hT⟩
    have fF := hT.blk ((cS.2.1.block ai (blk_lt aS)).trans aS) af
    have dw := hT.below cS.1 ae (cS.1).size
    clear hT
    refine ⟨(Kd.C_below aF dw), ?_⟩
    refine lc_step rfl (R := fun v w' => Below _ _ w' ∧ (VP aa 21) v w') (does_val (x_fieldE (b := 0) rfl (hS.get 7 rfl) Try.underlying28 rfl rfl (by kernel_rfl)) rfl) ?_
    rintro ii kU ⟨hb, he⟩
    have cc := below_step dw hb
    have b8 := below_step (bR iK) hb
    obtain rfl : ii = .pointer (some ⟨aa, 21, none⟩) := he
    refine ⟨(Kd.C_below aF cc), ?_⟩
    refine hS.nextC (v := .pointer (some ⟨aa, 21, none⟩)) (d := 145) rfl (by decide) (by rfl) ?_
    clear hS
    intro jU hS
    refine lc_step rfl (does_store (g := aa) (off := 21) (v := .int .i64 (wrap64 (rd ad (wrap64 (ab + 1))))) (new := (body_Get.c1 ac am an ao ap aq ar au av aw ag aV aQ aK aL aM aI aD ay ak (wrap64 (rd ad ab)) (wrap64 (rd ad (wrap64 (ab + 1)))) al)) rfl (hS.get 0 rfl) (hS.get 3 rfl) ((b8.block aa (blk_lt d3)).trans d3) (by kernel_rfl) (by kernel_rfl) (by kernel_rfl) (by kernel_rfl)) ?_
    rintro ij dL ⟨rfl, bI, hT⟩
    have ci := hT.blk ((b8.block ai (blk_lt fF)).trans fF) af
    have bM := hT.below cc ae (cc).size
    clear hT
    refine ⟨(Kd.C_below aF bM), ?_⟩
    refine lc_step rfl (R := fun v w' => Below _ _ w' ∧ (VP aa 22) v w') (does_val (x_fieldE (b := 0) rfl (hS.get 8 rfl) Try.underlying28 rfl rfl (by kernel_rfl)) rfl) ?_
    rintro ik kW ⟨hb, he⟩
    have cd := below_step bM hb
    have b9 := below_step (bR dL) hb
    obtain rfl : ik = .pointer (some ⟨aa, 22, none⟩) := he
    refine ⟨(Kd.C_below aF cd), ?_⟩
    refine hS.nextC (v := .pointer (some ⟨aa, 22, none⟩)) (d := 146) rfl (by decide) (by rfl) ?_
    clear hS
    intro jV hS
    refine lc_step rfl (does_store (g := aa) (off := 22) (v := .int .i64 (wrap64 (Go.bits .and .u8 (rd ad (wrap64 (ab + 2))) 15))) (new := (body_Get.c1 ac am an ao ap aq ar au av aw ag aV aQ aK aL aM aI aD ay ak (wrap64 (rd ad ab)) (wrap64 (rd ad (wrap64 (ab + 1)))) (wrap64 (Go.bits .and .u8 (rd ad (wrap64 (ab + 2))) 15)))) rfl (hS.get 0 rfl) (hS.get 3 rfl) ((b9.block aa (blk_lt bI)).trans bI) (by kernel_rfl) (by kernel_rfl) (by kernel_rfl) (by kernel_rfl)) ?_
    rintro kq gT ⟨rfl, d4, hT⟩
    have fG := hT.blk ((b9.block ai (blk_lt ci)).trans ci) af
    have dx := hT.below cd ae (cd).size
    clear hT
    refine ⟨(Kd.C_below aF dx), ?_⟩
    refine lc_nil ?_
    replace hS := ((((hS.nil).cons (hS.get 12 rfl)).cons (hS.get 11 rfl)).cons (hS.get 10 rfl)).cons (hS.get 9 rfl)
    (try simp only [Exit.then, Exit.inBlock])
    exact J4 _ _ ac am an ao ap aq ar au av aw ag aV aQ aK aL aM aI aD ay ak (wrap64 (rd ad ab)) (wrap64 (rd ad (wrap64 (ab + 1)))) (wrap64 (Go.bits .and .u8 (rd ad (wrap64 (ab + 2))) 15)) aa bV bW bX bY bZ b0 b1 b2 b3 b4 bs bt bu bv bw bx bz bA bB bC bD bE bG ai dc cu H hS dx ae (((bR gT).block aa (blk_lt d4)).trans d4) ch (((bR gT).block ai (blk_lt fG)).trans fG) af
   rw [if_pos c1] at H
   obtain ⟨iB, hg, H⟩ := Option.bind_eq_some_iff.mp H
   obtain ⟨aj, cm⟩ := iB
   (try dsimp only at H)
   obtain ⟨iC, hh, H⟩ := Option.bind_eq_some_iff.mp H
   obtain ⟨ax, cn⟩ := iC
   (try dsimp only at H)
   obtain ⟨iD, hi, H⟩ := Option.bind_eq_some_iff.mp H
   obtain ⟨aA, aB, aC, co⟩ := iD
   (try dsimp only at H)
   obtain ⟨iE, hj, H⟩ := Option.bind_eq_some_iff.mp H
   obtain ⟨aH, cp⟩ := iE
   (try dsimp only at H)
   obtain ⟨iF, hk, H⟩ := Option.bind_eq_some_iff.mp H
   obtain ⟨aJ, cq⟩ := iF
   (try dsimp only at H)
   obtain ⟨iG, hl, H⟩ := Option.bind_eq_some_iff.mp H
   obtain ⟨aP, cr⟩ := iG
   (try dsimp only at H)
   obtain ⟨iH, hm, H⟩ := Option.bind_eq_some_iff.mp H
   obtain ⟨aU, ct⟩ := iH
   (try dsimp only at H)
   refine wp_seq_k (fun go ce => ?_)
   refine reg_seq (I := I2_ w bb) (ps := [VP aa 0, VI ac]) (by kernel_rfl) ?_ ?_ rfl hS ⟨da, (bR bb)⟩ ?_ ?_
   ·exact bs2
   ·exact .v (.v (.nil))
   ·refine .on rfl (fun a w hS hI hp => does_val (x_fieldE (b := 0) rfl (hS.get 2 rfl) Try.underlying28 rfl rfl (by kernel_rfl)) rfl) ?_
    refine .on rfl (fun a w hS hI hp => does_val (x_load1 (d := .int .i64) rfl (hp.V 0 rfl rfl) (by kernel_rfl) rfl ((blk_cell (((hI.2).block aa (blk_lt ah)).trans ah) 0).trans rfl)) rfl) ?_
    exact .nil
   clear hS
   intro fl bO hS be hp
   have cj : sl _ 66 = .int .i64 ac := hp 1 (by decide)
   have hS := hS.cons cj
   clear hp cj
   refine ce _ _ ?_
   refine wp_block ?_
   refine wp_seq_k (fun gp cf => ?_)
   refine reg_seq (I := I3_ w bb bO) (ps := [VB (decide (ac = 11)), VB (decide (ac = 11))]) (by kernel_rfl) ?_ ?_ rfl hS ⟨be.1, be.2, (bR bO)⟩ ?_ ?_
   ·exact bs3
   ·exact .v (.v (.nil))
   ·refine .on rfl (fun a w hS hI hp => does_val (x_bin rfl (hS.get 0 rfl) (rfl) (b_eql _ _ _ _ _ _)) rfl) ?_
    refine .asg 0 rfl rfl rfl rfl ?_
    exact .nil
   clear hS
   intro fm bP hS bf hp
   have ck : sl _ 67 = .bool (decide (ac = 11)) := hp 1 (by decide)
   have hS := hS.cons ck
   clear hp ck
   refine cf _ _ ?_
   refine wp_cond_true ((hS.get 0 rfl).trans (bT (decide_eq_true c1))) ?_
   refine wp_seq_k (fun gq cg => ?_)
   refine reg_seq_tail 7 (I := I3_ w bb bP) (ps := [IsV (.slice aN ad.length aO), VI ab, IsV (.tuple #[.int .i64 aj, .bool cm]), IsV (.tuple #[.int .i64 aj, .bool cm]), VI aj, VB cm, VP aa 11]) (by kernel_rfl) ?_ ?_ rfl hS ⟨bf.1, bf.2.1, (bR bP)⟩ ?_ ?_
   ·exact bs3
   ·exact .v (.v (.v (.v (.v (.v (.v (.nil)))))))
   ·refine .ms 2 rfl rfl rfl ?_
    refine .ms 3 rfl rfl rfl ?_
    refine .on rfl (fun a w hS hI hp => does_call (by kernel_rfl) (ar3 (hp.V 0 rfl rfl) (hp.V 1 rfl rfl) (rfl)) ((octets_Signed.calls k _ _ ad ab 2 aj cm _ (Kd.C_below aF hI.1) b7 hg).mono fun _ _ h => ⟨_, h.1, h.2.below, rfl⟩)) ?_
    refine .mv 2 rfl rfl rfl rfl ?_
    iterate 2 refine .on rfl (fun a w hS hI hp => does_val (x_extract rfl (hp.V 3 rfl rfl) rfl) rfl) ?_
    refine .on rfl (fun a w hS hI hp => does_val (x_fieldE (b := 0) rfl (hS.get 4 rfl) Try.underlying28 rfl rfl (by kernel_rfl)) rfl) ?_
    exact .nil
   clear hS
   intro jR kS hS cR hp
   replace hS := ((((((hS.nil).cons (hS.get 7 rfl)).cons (hS.get 6 rfl)).cons (hS.get 5 rfl)).cons (hS.get 4 rfl)).cons (hS.get 3 rfl)).cons (hS.get 2 rfl)
   have h4 : sl _ 73 = .int .i64 aj := hp 4 (by decide)
   have h5 : sl _ 75 = .pointer (some ⟨aa, 11, none⟩) := hp 6 (by decide)
   have hS := hS.cons h4
   have hS := hS.cons h5
   clear hp h4 h5
   show wpList _ _ _ [_] _ _
   refine list_step rfl (does_store (g := aa) (off := 11) (v := .int .i64 aj) (new := (body_Get.c1 ac am an ao ap aq ar au av aw ag aj aQ aK aL aM aI aD ay ak aE az al)) rfl (hS.get 0 rfl) (hS.get 1 rfl) ((cR.2.1.block aa (blk_lt ah)).trans ah) (by kernel_rfl) (by kernel_rfl) (by kernel_rfl) (by kernel_rfl)) ?_
   rintro ko gS ⟨rfl, d2, hT⟩
   have fE := hT.blk ((cR.2.1.block ai (blk_lt aS)).trans aS) af
   have fq := hT.below cR.1 ae (cR.1).size
   clear hT
   refine wpList_nil ?_
   refine cg _ _ ?_
   refine wp_seq_k (fun kF hL => ?_)
   refine reg_seq_tail 8 (I := I2_ w gS) (ps := [IsV (.slice aN ad.length aO), VI ab, VI (wrap64 (ab + 3)), IsV (.tuple #[.int .i64 ax, .bool cn]), IsV (.tuple #[.int .i64 ax, .bool cn]), VI ax, VB cn, VP aa 12]) (by kernel_rfl) ?_ ?_ rfl hS ⟨fq, (bR gS)⟩ ?_ ?_
   ·exact bs2
   ·exact .v (.v (.v (.v (.v (.v (.v (.v (.nil))))))))
   ·refine .ms 2 rfl rfl rfl ?_
    refine .ms 3 rfl rfl rfl ?_
    refine .on rfl (fun a w hS hI hp => does_val (x_bin rfl (hp.V 1 rfl rfl) (rfl) (b_add _ _ _ _ _)) rfl) ?_
    refine .on rfl (fun a w hS hI hp => does_call (by kernel_rfl) (ar3 (hp.V 0 rfl rfl) (hp.V 2 rfl rfl) (rfl)) ((octets_Get.calls k _ _ ad (wrap64 (ab + 3)) 1 ax cn _ (Kd.C_below aF hI.1) b7 hh).mono fun _ _ h => ⟨_, h.1, h.2.below, rfl⟩)) ?_
    refine .mv 3 rfl rfl rfl rfl ?_
    iterate 2 refine .on rfl (fun a w hS hI hp => does_val (x_extract rfl (hp.V 4 rfl rfl) rfl) rfl) ?_
    refine .on rfl (fun a w hS hI hp => does_val (x_fieldE (b := 0) rfl (hS.get 4 rfl) Try.underlying28 rfl rfl (by kernel_rfl)) rfl) ?_
    exact .nil
   clear hS
   intro jT kV hS cT hp
   replace hS := ((((((hS.nil).cons (hS.get 7 rfl)).cons (hS.get 6 rfl)).cons (hS.get 5 rfl)).cons (hS.get 4 rfl)).cons (hS.get 3 rfl)).cons (hS.get 2 rfl)
   have h6 : sl _ 81 = .int .i64 ax := hp 5 (by decide)
   have h7 : sl _ 83 = .pointer (some ⟨aa, 12, none⟩) := hp 7 (by decide)
   have hS := hS.cons h6
   have hS := hS.cons h7
   clear hp h6 h7
   show wpList _ _ _ [_] _ _
   refine list_step rfl (does_store (g := aa) (off := 12) (v := .int .i64 ax) (new := (body_Get.c1 ac am an ao ap aq ar au av aw ag aj ax aK aL aM aI aD ay ak aE az al)) rfl (hS.get 0 rfl) (hS.get 1 rfl) ((cT.2.block aa (blk_lt d2)).trans d2) (by kernel_rfl) (by kernel_rfl) (by kernel_rfl) (by kernel_rfl)) ?_
   rintro ij dL ⟨rfl, bI, hT⟩
   have ci := hT.blk ((cT.2.block ai (blk_lt fE)).trans fE) af
   have bM := hT.below cT.1 ae (cT.1).size
   clear hT
   refine wpList_nil ?_
   refine hL _ _ ?_
   refine wp_seq_k (fun kG hM => ?_)
   refine reg_seq_tail 8 (I := I2_ w dL) (ps := [IsV (.slice aN ad.length aO), VI ab, VI (wrap64 (ab + 4)), IsV (.tuple #[.agg #[.int .i64 aA, .int .i64 aB, .int .i64 aC], .bool co]), IsV (.tuple #[.agg #[.int .i64 aA, .int .i64 aB, .int .i64 aC], .bool co]), IsV (.agg #[.int .i64 aA, .int .i64 aB, .int .i64 aC]), VB co, VP aa 13]) (by kernel_rfl) ?_ ?_ rfl hS ⟨bM, (bR dL)⟩ ?_ ?_
   ·exact bs2
   ·exact .v (.v (.v (.v (.v (.v (.v (.v (.nil))))))))
   ·refine .ms 2 rfl rfl rfl ?_
    refine .ms 3 rfl rfl rfl ?_
    refine .on rfl (fun a w hS hI hp => does_val (x_bin rfl (hp.V 1 rfl rfl) (rfl) (b_add _ _ _ _ _)) rfl) ?_
    refine .on rfl (fun a w hS hI hp => does_call (by kernel_rfl) (ar2 (hp.V 0 rfl rfl) (hp.V 2 rfl rfl)) ((quality_Get.calls k _ _ ad (wrap64 (ab + 4)) aA aB aC co _ (Kd.C_below aF hI.1) b7 hi).mono fun _ _ h => ⟨_, h.1, h.2, rfl⟩)) ?_
    refine .mv 3 rfl rfl rfl rfl ?_
    iterate 2 refine .on rfl (fun a w hS hI hp => does_val (x_extract rfl (hp.V 4 rfl rfl) rfl) rfl) ?_
    refine .on rfl (fun a w hS hI hp => does_val (x_fieldE (b := 0) rfl (hS.get 4 rfl) Try.underlying28 rfl rfl (by kernel_rfl)) rfl) ?_
    exact .nil
   clear hS
   intro jW kX hS cU hp
   replace hS := ((((((hS.nil).cons (hS.get 7 rfl)).cons (hS.get 6 rfl)).cons (hS.get 5 rfl)).cons (hS.get 4 rfl)).cons (hS.get 3 rfl)).cons (hS.get 2 rfl)
   have h8 : sl _ 89 = .agg #[.int .i64 aA, .int .i64 aB, .int .i64 aC] := hp 5 (by decide)
   have h9 : sl _ 91 = .pointer (some ⟨aa, 13, none⟩) := hp 7 (by decide)
   have hS := hS.cons h8
   have hS := hS.cons h9
   clear hp h8 h9
   show wpList _ _ _ [_] _ _
   refine list_step rfl (does_store (g := aa) (off := 13) (v := .agg #[.int .i64 aA, .int .i64 aB, .int .i64 aC]) (new := (body_Get.c1 ac am an ao ap aq ar au av aw ag aj ax aA aB aC aI aD ay ak aE az al)) rfl (hS.get 0 rfl) (hS.get 1 rfl) ((cU.2.block aa (blk_lt bI)).trans bI) (by kernel_rfl) (by kernel_rfl) (by kernel_rfl) (by kernel_rfl)) ?_
   rintro kr gU ⟨rfl, d5, hT⟩
   have fH := hT.blk ((cU.2.block ai (blk_lt ci)).trans ci) af
   have fr := hT.below cU.1 ae (cU.1).size
   clear hT
   refine wpList_nil ?_
   refine hM _ _ ?_
   refine wp_seq_k (fun kH hN => ?_)
   refine reg_seq_tail 8 (I := I2_ w gU) (ps := [IsV (.slice aN ad.length aO), VI ab, VI (wrap64 (ab + 8)), IsV (.tuple #[.int .i64 aH, .bool cp]), IsV (.tuple #[.int .i64 aH, .bool cp]), VI aH, VB cp, VP aa 16]) (by kernel_rfl) ?_ ?_ rfl hS ⟨fr, (bR gU)⟩ ?_ ?_
   ·exact bs2
   ·exact .v (.v (.v (.v (.v (.v (.v (.v (.nil))))))))
   ·refine .ms 2 rfl rfl rfl ?_
    refine .ms 3 rfl rfl rfl ?_
    refine .on rfl (fun a w hS hI hp => does_val (x_bin rfl (hp.V 1 rfl rfl) (rfl) (b_add _ _ _ _ _)) rfl) ?_
    refine .on rfl (fun a w hS hI hp => does_call (by kernel_rfl) (ar3 (hp.V 0 rfl rfl) (hp.V 2 rfl rfl) (rfl)) ((octets_Get.calls k _ _ ad (wrap64 (ab + 8)) 1 aH cp _ (Kd.C_below aF hI.1) b7 hj).mono fun _ _ h => ⟨_, h.1, h.2.below, rfl⟩)) ?_
    refine .mv 3 rfl rfl rfl rfl ?_
    iterate 2 refine .on rfl (fun a w hS hI hp => does_val (x_extract rfl (hp.V 4 rfl rfl) rfl) rfl) ?_
    refine .on rfl (fun a w hS hI hp => does_val (x_fieldE (b := 0) rfl (hS.get 4 rfl) Try.underlying28 rfl rfl (by kernel_rfl)) rfl) ?_
    exact .nil
   clear hS
   intro jX kY hS cV hp
   replace hS := ((((((hS.nil).cons (hS.get 7 rfl)).cons (hS.get 6 rfl)).cons (hS.get 5 rfl)).cons (hS.get 4 rfl)).cons (hS.get 3 rfl)).cons (hS.get 2 rfl)
   have ia : sl _ 97 = .int .i64 aH := hp 5 (by decide)
   have ib : sl _ 99 = .pointer (some ⟨aa, 16, none⟩) := hp 7 (by decide)
   have hS := hS.cons ia
   have hS := hS.cons ib
   clear hp ia ib
   show wpList _ _ _ [_] _ _
   refine list_step rfl (does_store (g := aa) (off := 16) (v := .int .i64 aH) (new := (body_Get.c1 ac am an ao ap aq ar au av aw ag aj ax aA aB aC aH aD ay ak aE az al)) rfl (hS.get 0 rfl) (hS.get 1 rfl) ((cV.2.block aa (blk_lt d5)).trans d5) (by kernel_rfl) (by kernel_rfl) (by kernel_rfl) (by kernel_rfl)) ?_
   rintro ks gV ⟨rfl, d6, hT⟩
   have fI := hT.blk ((cV.2.block ai (blk_lt fH)).trans fH) af
   have fs := hT.below cV.1 ae (cV.1).size
   clear hT
   refine wpList_nil ?_
   refine hN _ _ ?_
   refine wp_seq_k (fun kI hO => ?_)
   refine reg_seq_tail 8 (I := I2_ w gV) (ps := [IsV (.slice aN ad.length aO), VI ab, VI (wrap64 (ab + 9)), IsV (.tuple #[.int .u64 aJ, .bool cq]), IsV (.tuple #[.int .u64 aJ, .bool cq]), IsV (.int .u64 aJ), VB cq, VP aa 17]) (by kernel_rfl) ?_ ?_ rfl hS ⟨fs, (bR gV)⟩ ?_ ?_
   ·exact bs2
   ·exact .v (.v (.v (.v (.v (.v (.v (.v (.nil))))))))
   ·refine .ms 2 rfl rfl rfl ?_
    refine .ms 3 rfl rfl rfl ?_
    refine .on rfl (fun a w hS hI hp => does_val (x_bin rfl (hp.V 1 rfl rfl) (rfl) (b_add _ _ _ _ _)) rfl) ?_
    refine .on rfl (fun a w hS hI hp => does_call (by kernel_rfl) (ar2 (hp.V 0 rfl rfl) (hp.V 2 rfl rfl)) ((octets_GetId.calls k _ _ ad (wrap64 (ab + 9)) aJ cq _ (Kd.C_below aF hI.1) b7 hk).mono fun _ _ h => ⟨_, h.1, h.2.below, rfl⟩)) ?_
    refine .mv 3 rfl rfl rfl rfl ?_
    iterate 2 refine .on rfl (fun a w hS hI hp => does_val (x_extract rfl (hp.V 4 rfl rfl) rfl) rfl) ?_
    refine .on rfl (fun a w hS hI hp => does_val (x_fieldE (b := 0) rfl (hS.get 4 rfl) Try.underlying28 rfl rfl (by kernel_rfl)) rfl) ?_
    exact .nil
   clear hS
   intro jY kZ hS cW hp
   replace hS := ((((((hS.nil).cons (hS.get 7 rfl)).cons (hS.get 6 rfl)).cons (hS.get 5 rfl)).cons (hS.get 4 rfl)).cons (hS.get 3 rfl)).cons (hS.get 2 rfl)
   have gG : sl _ 105 = .int .u64 aJ := hp 5 (by decide)
   have gH : sl _ 107 = .pointer (some ⟨aa, 17, none⟩) := hp 7 (by decide)
   have hS := hS.cons gG
   have hS := hS.cons gH
   clear hp gG gH
   show wpList _ _ _ [_] _ _
   refine list_step rfl (does_store (g := aa) (off := 17) (v := .int .u64 aJ) (new := (body_Get.c1 ac am an ao ap aq ar au av aw ag aj ax aA aB aC aH aJ ay ak aE az al)) rfl (hS.get 0 rfl) (hS.get 1 rfl) ((cW.2.block aa (blk_lt d6)).trans d6) (by kernel_rfl) (by kernel_rfl) (by kernel_rfl) (by kernel_rfl)) ?_
   rintro kt gW ⟨rfl, d7, hT⟩
   have fJ := hT.blk ((cW.2.block ai (blk_lt fI)).trans fI) af
   have ft := hT.below cW.1 ae (cW.1).size
   clear hT
   refine wpList_nil ?_
   refine hO _ _ ?_
   refine wp_seq_k (fun kJ hP => ?_)
   refine reg_seq_tail 8 (I := I2_ w gW) (ps := [IsV (.slice aN ad.length aO), VI ab, VI (wrap64 (ab + 17)), IsV (.tuple #[.int .i64 aP, .bool cr]), IsV (.tuple #[.int .i64 aP, .bool cr]), VI aP, VB cr, VP aa 18]) (by kernel_rfl) ?_ ?_ rfl hS ⟨ft, (bR gW)⟩ ?_ ?_
   ·exact bs2
   ·exact .v (.v (.v (.v (.v (.v (.v (.v (.nil))))))))
   ·refine .ms 2 rfl rfl rfl ?_
    refine .ms 3 rfl rfl rfl ?_
    refine .on rfl (fun a w hS hI hp => does_val (x_bin rfl (hp.V 1 rfl rfl) (rfl) (b_add _ _ _ _ _)) rfl) ?_
    refine .on rfl (fun a w hS hI hp => does_call (by kernel_rfl) (ar3 (hp.V 0 rfl rfl) (hp.V 2 rfl rfl) (rfl)) ((octets_Get.calls k _ _ ad (wrap64 (ab + 17)) 2 aP cr _ (Kd.C_below aF hI.1) b7 hl).mono fun _ _ h => ⟨_, h.1, h.2.below, rfl⟩)) ?_
    refine .mv 3 rfl rfl rfl rfl ?_
    iterate 2 refine .on rfl (fun a w hS hI hp => does_val (x_extract rfl (hp.V 4 rfl rfl) rfl) rfl) ?_
    refine .on rfl (fun a w hS hI hp => does_val (x_fieldE (b := 0) rfl (hS.get 4 rfl) Try.underlying28 rfl rfl (by kernel_rfl)) rfl) ?_
    exact .nil
   clear hS
   intro jZ k0 hS cX hp
   replace hS := ((((((hS.nil).cons (hS.get 7 rfl)).cons (hS.get 6 rfl)).cons (hS.get 5 rfl)).cons (hS.get 4 rfl)).cons (hS.get 3 rfl)).cons (hS.get 2 rfl)
   have gI : sl _ 113 = .int .i64 aP := hp 5 (by decide)
   have gJ : sl _ 115 = .pointer (some ⟨aa, 18, none⟩) := hp 7 (by decide)
   have hS := hS.cons gI
   have hS := hS.cons gJ
   clear hp gI gJ
   show wpList _ _ _ [_] _ _
   refine list_step rfl (does_store (g := aa) (off := 18) (v := .int .i64 aP) (new := (body_Get.c1 ac am an ao ap aq ar au av aw ag aj ax aA aB aC aH aJ aP ak aE az al)) rfl (hS.get 0 rfl) (hS.get 1 rfl) ((cX.2.block aa (blk_lt d7)).trans d7) (by kernel_rfl) (by kernel_rfl) (by kernel_rfl) (by kernel_rfl)) ?_
   rintro ku gX ⟨rfl, d8, hT⟩
   have fK := hT.blk ((cX.2.block ai (blk_lt fJ)).trans fJ) af
   have fu := hT.below cX.1 ae (cX.1).size
   clear hT
   refine wpList_nil ?_
   refine hP _ _ ?_
   refine reg_seq_tail 8 (I := I2_ w gX) (ps := [IsV (.slice aN ad.length aO), VI ab, VI (wrap64 (ab + 19)), IsV (.tuple #[.int .i64 aU, .bool ct]), IsV (.tuple #[.int .i64 aU, .bool ct]), VI aU, VB ct, VP aa 19]) (by kernel_rfl) ?_ ?_ rfl hS ⟨fu, (bR gX)⟩ ?_ ?_
   ·exact bs2
   ·exact .v (.v (.v (.v (.v (.v (.v (.v (.nil))))))))
   ·refine .ms 2 rfl rfl rfl ?_
    refine .ms 3 rfl rfl rfl ?_
    refine .on rfl (fun a w hS hI hp => does_val (x_bin rfl (hp.V 1 rfl rfl) (rfl) (b_add _ _ _ _ _)) rfl) ?_
    refine .on rfl (fun a w hS hI hp => does_call (by kernel_rfl) (ar3 (hp.V 0 rfl rfl) (hp.V 2 rfl rfl) (rfl)) ((octets_Get.calls k _ _ ad (wrap64 (ab + 19)) 1 aU ct _ (Kd.C_below aF hI.1) b7 hm).mono fun _ _ h => ⟨_, h.1, h.2.below, rfl⟩)) ?_
    refine .mv 3 rfl rfl rfl rfl ?_
    iterate 2 refine .on rfl (fun a w hS hI hp => does_val (x_extract rfl (hp.V 4 rfl rfl) rfl) rfl) ?_
    refine .on rfl (fun a w hS hI hp => does_val (x_fieldE (b := 0) rfl (hS.get 4 rfl) Try.underlying28 rfl rfl (by kernel_rfl)) rfl) ?_
    exact .nil
   clear hS
   intro j0 k1 hS cY hp
   replace hS := ((((hS.nil).cons (hS.get 7 rfl)).cons (hS.get 6 rfl)).cons (hS.get 5 rfl)).cons (hS.get 4 rfl)
   have gK : sl _ 121 = .int .i64 aU := hp 5 (by decide)
   have gL : sl _ 123 = .pointer (some ⟨aa, 19, none⟩) := hp 7 (by decide)
   have hS := hS.cons gK
   have hS := hS.cons gL
   clear hp gK gL
   show wpList _ _ _ [_] _ _
   refine list_step rfl (does_store (g := aa) (off := 19) (v := .int .i64 aU) (new := (body_Get.c1 ac am an ao ap aq ar au av aw ag aj ax aA aB aC aH aJ aP aU aE az al)) rfl (hS.get 0 rfl) (hS.get 1 rfl) ((cY.2.block aa (blk_lt d8)).trans d8) (by kernel_rfl) (by kernel_rfl) (by kernel_rfl) (by kernel_rfl)) ?_
   rintro kv gY ⟨rfl, d9, hT⟩
   have fL := hT.blk ((cY.2.block ai (blk_lt fK)).trans fK) af
   have fv := hT.below cY.1 ae (cY.1).size
   clear hT
   refine wpList_nil ?_
   replace hS := ((((hS.nil).cons (hS.get 5 rfl)).cons (hS.get 4 rfl)).cons (hS.get 3 rfl)).cons (hS.get 2 rfl)
   (try simp only [Exit.then, Exit.inBlock])
   exact J4 _ _ ac am an ao ap aq ar au av aw ag aj ax aA aB aC aH aJ aP aU aE az al aa bV bW bX bY bZ b0 b1 b2 b3 b4 bs bt bu bv bw bx bz bA bB bC bD bE bG ai dc cu H hS fv ae (((bR gY).block aa (blk_lt d9)).trans d9) ch (((bR gY).block ai (blk_lt fL)).trans fL) af
  obtain ⟨ff, iN, H⟩ := Option.bind_eq_some_iff.mp H
  by_cases c1 : ff = true
  rotate_left
  ·rw [if_neg c1] at H
   refine wp_seq_k (fun ky hD => ?_)
   refine reg_seq (I := I2_ w gZ) (ps := [VP bL 0, VI cv, VB ff]) (by kernel_rfl) ?_ ?_ rfl hS ⟨it, (bR gZ)⟩ ?_ ?_
   ·exact bs2
   ·exact .v (.v (.v (.nil)))
   ·refine .on rfl (fun a w hS hI hp => does_val (x_fieldE (b := 0) rfl (hS.get 2 rfl) Try.underlying28 rfl rfl (by kernel_rfl)) rfl) ?_
    refine .on rfl (fun a w hS hI hp => does_val (x_load1 (d := .int .i64) rfl (hp.V 0 rfl rfl) (by kernel_rfl) rfl ((blk_cell (((hI.2).block bL (blk_lt b5)).trans b5) 0).trans rfl)) rfl) ?_
    refine .on rfl (fun a w hS hI hp => does_call (by kernel_rfl) (ar1 (hp.V 1 rfl rfl)) ((body_targeted.calls cv ff _  iN).mono fun _ _ h => ⟨_, h.1, h.2.below, rfl⟩)) ?_
    exact .nil
   clear hS
   intro jI iI hS eC hp
   have ee : sl _ 55 = .bool ff := hp 2 (by decide)
   have hS := hS.cons ee
   clear hp ee
   refine hD _ _ ?_
   refine wp_cond_false ((hS.get 0 rfl).trans (bF (Bool.eq_false_iff.2 c1))) ?_
   refine wp_skip ?_
   replace hS := ((((((hS.nil).cons (hS.get 6 rfl)).cons (hS.get 5 rfl)).cons (hS.get 4 rfl)).cons (hS.get 3 rfl)).cons (hS.get 2 rfl)).cons (hS.get 1 rfl)
   (try simp only [Exit.then, Exit.inBlock])
   exact J3 _ _ ey ge gf db cv eE eF eG eH eI eJ eK eL g2 gk dM dN dO dP dQ dR dS dT dU dV dW dX bL fU fV fW fX fY fZ f0 f1 f2 f3 eM eN eO eP eQ eR eS eT eU eV eW eX eY dr ip g1 H hS eC.1 iA (hW) fB ((eC.2.block bL (blk_lt b5)).trans b5) g8 ((eC.2.block dr (blk_lt ev)).trans ev) fM
  rw [if_pos c1] at H
  obtain ⟨kL, jB, H⟩ := Option.bind_eq_some_iff.mp H
  obtain ⟨cz, cA, gh⟩ := kL
  (try dsimp only at H)
  refine wp_seq_k (fun ky hD => ?_)
  refine reg_seq (I := I2_ w gZ) (ps := [VP bL 0, VI cv, VB ff]) (by kernel_rfl) ?_ ?_ rfl hS ⟨it, (bR gZ)⟩ ?_ ?_
  ·exact bs2
  ·exact .v (.v (.v (.nil)))
  ·refine .on rfl (fun a w hS hI hp => does_val (x_fieldE (b := 0) rfl (hS.get 2 rfl) Try.underlying28 rfl rfl (by kernel_rfl)) rfl) ?_
   refine .on rfl (fun a w hS hI hp => does_val (x_load1 (d := .int .i64) rfl (hp.V 0 rfl rfl) (by kernel_rfl) rfl ((blk_cell (((hI.2).block bL (blk_lt b5)).trans b5) 0).trans rfl)) rfl) ?_
   refine .on rfl (fun a w hS hI hp => does_call (by kernel_rfl) (ar1 (hp.V 1 rfl rfl)) ((body_targeted.calls cv ff _  iN).mono fun _ _ h => ⟨_, h.1, h.2.below, rfl⟩)) ?_
   exact .nil
  clear hS
  intro jI iI hS eC hp
  have ee : sl _ 55 = .bool ff := hp 2 (by decide)
  have hS := hS.cons ee
  clear hp ee
  refine hD _ _ ?_
  refine wp_cond_true ((hS.get 0 rfl).trans (bT c1)) ?_
  refine wp_seq_k (fun lr kb => ?_)
  refine reg_seq_tail 7 (I := I3_ w gZ iI) (ps := [IsV (.slice ge ey.length gf), VI db, IsV (.tuple #[.agg #[.int .u64 cz, .int .i64 cA], .bool gh]), IsV (.tuple #[.agg #[.int .u64 cz, .int .i64 cA], .bool gh]), IsV (.agg #[.int .u64 cz, .int .i64 cA]), VB gh, VP bL 9]) (by kernel_rfl) ?_ ?_ rfl hS ⟨eC.1, eC.2, (bR iI)⟩ ?_ ?_
  ·exact bs3
  ·exact .v (.v (.v (.v (.v (.v (.v (.nil)))))))
  ·refine .ms 1 rfl rfl rfl ?_
   refine .ms 2 rfl rfl rfl ?_
   refine .on rfl (fun a w hS hI hp => does_call (by kernel_rfl) (ar2 (hp.V 0 rfl rfl) (hp.V 1 rfl rfl)) ((ident_Get.calls k _ _ ey db cz cA gh _ (Kd.C_below hW hI.1) iA jB).mono fun _ _ h => ⟨_, h.1, h.2, rfl⟩)) ?_
   refine .mv 2 rfl rfl rfl rfl ?_
   iterate 2 refine .on rfl (fun a w hS hI hp => does_val (x_extract rfl (hp.V 3 rfl rfl) rfl) rfl) ?_
   refine .on rfl (fun a w hS hI hp => does_val (x_fieldE (b := 0) rfl (hS.get 3 rfl) Try.underlying28 rfl rfl (by kernel_rfl)) rfl) ?_
   exact .nil
  clear hS
  intro ld lu hS gO hp
  replace hS := ((((((hS.nil).cons (hS.get 6 rfl)).cons (hS.get 5 rfl)).cons (hS.get 4 rfl)).cons (hS.get 3 rfl)).cons (hS.get 2 rfl)).cons (hS.get 1 rfl)
  have h1 : sl _ 60 = .agg #[.int .u64 cz, .int .i64 cA] := hp 4 (by decide)
  have h2 : sl _ 62 = .pointer (some ⟨bL, 9, none⟩) := hp 6 (by decide)
  have hS := hS.cons h1
  have hS := hS.cons h2
  clear hp h1 h2
  show wpList _ _ _ [_] _ _
  refine list_step rfl (does_store (g := bL) (off := 9) (v := .agg #[.int .u64 cz, .int .i64 cA]) (new := (body_Get.c1 cv eE eF eG eH eI eJ eK eL cz cA dM dN dO dP dQ dR dS dT dU dV dW dX)) rfl (hS.get 0 rfl) (hS.get 1 rfl) ((gO.2.1.block bL (blk_lt b5)).trans b5) (by kernel_rfl) (by kernel_rfl) (by kernel_rfl) (by kernel_rfl)) ?_
  rintro lo jr ⟨rfl, hR, hT⟩
  have iY := hT.blk ((gO.2.1.block dr (blk_lt ev)).trans ev) fM
  have iQ := hT.below gO.1 fB (gO.1).size
  clear hT
  refine wpList_nil ?_
  refine kb _ _ ?_
  refine reg_seq_tail 2 (I := I2_ w jr) (ps := [VI db, VI (wrap64 (db + 10))]) (by kernel_rfl) ?_ ?_ rfl hS ⟨iQ, (bR jr)⟩ ?_ ?_
  ·exact bs2
  ·exact .v (.v (.nil))
  ·refine .ms 3 rfl rfl rfl ?_
   refine .on rfl (fun a w hS hI hp => does_val (x_bin rfl (hp.V 0 rfl rfl) (rfl) (b_add _ _ _ _ _)) rfl) ?_
   exact .nil
  clear hS
  intro le kO hS i0 hp
  replace hS := ((((((hS.nil).cons (hS.get 7 rfl)).cons (hS.get 6 rfl)).cons (hS.get 5 rfl)).cons (hS.get 4 rfl)).cons (hS.get 3 rfl)).cons (hS.get 2 rfl)
  have h3 : sl _ 64 = .int .i64 (wrap64 (db + 10)) := hp 1 (by decide)
  have hS := hS.cons h3
  clear hp h3
  show wpList _ _ _ [_] _ _
  refine list_step rfl (R := fun v w' => Below _ _ w' ∧ (VI (wrap64 (db + 10))) v w') (does_val (x_assign rfl (hS.get 0 rfl)) rfl) ?_
  rintro ki lv ⟨hb, he⟩
  have iR := below_step i0.1 hb
  have fi := below_step i0.2 hb
  have jx := below_step (bR kO) hb
  obtain rfl : ki = .int .i64 (wrap64 (db + 10)) := he
  replace hS := ((((((hS.nil).cons (hS.get 6 rfl)).cons (hS.get 5 rfl)).cons (hS.get 4 rfl)).cons (hS.get 3 rfl)).cons (hS.get 1 rfl)).cons (hS.get 0 rfl)
  refine hS.next (v := .int .i64 (wrap64 (db + 10))) (d := 2) rfl (by decide) (by rfl) ?_
  clear hS
  intro lf hS
  refine wpList_nil ?_
  replace hS := ((((((hS.nil).cons (hS.get 6 rfl)).cons (hS.get 5 rfl)).cons (hS.get 4 rfl)).cons (hS.get 3 rfl)).cons (hS.get 0 rfl)).cons (hS.get 2 rfl)
  (try simp only [Exit.then, Exit.inBlock])
  exact J3 _ _ ey ge gf (wrap64 (db + 10)) cv eE eF eG eH eI eJ eK eL cz cA dM dN dO dP dQ dR dS dT dU dV dW dX bL fU fV fW fX fY fZ f0 f1 f2 f3 eM eN eO eP eQ eR eS eT eU eV eW eX eY dr ip g1 H hS iR iA (hW) fB ((fi.block bL (blk_lt hR)).trans hR) g8 ((fi.block dr (blk_lt iY)).trans iY) fM
 obtain ⟨ba, iw, H⟩ := Option.bind_eq_some_iff.mp H
 by_cases c1 : a2 < 0
 ·rw [if_pos c1] at H
  simp only [Option.some.injEq, Prod.mk.injEq] at H
  obtain ⟨rfl, rfl, rfl, rfl, rfl, rfl, rfl, rfl, rfl, rfl, rfl, rfl, rfl, rfl, rfl, rfl, rfl, rfl, rfl, rfl, rfl, rfl, rfl, rfl, rfl⟩ := H
  refine wp_seq_k (fun jE gl => ?_)
  refine reg_seq (I := I4_ w w3 w5 g9) (ps := [VI a2, VP g4 0, VI cb, VI ba, VI a2, VI ba, VB true]) (by kernel_rfl) ?_ ?_ rfl hS ⟨gg, fd, fe, (bR g9)⟩ ?_ ?_
  ·exact bs4
  ·exact .v (.v (.v (.v (.v (.v (.v (.nil)))))))
  ·refine .ms 5 rfl rfl rfl ?_
   refine .on rfl (fun a w hS hI hp => does_val (x_fieldE (b := 0) rfl (hS.get 3 rfl) Try.underlying28 rfl rfl (by kernel_rfl)) rfl) ?_
   refine .on rfl (fun a w hS hI hp => does_val (x_load1 (d := .int .i64) rfl (hp.V 1 rfl rfl) (by kernel_rfl) rfl ((blk_cell (((hI.2.1).block g4 (blk_lt bq)).trans bq) 0).trans rfl)) rfl) ?_
   refine .on rfl (fun a w hS hI hp => does_call (by kernel_rfl) (ar1 (hp.V 2 rfl rfl)) ((body_Len.calls k cb ba _  iw).mono fun _ _ h => ⟨_, h.1, h.2.below, rfl⟩)) ?_
   refine .asg 0 rfl rfl rfl rfl ?_
   refine .asg 3 rfl rfl rfl rfl ?_
   refine .on rfl (fun a w hS hI hp => does_val (x_assign rfl (rfl)) rfl) ?_
   exact .nil
  clear hS
  intro jj fT hS cx hp
  replace hS := ((((hS.nil).cons (hS.get 5 rfl)).cons (hS.get 4 rfl)).cons (hS.get 3 rfl)).cons (hS.get 2 rfl)
  have fQ : sl _ 9 = .int .i64 a2 := hp 4 (by decide)
  have ec : sl _ 10 = .int .i64 ba := hp 5 (by decide)
  have hS := hS.cons fQ
  have hS := hS.cons ec
  clear hp fQ ec
  refine gl _ _ ?_
  refine wp_seq_k (fun jF iy => ?_)
  refine wp_seq_k (fun jG gm => ?_)
  refine reg_seq (I := I4_ w w3 w5 fT) (ps := [VI a2, VB (decide (a2 < 0)), VB (decide (a2 < 0)), VU, VU, VU, VU, VB true, VB true, VU, VU, VU, VU, VU, VU, VB true]) (by kernel_rfl) ?_ ?_ rfl hS ⟨cx.1, cx.2.1, cx.2.2.1, (bR fT)⟩ ?_ ?_
  ·exact bs4
  ·exact .v (.v (.v (.v (.v (.v (.v (.v (.v (.v (.v (.v (.v (.v (.v (.v (.nil))))))))))))))))
  ·refine .ms 5 rfl rfl rfl ?_
   refine .on rfl (fun a w hS hI hp => does_val (x_bin rfl (hp.V 0 rfl rfl) (rfl) (b_lss _ _ _ _ _ _)) rfl) ?_
   refine .mv 1 rfl rfl rfl rfl ?_
   iterate 4 refine .sn 2 18 rfl rfl rfl rfl rfl ((decide_eq_true c1)) ?_
   refine .on rfl (fun a w hS hI hp => does_val (x_pickT rfl ((hp.V 2 rfl rfl).trans (bT (decide_eq_true c1))) (rfl)) rfl) ?_
   refine .mv 7 rfl rfl rfl rfl ?_
   iterate 6 refine .sn 8 24 rfl rfl rfl rfl rfl rfl ?_
   refine .on rfl (fun a w hS hI hp => does_val (x_pickT rfl ((hp.V 8 rfl rfl).trans (bT rfl)) (rfl)) rfl) ?_
   exact .nil
  clear hS
  intro jk eg hS bQ hp
  have ed : sl _ 31 = .bool true := hp 15 (by decide)
  have hS := hS.cons ed
  clear hp ed
  refine gm _ _ ?_
  refine wp_cond_true ((hS.get 0 rfl).trans (bT rfl)) ?_
  refine wp_seq_k (fun jn fz => ?_)
  refine reg_seq_tail 1 (I := I4_ w w3 w5 eg) (ps := [IsV ((body_Get.v0 0 0 0 0 0 0 0 0 0 0 0 0 0 0 0 0 0 0 0 0 0 0 0))]) (by kernel_rfl) ?_ ?_ rfl hS ⟨bQ.1, bQ.2.1, bQ.2.2.1, (bR eg)⟩ ?_ ?_
  ·exact bs4
  ·exact .v (.nil)
  ·refine .on rfl (fun a w hS hI hp => does_val (x_build (vs := []) rfl (by rw [Array.toList_map]; exact (show [] = _ from rfl)) (by kernel_rfl)) rfl) ?_
   exact .nil
  clear hS
  intro jO k7 hS cl hp
  replace hS := (hS.nil).cons (hS.get 3 rfl)
  have fO : sl _ 32 = (body_Get.v0 0 0 0 0 0 0 0 0 0 0 0 0 0 0 0 0 0 0 0 0 0 0 0) := hp 0 (by decide)
  have hS := hS.cons fO
  clear hp fO
  show wpList _ _ _ [_, _, _] _ _
  refine list_step rfl (does_storeAll (g := g6) (cs := (body_Get.c1 0 0 0 0 0 0 0 0 0 0 0 0 0 0 0 0 0 0 0 0 0 0 0)) rfl (hS.get 1 rfl) (hS.get 0 rfl) ((cl.2.2.1.block g6 (blk_lt cw)).trans cw) (by kernel_rfl) (by kernel_rfl) (by kernel_rfl)) ?_
  rintro kn iv ⟨rfl, dz, hT⟩
  have ez := hT.below cl.1 (Nat.le_trans (ic).size ds) (cl.1).size
  have d0 := hT.below cl.2.1 ds (cl.2.1).size
  clear hT
  refine list_step rfl (R := fun v w' => Below _ _ w' ∧ (VI 0) v w') (does_val (x_assign rfl (rfl)) rfl) ?_
  rintro ig io ⟨hb, he⟩
  have eA := below_step ez hb
  have d1 := below_step d0 hb
  have du := below_step (bR iv) hb
  obtain rfl : ig = .int .i64 0 := he
  refine hS.next (v := .int .i64 0) (d := 7) rfl (by decide) (by rfl) ?_
  clear hS
  intro jP hS
  refine list_step rfl (R := fun v w' => Below _ _ w' ∧ (VI 2) v w') (does_val (x_assign rfl (rfl)) rfl) ?_
  rintro ih k8 ⟨hb, he⟩
  have eB := below_step eA hb
  have hB := below_step d1 hb
  have dv := below_step du hb
  have g7 := below_step (bR io) hb
  obtain rfl : ih = .int .i64 2 := he
  refine hS.next (v := .int .i64 2) (d := 8) rfl (by decide) (by rfl) ?_
  clear hS
  intro jQ hS
  refine wpList_nil ?_
  refine fz _ _ ?_
  refine wp_ret ?_
  (try simp only [Exit.then, Exit.inBlock, Exit.jump, Exit.noGoto])
  exact bodyPost_ret (v := .tuple #[(body_Get.v0 0 0 0 0 0 0 0 0 0 0 0 0 0 0 0 0 0 0 0 0 0 0 0), .int .i64 0, .int .i64 2]) (results_list (rs := [.cell 6 28, .tmp 7, .tmp 8]) rfl (by simp) (Vals.cell g6 28 (body_Get.c1 0 0 0 0 0 0 0 0 0 0 0 0 0 0 0 0 0 0 0 0 0 0 0) (0, 0) _ (hS.get 3 rfl) ((dv.block g6 (blk_lt dz)).trans dz) Try.underlying28 rfl (by kernel_rfl) (Vals.at (hS.get 1 rfl) (Vals.at (hS.get 0 rfl) .nil)))) hS.nodef ⟨rfl, eB⟩
 rw [if_neg c1] at H
 by_cases c2 : a2 > (l1.length : Int)
 ·rw [if_pos c2] at H
  simp only [Option.some.injEq, Prod.mk.injEq] at H
  obtain ⟨rfl, rfl, rfl, rfl, rfl, rfl, rfl, rfl, rfl, rfl, rfl, rfl, rfl, rfl, rfl, rfl, rfl, rfl, rfl, rfl, rfl, rfl, rfl, rfl, rfl⟩ := H
  refine wp_seq_k (fun jE gl => ?_)
  refine reg_seq (I := I4_ w w3 w5 g9) (ps := [VI a2, VP g4 0, VI cb, VI ba, VI a2, VI ba, VB true]) (by kernel_rfl) ?_ ?_ rfl hS ⟨gg, fd, fe, (bR g9)⟩ ?_ ?_
  ·exact bs4
  ·exact .v (.v (.v (.v (.v (.v (.v (.nil)))))))
  ·refine .ms 5 rfl rfl rfl ?_
   refine .on rfl (fun a w hS hI hp => does_val (x_fieldE (b := 0) rfl (hS.get 3 rfl) Try.underlying28 rfl rfl (by kernel_rfl)) rfl) ?_
   refine .on rfl (fun a w hS hI hp => does_val (x_load1 (d := .int .i64) rfl (hp.V 1 rfl rfl) (by kernel_rfl) rfl ((blk_cell (((hI.2.1).block g4 (blk_lt bq)).trans bq) 0).trans rfl)) rfl) ?_
   refine .on rfl (fun a w hS hI hp => does_call (by kernel_rfl) (ar1 (hp.V 2 rfl rfl)) ((body_Len.calls k cb ba _  iw).mono fun _ _ h => ⟨_, h.1, h.2.below, rfl⟩)) ?_
   refine .asg 0 rfl rfl rfl rfl ?_
   refine .asg 3 rfl rfl rfl rfl ?_
   refine .on rfl (fun a w hS hI hp => does_val (x_assign rfl (rfl)) rfl) ?_
   exact .nil
  clear hS
  intro jj fT hS cx hp
  replace hS := ((((hS.nil).cons (hS.get 5 rfl)).cons (hS.get 4 rfl)).cons (hS.get 3 rfl)).cons (hS.get 2 rfl)
  have fQ : sl _ 9 = .int .i64 a2 := hp 4 (by decide)
  have ec : sl _ 10 = .int .i64 ba := hp 5 (by decide)
  have hS := hS.cons fQ
  have hS := hS.cons ec
  clear hp fQ ec
  refine gl _ _ ?_
  refine wp_seq_k (fun jF iy => ?_)
  refine wp_seq_k (fun jG gm => ?_)
  refine reg_seq (I := I4_ w w3 w5 fT) (ps := [VI a2, VB (decide (a2 < 0)), VB (decide (a2 < 0)), VI a2, IsV (.slice A1 l1.length gE), VI (l1.length : Int), VB (decide (a2 > (l1.length : Int))), VB (decide (a2 > (l1.length : Int))), VB (decide (a2 > (l1.length : Int))), VU, VU, VU, VU, VU, VU, VB true]) (by kernel_rfl) ?_ ?_ rfl hS ⟨cx.1, cx.2.1, cx.2.2.1, (bR fT)⟩ ?_ ?_
  ·exact bs4
  ·exact .v (.v (.v (.v (.v (.v (.v (.v (.v (.v (.v (.v (.v (.v (.v (.v (.nil))))))))))))))))
  ·refine .ms 5 rfl rfl rfl ?_
   refine .on rfl (fun a w hS hI hp => does_val (x_bin rfl (hp.V 0 rfl rfl) (rfl) (b_lss _ _ _ _ _ _)) rfl) ?_
   refine .mv 1 rfl rfl rfl rfl ?_
   refine .oy 2 18 rfl rfl rfl rfl rfl ((decide_eq_false c1)) (fun a w hS hI hp => does_val (x_move rfl (hS.get 5 rfl)) rfl) ?_
   refine .oy 2 18 rfl rfl rfl rfl rfl ((decide_eq_false c1)) (fun a w hS hI hp => does_val (x_move rfl (hS.get 4 rfl)) rfl) ?_
   refine .oy 2 18 rfl rfl rfl rfl rfl ((decide_eq_false c1)) (fun a w hS hI hp => does_val (x_len (e := 5) rfl (by kernel_rfl) (hp.V 4 rfl rfl)) rfl) ?_
   refine .oy 2 18 rfl rfl rfl rfl rfl ((decide_eq_false c1)) (fun a w hS hI hp => does_val (x_bin rfl (hp.V 3 rfl rfl) (hp.V 5 rfl rfl) (b_gtr _ _ _ _ _ _)) rfl) ?_
   refine .on rfl (fun a w hS hI hp => does_val (x_pickF rfl ((hp.V 2 rfl rfl).trans (bF (decide_eq_false c1))) (hp.V 6 rfl rfl)) rfl) ?_
   refine .mv 7 rfl rfl rfl rfl ?_
   iterate 6 refine .sn 8 24 rfl rfl rfl rfl rfl ((decide_eq_true c2)) ?_
   refine .on rfl (fun a w hS hI hp => does_val (x_pickT rfl ((hp.V 8 rfl rfl).trans (bT (decide_eq_true c2))) (rfl)) rfl) ?_
   exact .nil
  clear hS
  intro jk eg hS bQ hp
  have ed : sl _ 31 = .bool true := hp 15 (by decide)
  have hS := hS.cons ed
  clear hp ed
  refine gm _ _ ?_
  refine wp_cond_true ((hS.get 0 rfl).trans (bT rfl)) ?_
  refine wp_seq_k (fun jn fz => ?_)
  refine reg_seq_tail 1 (I := I4_ w w3 w5 eg) (ps := [IsV ((body_Get.v0 0 0 0 0 0 0 0 0 0 0 0 0 0 0 0 0 0 0 0 0 0 0 0))]) (by kernel_rfl) ?_ ?_ rfl hS ⟨bQ.1, bQ.2.1, bQ.2.2.1, (bR eg)⟩ ?_ ?_
  ·exact bs4
  ·exact .v (.nil)
  ·refine .on rfl (fun a w hS hI hp => does_val (x_build (vs := []) rfl (by rw [Array.toList_map]; exact (show [] = _ from rfl)) (by kernel_rfl)) rfl) ?_
   exact .nil
  clear hS
  intro jO k7 hS cl hp
  replace hS := (hS.nil).cons (hS.get 3 rfl)
  have fO : sl _ 32 = (body_Get.v0 0 0 0 0 0 0 0 0 0 0 0 0 0 0 0 0 0 0 0 0 0 0 0) := hp 0 (by decide)
  have hS := hS.cons fO
  clear hp fO
  show wpList _ _ _ [_, _, _] _ _
  refine list_step rfl (does_storeAll (g := g6) (cs := (body_Get.c1 0 0 0 0 0 0 0 0 0 0 0 0 0 0 0 0 0 0 0 0 0 0 0)) rfl (hS.get 1 rfl) (hS.get 0 rfl) ((cl.2.2.1.block g6 (blk_lt cw)).trans cw) (by kernel_rfl) (by kernel_rfl) (by kernel_rfl)) ?_
  rintro kn iv ⟨rfl, dz, hT⟩
  have ez := hT.below cl.1 (Nat.le_trans (ic).size ds) (cl.1).size
  have d0 := hT.below cl.2.1 ds (cl.2.1).size
  clear hT
  refine list_step rfl (R := fun v w' => Below _ _ w' ∧ (VI 0) v w') (does_val (x_assign rfl (rfl)) rfl) ?_
  rintro ig io ⟨hb, he⟩
  have eA := below_step ez hb
  have d1 := below_step d0 hb
  have du := below_step (bR iv) hb
  obtain rfl : ig = .int .i64 0 := he
  refine hS.next (v := .int .i64 0) (d := 7) rfl (by decide) (by rfl) ?_
  clear hS
  intro jP hS
  refine list_step rfl (R := fun v w' => Below _ _ w' ∧ (VI 2) v w') (does_val (x_assign rfl (rfl)) rfl) ?_
  rintro ih k8 ⟨hb, he⟩
  have eB := below_step eA hb
  have hB := below_step d1 hb
  have dv := below_step du hb
  have g7 := below_step (bR io) hb
  obtain rfl : ih = .int .i64 2 := he
  refine hS.next (v := .int .i64 2) (d := 8) rfl (by decide) (by rfl) ?_
  clear hS
  intro jQ hS
  refine wpList_nil ?_
  refine fz _ _ ?_
  refine wp_ret ?_
  (try simp only [Exit.then, Exit.inBlock, Exit.jump, Exit.noGoto])
  exact bodyPost_ret (v := .tuple #[(body_Get.v0 0 0 0 0 0 0 0 0 0 0 0 0 0 0 0 0 0 0 0 0 0 0 0), .int .i64 0, .int .i64 2]) (results_list (rs := [.cell 6 28, .tmp 7, .tmp 8]) rfl (by simp) (Vals.cell g6 28 (body_Get.c1 0 0 0 0 0 0 0 0 0 0 0 0 0 0 0 0 0 0 0 0 0 0 0) (0, 0) _ (hS.get 3 rfl) ((dv.block g6 (blk_lt dz)).trans dz) Try.underlying28 rfl (by kernel_rfl) (Vals.at (hS.get 1 rfl) (Vals.at (hS.get 0 rfl) .nil)))) hS.nodef ⟨rfl, eB⟩
 rw [if_neg c2] at H
 by_cases c3 : (wrap64 ((l1.length : Int) - a2)) < ba
 ·rw [if_pos c3] at H
  simp only [Option.some.injEq, Prod.mk.injEq] at H
  obtain ⟨rfl, rfl, rfl, rfl, rfl, rfl, rfl, rfl, rfl, rfl, rfl, rfl, rfl, rfl, rfl, rfl, rfl, rfl, rfl, rfl, rfl, rfl, rfl, rfl, rfl⟩ := H
  refine wp_seq_k (fun jE gl => ?_)
  refine reg_seq (I := I4_ w w3 w5 g9) (ps := [VI a2, VP g4 0, VI cb, VI ba, VI a2, VI ba, VB true]) (by kernel_rfl) ?_ ?_ rfl hS ⟨gg, fd, fe, (bR g9)⟩ ?_ ?_
  ·exact bs4
  ·exact .v (.v (.v (.v (.v (.v (.v (.nil)))))))
  ·refine .ms 5 rfl rfl rfl ?_
   refine .on rfl (fun a w hS hI hp => does_val (x_fieldE (b := 0) rfl (hS.get 3 rfl) Try.underlying28 rfl rfl (by kernel_rfl)) rfl) ?_
   refine .on rfl (fun a w hS hI hp => does_val (x_load1 (d := .int .i64) rfl (hp.V 1 rfl rfl) (by kernel_rfl) rfl ((blk_cell (((hI.2.1).block g4 (blk_lt bq)).trans bq) 0).trans rfl)) rfl) ?_
   refine .on rfl (fun a w hS hI hp => does_call (by kernel_rfl) (ar1 (hp.V 2 rfl rfl)) ((body_Len.calls k cb ba _  iw).mono fun _ _ h => ⟨_, h.1, h.2.below, rfl⟩)) ?_
   refine .asg 0 rfl rfl rfl rfl ?_
   refine .asg 3 rfl rfl rfl rfl ?_
   refine .on rfl (fun a w hS hI hp => does_val (x_assign rfl (rfl)) rfl) ?_
   exact .nil
  clear hS
  intro jj fT hS cx hp
  replace hS := ((((hS.nil).cons (hS.get 5 rfl)).cons (hS.get 4 rfl)).cons (hS.get 3 rfl)).cons (hS.get 2 rfl)
  have fQ : sl _ 9 = .int .i64 a2 := hp 4 (by decide)
  have ec : sl _ 10 = .int .i64 ba := hp 5 (by decide)
  have hS := hS.cons fQ
  have hS := hS.cons ec
  clear hp fQ ec
  refine gl _ _ ?_
  refine wp_seq_k (fun jF iy => ?_)
  refine wp_seq_k (fun jG gm => ?_)
  refine reg_seq (I := I4_ w w3 w5 fT) (ps := [VI a2, VB (decide (a2 < 0)), VB (decide (a2 < 0)), VI a2, IsV (.slice A1 l1.length gE), VI (l1.length : Int), VB (decide (a2 > (l1.length : Int))), VB (decide (a2 > (l1.length : Int))), VB (decide (a2 > (l1.length : Int))), IsV (.slice A1 l1.length gE), VI (l1.length : Int), VI a2, VI (wrap64 ((l1.length : Int) - a2)), VI ba, VB (decide ((wrap64 ((l1.length : Int) - a2)) < ba)), VB (decide ((wrap64 ((l1.length : Int) - a2)) < ba))]) (by kernel_rfl) ?_ ?_ rfl hS ⟨cx.1, cx.2.1, cx.2.2.1, (bR fT)⟩ ?_ ?_
  ·exact bs4
  ·exact .v (.v (.v (.v (.v (.v (.v (.v (.v (.v (.v (.v (.v (.v (.v (.v (.nil))))))))))))))))
  ·refine .ms 5 rfl rfl rfl ?_
   refine .on rfl (fun a w hS hI hp => does_val (x_bin rfl (hp.V 0 rfl rfl) (rfl) (b_lss _ _ _ _ _ _)) rfl) ?_
   refine .mv 1 rfl rfl rfl rfl ?_
   refine .oy 2 18 rfl rfl rfl rfl rfl ((decide_eq_false c1)) (fun a w hS hI hp => does_val (x_move rfl (hS.get 5 rfl)) rfl) ?_
   refine .oy 2 18 rfl rfl rfl rfl rfl ((decide_eq_false c1)) (fun a w hS hI hp => does_val (x_move rfl (hS.get 4 rfl)) rfl) ?_
   refine .oy 2 18 rfl rfl rfl rfl rfl ((decide_eq_false c1)) (fun a w hS hI hp => does_val (x_len (e := 5) rfl (by kernel_rfl) (hp.V 4 rfl rfl)) rfl) ?_
   refine .oy 2 18 rfl rfl rfl rfl rfl ((decide_eq_false c1)) (fun a w hS hI hp => does_val (x_bin rfl (hp.V 3 rfl rfl) (hp.V 5 rfl rfl) (b_gtr _ _ _ _ _ _)) rfl) ?_
   refine .on rfl (fun a w hS hI hp => does_val (x_pickF rfl ((hp.V 2 rfl rfl).trans (bF (decide_eq_false c1))) (hp.V 6 rfl rfl)) rfl) ?_
   refine .mv 7 rfl rfl rfl rfl ?_
   refine .oy 8 24 rfl rfl rfl rfl rfl ((decide_eq_false c2)) (fun a w hS hI hp => does_val (x_move rfl (hS.get 4 rfl)) rfl) ?_
   refine .oy 8 24 rfl rfl rfl rfl rfl ((decide_eq_false c2)) (fun a w hS hI hp => does_val (x_len (e := 5) rfl (by kernel_rfl) (hp.V 9 rfl rfl)) rfl) ?_
   refine .oy 8 24 rfl rfl rfl rfl rfl ((decide_eq_false c2)) (fun a w hS hI hp => does_val (x_move rfl (hS.get 5 rfl)) rfl) ?_
   refine .oy 8 24 rfl rfl rfl rfl rfl ((decide_eq_false c2)) (fun a w hS hI hp => does_val (x_bin rfl (hp.V 10 rfl rfl) (hp.V 11 rfl rfl) (b_sub _ _ _ _ _)) rfl) ?_
   refine .oy 8 24 rfl rfl rfl rfl rfl ((decide_eq_false c2)) (fun a w hS hI hp => does_val (x_move rfl (hS.get 0 rfl)) rfl) ?_
   refine .oy 8 24 rfl rfl rfl rfl rfl ((decide_eq_false c2)) (fun a w hS hI hp => does_val (x_bin rfl (hp.V 12 rfl rfl) (hp.V 13 rfl rfl) (b_lss _ _ _ _ _ _)) rfl) ?_
   refine .on rfl (fun a w hS hI hp => does_val (x_pickF rfl ((hp.V 8 rfl rfl).trans (bF (decide_eq_false c2))) (hp.V 14 rfl rfl)) rfl) ?_
   exact .nil
  clear hS
  intro jk eg hS bQ hp
  have ed : sl _ 31 = .bool (decide ((wrap64 ((l1.length : Int) - a2)) < ba)) := hp 15 (by decide)
  have hS := hS.cons ed
  clear hp ed
  refine gm _ _ ?_
  refine wp_cond_true ((hS.get 0 rfl).trans (bT (decide_eq_true c3))) ?_
  refine wp_seq_k (fun jn fz => ?_)
  refine reg_seq_tail 1 (I := I4_ w w3 w5 eg) (ps := [IsV ((body_Get.v0 0 0 0 0 0 0 0 0 0 0 0 0 0 0 0 0 0 0 0 0 0 0 0))]) (by kernel_rfl) ?_ ?_ rfl hS ⟨bQ.1, bQ.2.1, bQ.2.2.1, (bR eg)⟩ ?_ ?_
  ·exact bs4
  ·exact .v (.nil)
  ·refine .on rfl (fun a w hS hI hp => does_val (x_build (vs := []) rfl (by rw [Array.toList_map]; exact (show [] = _ from rfl)) (by kernel_rfl)) rfl) ?_
   exact .nil
  clear hS
  intro jO k7 hS cl hp
  replace hS := (hS.nil).cons (hS.get 3 rfl)
  have fO : sl _ 32 = (body_Get.v0 0 0 0 0 0 0 0 0 0 0 0 0 0 0 0 0 0 0 0 0 0 0 0) := hp 0 (by decide)
  have hS := hS.cons fO
  clear hp fO
  show wpList _ _ _ [_, _, _] _ _
  refine list_step rfl (does_storeAll (g := g6) (cs := (body_Get.c1 0 0 0 0 0 0 0 0 0 0 0 0 0 0 0 0 0 0 0 0 0 0 0)) rfl (hS.get 1 rfl) (hS.get 0 rfl) ((cl.2.2.1.block g6 (blk_lt cw)).trans cw) (by kernel_rfl) (by kernel_rfl) (by kernel_rfl)) ?_
  rintro kn iv ⟨rfl, dz, hT⟩
  have ez := hT.below cl.1 (Nat.le_trans (ic).size ds) (cl.1).size
  have d0 := hT.below cl.2.1 ds (cl.2.1).size
  clear hT
  refine list_step rfl (R := fun v w' => Below _ _ w' ∧ (VI 0) v w') (does_val (x_assign rfl (rfl)) rfl) ?_
  rintro ig io ⟨hb, he⟩
  have eA := below_step ez hb
  have d1 := below_step d0 hb
  have du := below_step (bR iv) hb
  obtain rfl : ig = .int .i64 0 := he
  refine hS.next (v := .int .i64 0) (d := 7) rfl (by decide) (by rfl) ?_
  clear hS
  intro jP hS
  refine list_step rfl (R := fun v w' => Below _ _ w' ∧ (VI 2) v w') (does_val (x_assign rfl (rfl)) rfl) ?_
  rintro ih k8 ⟨hb, he⟩
  have eB := below_step eA hb
  have hB := below_step d1 hb
  have dv := below_step du hb
  have g7 := below_step (bR io) hb
  obtain rfl : ih = .int .i64 2 := he
  refine hS.next (v := .int .i64 2) (d := 8) rfl (by decide) (by rfl) ?_
  clear hS
  intro jQ hS
  refine wpList_nil ?_
  refine fz _ _ ?_
  refine wp_ret ?_
  (try simp only [Exit.then, Exit.inBlock, Exit.jump, Exit.noGoto])
  exact bodyPost_ret (v := .tuple #[(body_Get.v0 0 0 0 0 0 0 0 0 0 0 0 0 0 0 0 0 0 0 0 0 0 0 0), .int .i64 0, .int .i64 2]) (results_list (rs := [.cell 6 28, .tmp 7, .tmp 8]) rfl (by simp) (Vals.cell g6 28 (body_Get.c1 0 0 0 0 0 0 0 0 0 0 0 0 0 0 0 0 0 0 0 0 0 0 0) (0, 0) _ (hS.get 3 rfl) ((dv.block g6 (blk_lt dz)).trans dz) Try.underlying28 rfl (by kernel_rfl) (Vals.at (hS.get 1 rfl) (Vals.at (hS.get 0 rfl) .nil)))) hS.nodef ⟨rfl, eB⟩
 rw [if_neg c3] at H
 refine wp_seq_k (fun jE gl => ?_)
 refine reg_seq (I := I4_ w w3 w5 g9) (ps := [VI a2, VP g4 0, VI cb, VI ba, VI a2, VI ba, VB true]) (by kernel_rfl) ?_ ?_ rfl hS ⟨gg, fd, fe, (bR g9)⟩ ?_ ?_
 ·exact bs4
 ·exact .v (.v (.v (.v (.v (.v (.v (.nil)))))))
 ·refine .ms 5 rfl rfl rfl ?_
  refine .on rfl (fun a w hS hI hp => does_val (x_fieldE (b := 0) rfl (hS.get 3 rfl) Try.underlying28 rfl rfl (by kernel_rfl)) rfl) ?_
  refine .on rfl (fun a w hS hI hp => does_val (x_load1 (d := .int .i64) rfl (hp.V 1 rfl rfl) (by kernel_rfl) rfl ((blk_cell (((hI.2.1).block g4 (blk_lt bq)).trans bq) 0).trans rfl)) rfl) ?_
  refine .on rfl (fun a w hS hI hp => does_call (by kernel_rfl) (ar1 (hp.V 2 rfl rfl)) ((body_Len.calls k cb ba _  iw).mono fun _ _ h => ⟨_, h.1, h.2.below, rfl⟩)) ?_
  refine .asg 0 rfl rfl rfl rfl ?_
  refine .asg 3 rfl rfl rfl rfl ?_
  refine .on rfl (fun a w hS hI hp => does_val (x_assign rfl (rfl)) rfl) ?_
  exact .nil
 clear hS
 intro jj fT hS cx hp
 replace hS := ((((hS.nil).cons (hS.get 5 rfl)).cons (hS.get 4 rfl)).cons (hS.get 3 rfl)).cons (hS.get 2 rfl)
 have fQ : sl _ 9 = .int .i64 a2 := hp 4 (by decide)
 have ec : sl _ 10 = .int .i64 ba := hp 5 (by decide)
 have hS := hS.cons fQ
 have hS := hS.cons ec
 clear hp fQ ec
 refine gl _ _ ?_
 refine wp_seq_k (fun jF iy => ?_)
 refine wp_seq_k (fun jG gm => ?_)
 refine reg_seq (I := I4_ w w3 w5 fT) (ps := [VI a2, VB (decide (a2 < 0)), VB (decide (a2 < 0)), VI a2, IsV (.slice A1 l1.length gE), VI (l1.length : Int), VB (decide (a2 > (l1.length : Int))), VB (decide (a2 > (l1.length : Int))), VB (decide (a2 > (l1.length : Int))), IsV (.slice A1 l1.length gE), VI (l1.length : Int), VI a2, VI (wrap64 ((l1.length : Int) - a2)), VI ba, VB (decide ((wrap64 ((l1.length : Int) - a2)) < ba)), VB (decide ((wrap64 ((l1.length : Int) - a2)) < ba))]) (by kernel_rfl) ?_ ?_ rfl hS ⟨cx.1, cx.2.1, cx.2.2.1, (bR fT)⟩ ?_ ?_
 ·exact bs4
 ·exact .v (.v (.v (.v (.v (.v (.v (.v (.v (.v (.v (.v (.v (.v (.v (.v (.nil))))))))))))))))
 ·refine .ms 5 rfl rfl rfl ?_
  refine .on rfl (fun a w hS hI hp => does_val (x_bin rfl (hp.V 0 rfl rfl) (rfl) (b_lss _ _ _ _ _ _)) rfl) ?_
  refine .mv 1 rfl rfl rfl rfl ?_
  refine .oy 2 18 rfl rfl rfl rfl rfl ((decide_eq_false c1)) (fun a w hS hI hp => does_val (x_move rfl (hS.get 5 rfl)) rfl) ?_
  refine .oy 2 18 rfl rfl rfl rfl rfl ((decide_eq_false c1)) (fun a w hS hI hp => does_val (x_move rfl (hS.get 4 rfl)) rfl) ?_
  refine .oy 2 18 rfl rfl rfl rfl rfl ((decide_eq_false c1)) (fun a w hS hI hp => does_val (x_len (e := 5) rfl (by kernel_rfl) (hp.V 4 rfl rfl)) rfl) ?_
  refine .oy 2 18 rfl rfl rfl rfl rfl ((decide_eq_false c1)) (fun a w hS hI hp => does_val (x_bin rfl (hp.V 3 rfl rfl) (hp.V 5 rfl rfl) (b_gtr _ _ _ _ _ _)) rfl) ?_
  refine .on rfl (fun a w hS hI hp => does_val (x_pickF rfl ((hp.V 2 rfl rfl).trans (bF (decide_eq_false c1))) (hp.V 6 rfl rfl)) rfl) ?_
  refine .mv 7 rfl rfl rfl rfl ?_
  refine .oy 8 24 rfl rfl rfl rfl rfl ((decide_eq_false c2)) (fun a w hS hI hp => does_val (x_move rfl (hS.get 4 rfl)) rfl) ?_
  refine .oy 8 24 rfl rfl rfl rfl rfl ((decide_eq_false c2)) (fun a w hS hI hp => does_val (x_len (e := 5) rfl (by kernel_rfl) (hp.V 9 rfl rfl)) rfl) ?_
  refine .oy 8 24 rfl rfl rfl rfl rfl ((decide_eq_false c2)) (fun a w hS hI hp => does_val (x_move rfl (hS.get 5 rfl)) rfl) ?_
  refine .oy 8 24 rfl rfl rfl rfl rfl ((decide_eq_false c2)) (fun a w hS hI hp => does_val (x_bin rfl (hp.V 10 rfl rfl) (hp.V 11 rfl rfl) (b_sub _ _ _ _ _)) rfl) ?_
  refine .oy 8 24 rfl rfl rfl rfl rfl ((decide_eq_false c2)) (fun a w hS hI hp => does_val (x_move rfl (hS.get 0 rfl)) rfl) ?_
  refine .oy 8 24 rfl rfl rfl rfl rfl ((decide_eq_false c2)) (fun a w hS hI hp => does_val (x_bin rfl (hp.V 12 rfl rfl) (hp.V 13 rfl rfl) (b_lss _ _ _ _ _ _)) rfl) ?_
  refine .on rfl (fun a w hS hI hp => does_val (x_pickF rfl ((hp.V 8 rfl rfl).trans (bF (decide_eq_false c2))) (hp.V 14 rfl rfl)) rfl) ?_
  exact .nil
 clear hS
 intro jk eg hS bQ hp
 have ed : sl _ 31 = .bool (decide ((wrap64 ((l1.length : Int) - a2)) < ba)) := hp 15 (by decide)
 have hS := hS.cons ed
 clear hp ed
 refine gm _ _ ?_
 refine wp_cond_false ((hS.get 0 rfl).trans (bF (decide_eq_false c3))) ?_
 refine wp_skip ?_
 refine iy _ _ ?_
 refine wp_seq_k (fun jn fz => ?_)
 have J2 : ∀ (jH : Act) (g0 : World) (c0 : List Int) (es : Option Addr) (et : Nat) (bK ca dB dC dD dE dF dG dH iq eZ dY cD cE cF cG cH cI cJ cK cL cM cN cO : Int) (aR : Nat) (f4 f5 f6 f7 f8 f9 ga gb gc gd e0 e1 e2 e3 e4 e5 e6 e7 e8 e9 fa fb fc : Int) (bU : Nat) (ir g3 : Int), body_Get.j2 k c0 bK ca dB dC dD dE dF dG dH iq eZ dY cD cE cF cG cH cI cJ cK cL cM cN cO f4 f5 f6 f7 f8 f9 ga gb gc gd e0 e1 e2 e3 e4 e5 e6 e7 e8 e9 fa fb fc ir g3 = some (r1, r2, r3, r4, r5, r6, r7, r8, r9, i2, i3, i4, i5, i6, i7, i8, i9, ja, jb, jc, jd, je, jf, jg, jh) → St 151 [(1, .slice es c0.length et), (2, .int .i64 bK), (3, .pointer (some ⟨aR, 0, none⟩)), (6, .pointer (some ⟨bU, 0, none⟩)), (9, .int .i64 ir), (10, .int .i64 g3)] jH → Below w.heap.size w g0 → c0.length ≤ et → Kd.C (Kd.int .u8) w es c0.length c0 → w.heap.size ≤ aR → g0.heap[aR]? = some (.cells (body_Get.c1 ca dB dC dD dE dF dG dH iq eZ dY cD cE cF cG cH cI cJ cK cL cM cN cO) 28 (0, 0)) → w.heap.size ≤ bU → g0.heap[bU]? = some (.cells (body_Get.c1 f4 f5 f6 f7 f8 f9 ga gb gc gd e0 e1 e2 e3 e4 e5 e6 e7 e8 e9 fa fb fc) 28 (0, 0)) → bU ≠ aR → jn jH g0 := by
  intro jH g0 c0 es et bK ca dB dC dD dE dF dG dH iq eZ dY cD cE cF cG cH cI cJ cK cL cM cN cO aR f4 f5 f6 f7 f8 f9 ga gb gc gd e0 e1 e2 e3 e4 e5 e6 e7 e8 e9 fa fb fc bU ir g3 H hS iu gF fA dA ew fC ex cy
  unfold body_Get.j2 at H
  (try dsimp only at H)
  obtain ⟨kM, iO, H⟩ := Option.bind_eq_some_iff.mp H
  obtain ⟨aT, aG⟩ := kM
  (try dsimp only at H)
  by_cases c4 : aG = true
  rotate_left
  ·rw [if_neg c4] at H
   simp only [Option.some.injEq, Prod.mk.injEq] at H
   obtain ⟨rfl, rfl, rfl, rfl, rfl, rfl, rfl, rfl, rfl, rfl, rfl, rfl, rfl, rfl, rfl, rfl, rfl, rfl, rfl, rfl, rfl, rfl, rfl, rfl, rfl⟩ := H
   refine fz _ _ ?_
   refine wp_seq_k (fun kz iW => ?_)
   refine wp_seq_k (fun kA hE => ?_)
   refine reg_seq_tail 7 (I := I2_ w g0) (ps := [IsV (.slice es c0.length et), VI bK, IsV (.tuple #[.int .i64 aT, .bool aG]), IsV (.tuple #[.int .i64 aT, .bool aG]), VI aT, VB aG, VP aR 8]) (by kernel_rfl) ?_ ?_ rfl hS ⟨iu, (bR g0)⟩ ?_ ?_
   ·exact bs2
   ·exact .v (.v (.v (.v (.v (.v (.v (.nil)))))))
   ·refine .ms 0 rfl rfl rfl ?_
    refine .ms 1 rfl rfl rfl ?_
    refine .on rfl (fun a w hS hI hp => does_call (by kernel_rfl) (ar2 (hp.V 0 rfl rfl) (hp.V 1 rfl rfl)) ((stamp_Get.calls k _ _ c0 bK aT aG _ (Kd.C_below fA hI.1) gF iO).mono fun _ _ h => ⟨_, h.1, h.2.below, rfl⟩)) ?_
    refine .mv 2 rfl rfl rfl rfl ?_
    iterate 2 refine .on rfl (fun a w hS hI hp => does_val (x_extract rfl (hp.V 3 rfl rfl) rfl) rfl) ?_
    refine .on rfl (fun a w hS hI hp => does_val (x_fieldE (b := 0) rfl (hS.get 2 rfl) Try.underlying28 rfl rfl (by kernel_rfl)) rfl) ?_
    exact .nil
   clear hS
   intro jJ kP hS cQ hp
   have hX : sl _ 45 = .int .i64 aT := hp 4 (by decide)
   have hY : sl _ 46 = .bool aG := hp 5 (by decide)
   have hZ : sl _ 47 = .pointer (some ⟨aR, 8, none⟩) := hp 6 (by decide)
   have hS := hS.cons hX
   have hS := hS.cons hY
   have hS := hS.cons hZ
   clear hp hX hY hZ
   show wpList _ _ _ [_, _] _ _
   refine list_step rfl (does_store (g := aR) (off := 8) (v := .int .i64 aT) (new := (body_Get.c1 ca dB dC dD dE dF dG dH aT eZ dY cD cE cF cG cH cI cJ cK cL cM cN cO)) rfl (hS.get 0 rfl) (hS.get 2 rfl) ((cQ.2.block aR (blk_lt ew)).trans ew) (by kernel_rfl) (by kernel_rfl) (by kernel_rfl) (by kernel_rfl)) ?_
   rintro kj dt ⟨rfl, bH, hT⟩
   have eb := hT.blk ((cQ.2.block bU (blk_lt ex)).trans ex) cy
   have fo := hT.below cQ.1 dA (cQ.1).size
   clear hT
   refine list_step rfl (R := fun v w' => Below _ _ w' ∧ (VB aG) v w') (does_val (x_assign rfl (hS.get 1 rfl)) rfl) ?_
   rintro ie gQ ⟨hb, he⟩
   have fp := below_step fo hb
   have dI := below_step (bR dt) hb
   obtain rfl : ie = .bool aG := he
   refine hS.next (v := .bool aG) (d := 11) rfl (by decide) (by rfl) ?_
   clear hS
   intro jK hS
   refine wpList_nil ?_
   refine hE _ _ ?_
   refine wp_seq_k (fun kB hF => ?_)
   refine reg_seq (I := I3_ w dt gQ) (ps := [VB aG, VB (!aG)]) (by kernel_rfl) ?_ ?_ rfl hS ⟨fp, dI, (bR gQ)⟩ ?_ ?_
   ·exact bs3
   ·exact .v (.v (.nil))
   ·refine .ms 0 rfl rfl rfl ?_
    refine .on rfl (fun a w hS hI hp => does_val (x_not rfl (hp.V 0 rfl rfl)) rfl) ?_
    exact .nil
   clear hS
   intro jL gR hS fR hp
   replace hS := ((((((hS.nil).cons (hS.get 9 rfl)).cons (hS.get 8 rfl)).cons (hS.get 7 rfl)).cons (hS.get 6 rfl)).cons (hS.get 5 rfl)).cons (hS.get 4 rfl)
   have h0 : sl _ 49 = .bool (!aG) := hp 1 (by decide)
   have hS := hS.cons h0
   clear hp h0
   refine hF _ _ ?_
   refine wp_cond_true ((hS.get 0 rfl).trans (bT (congrArg (!·) (Bool.eq_false_iff.2 c4)))) ?_
   refine wp_seq_k (fun kC hG => ?_)
   refine reg_seq_tail 1 (I := I3_ w dt gR) (ps := [IsV ((body_Get.v0 0 0 0 0 0 0 0 0 0 0 0 0 0 0 0 0 0 0 0 0 0 0 0))]) (by kernel_rfl) ?_ ?_ rfl hS ⟨fR.1, fR.2.1, (bR gR)⟩ ?_ ?_
   ·exact bs3
   ·exact .v (.nil)
   ·refine .on rfl (fun a w hS hI hp => does_val (x_build (vs := []) rfl (by rw [Array.toList_map]; exact (show [] = _ from rfl)) (by kernel_rfl)) rfl) ?_
    exact .nil
   clear hS
   intro jM js hS ef hp
   replace hS := (hS.nil).cons (hS.get 4 rfl)
   have kg : sl _ 50 = (body_Get.v0 0 0 0 0 0 0 0 0 0 0 0 0 0 0 0 0 0 0 0 0 0 0 0) := hp 0 (by decide)
   have hS := hS.cons kg
   clear hp kg
   show wpList _ _ _ [_, _, _] _ _
   refine list_step rfl (does_storeAll (g := bU) (cs := (body_Get.c1 0 0 0 0 0 0 0 0 0 0 0 0 0 0 0 0 0 0 0 0 0 0 0)) rfl (hS.get 1 rfl) (hS.get 0 rfl) ((ef.2.1.block bU (blk_lt eb)).trans eb) (by kernel_rfl) (by kernel_rfl) (by kernel_rfl)) ?_
   rintro ji gj ⟨rfl, hU, hT⟩
   have ln := hT.blk ((ef.2.1.block aR (blk_lt bH)).trans bH) (Ne.symm cy)
   have eu := hT.below ef.1 fC (ef.1).size
   clear hT
   refine list_step rfl (R := fun v w' => Below _ _ w' ∧ (VI 0) v w') (does_val (x_assign rfl (rfl)) rfl) ?_
   rintro kk kQ ⟨hb, he⟩
   have iS := below_step eu hb
   have ha := below_step (bR gj) hb
   obtain rfl : kk = .int .i64 0 := he
   refine hS.next (v := .int .i64 0) (d := 7) rfl (by decide) (by rfl) ?_
   clear hS
   intro lh hS
   refine list_step rfl (R := fun v w' => Below _ _ w' ∧ (VI 10) v w') (does_val (x_assign rfl (rfl)) rfl) ?_
   rintro kl lw ⟨hb, he⟩
   have iT := below_step iS hb
   have hd := below_step ha hb
   have jz := below_step (bR kQ) hb
   obtain rfl : kl = .int .i64 10 := he
   refine hS.next (v := .int .i64 10) (d := 8) rfl (by decide) (by rfl) ?_
   clear hS
   intro li hS
   refine wpList_nil ?_
   refine hG _ _ ?_
   refine wp_ret ?_
   (try simp only [Exit.then, Exit.inBlock, Exit.jump, Exit.noGoto])
   exact bodyPost_ret (v := .tuple #[(body_Get.v0 0 0 0 0 0 0 0 0 0 0 0 0 0 0 0 0 0 0 0 0 0 0 0), .int .i64 0, .int .i64 10]) (results_list (rs := [.cell 6 28, .tmp 7, .tmp 8]) rfl (by simp) (Vals.cell bU 28 (body_Get.c1 0 0 0 0 0 0 0 0 0 0 0 0 0 0 0 0 0 0 0 0 0 0 0) (0, 0) _ (hS.get 3 rfl) ((hd.block bU (blk_lt hU)).trans hU) Try.underlying28 rfl (by kernel_rfl) (Vals.at (hS.get 1 rfl) (Vals.at (hS.get 0 rfl) .nil)))) hS.nodef ⟨rfl, iT⟩
  rw [if_pos c4] at H
  refine fz _ _ ?_
  refine wp_seq_k (fun kz iW => ?_)
  refine wp_seq_k (fun kA hE => ?_)
  refine reg_seq_tail 7 (I := I2_ w g0) (ps := [IsV (.slice es c0.length et), VI bK, IsV (.tuple #[.int .i64 aT, .bool aG]), IsV (.tuple #[.int .i64 aT, .bool aG]), VI aT, VB aG, VP aR 8]) (by kernel_rfl) ?_ ?_ rfl hS ⟨iu, (bR g0)⟩ ?_ ?_
  ·exact bs2
  ·exact .v (.v (.v (.v (.v (.v (.v (.nil)))))))
  ·refine .ms 0 rfl rfl rfl ?_
   refine .ms 1 rfl rfl rfl ?_
   refine .on rfl (fun a w hS hI hp => does_call (by kernel_rfl) (ar2 (hp.V 0 rfl rfl) (hp.V 1 rfl rfl)) ((stamp_Get.calls k _ _ c0 bK aT aG _ (Kd.C_below fA hI.1) gF iO).mono fun _ _ h => ⟨_, h.1, h.2.below, rfl⟩)) ?_
   refine .mv 2 rfl rfl rfl rfl ?_
   iterate 2 refine .on rfl (fun a w hS hI hp => does_val (x_extract rfl (hp.V 3 rfl rfl) rfl) rfl) ?_
   refine .on rfl (fun a w hS hI hp => does_val (x_fieldE (b := 0) rfl (hS.get 2 rfl) Try.underlying28 rfl rfl (by kernel_rfl)) rfl) ?_
   exact .nil
  clear hS
  intro jJ kP hS cQ hp
  have hX : sl _ 45 = .int .i64 aT := hp 4 (by decide)
  have hY : sl _ 46 = .bool aG := hp 5 (by decide)
  have hZ : sl _ 47 = .pointer (some ⟨aR, 8, none⟩) := hp 6 (by decide)
  have hS := hS.cons hX
  have hS := hS.cons hY
  have hS := hS.cons hZ
  clear hp hX hY hZ
  show wpList _ _ _ [_, _] _ _
  refine list_step rfl (does_store (g := aR) (off := 8) (v := .int .i64 aT) (new := (body_Get.c1 ca dB dC dD dE dF dG dH aT eZ dY cD cE cF cG cH cI cJ cK cL cM cN cO)) rfl (hS.get 0 rfl) (hS.get 2 rfl) ((cQ.2.block aR (blk_lt ew)).trans ew) (by kernel_rfl) (by kernel_rfl) (by kernel_rfl) (by kernel_rfl)) ?_
  rintro kj dt ⟨rfl, bH, hT⟩
  have eb := hT.blk ((cQ.2.block bU (blk_lt ex)).trans ex) cy
  have fo := hT.below cQ.1 dA (cQ.1).size
  clear hT
  refine list_step rfl (R := fun v w' => Below _ _ w' ∧ (VB aG) v w') (does_val (x_assign rfl (hS.get 1 rfl)) rfl) ?_
  rintro ie gQ ⟨hb, he⟩
  have fp := below_step fo hb
  have dI := below_step (bR dt) hb
  obtain rfl : ie = .bool aG := he
  refine hS.next (v := .bool aG) (d := 11) rfl (by decide) (by rfl) ?_
  clear hS
  intro jK hS
  refine wpList_nil ?_
  refine hE _ _ ?_
  refine wp_seq_k (fun kB hF => ?_)
  refine reg_seq (I := I3_ w dt gQ) (ps := [VB aG, VB (!aG)]) (by kernel_rfl) ?_ ?_ rfl hS ⟨fp, dI, (bR gQ)⟩ ?_ ?_
  ·exact bs3
  ·exact .v (.v (.nil))
  ·refine .ms 0 rfl rfl rfl ?_
   refine .on rfl (fun a w hS hI hp => does_val (x_not rfl (hp.V 0 rfl rfl)) rfl) ?_
   exact .nil
  clear hS
  intro jL gR hS fR hp
  replace hS := ((((((hS.nil).cons (hS.get 9 rfl)).cons (hS.get 8 rfl)).cons (hS.get 7 rfl)).cons (hS.get 6 rfl)).cons (hS.get 5 rfl)).cons (hS.get 4 rfl)
  have h0 : sl _ 49 = .bool (!aG) := hp 1 (by decide)
  have hS := hS.cons h0
  clear hp h0
  refine hF _ _ ?_
  refine wp_cond_false ((hS.get 0 rfl).trans (bF (congrArg (!·) c4))) ?_
  refine wp_skip ?_
  refine iW _ _ ?_
  refine wp_seq_k (fun kC hG => ?_)
  refine reg_seq_tail 2 (I := I3_ w dt gR) (ps := [VI bK, VI (wrap64 (bK + 10))]) (by kernel_rfl) ?_ ?_ rfl hS ⟨fR.1, fR.2.1, (bR gR)⟩ ?_ ?_
  ·exact bs3
  ·exact .v (.v (.nil))
  ·refine .ms 2 rfl rfl rfl ?_
   refine .on rfl (fun a w hS hI hp => does_val (x_bin rfl (hp.V 0 rfl rfl) (rfl) (b_add _ _ _ _ _)) rfl) ?_
   exact .nil
  clear hS
  intro jM js hS ef hp
  replace hS := ((((((hS.nil).cons (hS.get 6 rfl)).cons (hS.get 5 rfl)).cons (hS.get 4 rfl)).cons (hS.get 3 rfl)).cons (hS.get 2 rfl)).cons (hS.get 1 rfl)
  have kh : sl _ 52 = .int .i64 (wrap64 (bK + 10)) := hp 1 (by decide)
  have hS := hS.cons kh
  clear hp kh
  show wpList _ _ _ [_] _ _
  refine list_step rfl (R := fun v w' => Below _ _ w' ∧ (VI (wrap64 (bK + 10))) v w') (does_val (x_assign rfl (hS.get 0 rfl)) rfl) ?_
  rintro ji gj ⟨hb, he⟩
  have eu := below_step ef.1 hb
  have fj := below_step ef.2.1 hb
  have jy := below_step (bR js) hb
  obtain rfl : ji = .int .i64 (wrap64 (bK + 10)) := he
  replace hS := ((((((hS.nil).cons (hS.get 6 rfl)).cons (hS.get 5 rfl)).cons (hS.get 4 rfl)).cons (hS.get 3 rfl)).cons (hS.get 1 rfl)).cons (hS.get 0 rfl)
  refine hS.next (v := .int .i64 (wrap64 (bK + 10))) (d := 2) rfl (by decide) (by rfl) ?_
  clear hS
  intro lg hS
  refine wpList_nil ?_
  refine hG _ _ ?_
  refine wp_seq_k (fun ls kc => ?_)
  refine wp_label ?_
  refine kc _ _ ?_
  refine wp_seq_k (fun kD kd => ?_)
  have J3 : ∀ (hy : Act) (bb : World) (ad : List Int) (aN : Option Addr) (aO : Nat) (ab ac am an ao ap aq ar au av aw ag aV aQ aK aL aM aI aD ay ak aE az al : Int) (aa : Nat) (bV bW bX bY bZ b0 b1 b2 b3 b4 bs bt bu bv bw bx bz bA bB bC bD bE bG : Int) (ai : Nat) (dc cu : Int), body_Get.j3 k ad ab ac am an ao ap aq ar au av aw ag aV aQ aK aL aM aI aD ay ak aE az al bV bW bX bY bZ b0 b1 b2 b3 b4 bs bt bu bv bw bx bz bA bB bC bD bE bG dc cu = some (r1, r2, r3, r4, r5, r6, r7, r8, r9, i2, i3, i4, i5, i6, i7, i8, i9, ja, jb, jc, jd, je, jf, jg, jh) → St 151 [(1, .slice aN ad.length aO), (2, .int .i64 ab), (3, .pointer (some ⟨aa, 0, none⟩)), (6, .pointer (some ⟨ai, 0, none⟩)), (9, .int .i64 dc), (10, .int .i64 cu)] hy → Below w.heap.size w bb → ad.length ≤ aO → Kd.C (Kd.int .u8) w aN ad.length ad → w.heap.size ≤ aa → bb.heap[aa]? = some (.cells (body_Get.c1 ac am an ao ap aq ar au av aw ag aV aQ aK aL aM aI aD ay ak aE az al) 28 (0, 0)) → w.heap.size ≤ ai → bb.heap[ai]? = some (.cells (body_Get.c1 bV bW bX bY bZ b0 b1 b2 b3 b4 bs bt bu bv bw bx bz bA bB bC bD bE bG) 28 (0, 0)) → ai ≠ aa → kD hy bb := by
   intro hy bb ad aN aO ab ac am an ao ap aq ar au av aw ag aV aQ aK aL aM aI aD ay ak aE az al aa bV bW bX bY bZ b0 b1 b2 b3 b4 bs bt bu bv bw bx bz bA bB bC bD bE bG ai dc cu H hS da b7 aF ae ah ch aS af
   unfold body_Get.j3 at H
   (try dsimp only at H)
   refine kd _ _ ?_
   refine wp_seq_k (fun ix hK => ?_)
   have J4 : ∀ (hz : Act) (eh : World) (bg bh bi bj bk bl bm bn bo bp aW aX aY aZ a0 a1 a3 a4 a5 a6 a7 a8 a9 : Int) (b6 : Nat) (ei ej ek el em en eo ep eq er dd de df dg dh di dj dk dl dm dn dp dq : Int) (br : Nat) (bS bd : Int), body_Get.j4 k bg bh bi bj bk bl bm bn bo bp aW aX aY aZ a0 a1 a3 a4 a5 a6 a7 a8 a9 ei ej ek el em en eo ep eq er dd de df dg dh di dj dk dl dm dn dp dq bS bd = some (r1, r2, r3, r4, r5, r6, r7, r8, r9, i2, i3, i4, i5, i6, i7, i8, i9, ja, jb, jc, jd, je, jf, jg, jh) → St 151 [(3, .pointer (some ⟨b6, 0, none⟩)), (6, .pointer (some ⟨br, 0, none⟩)), (9, .int .i64 bS), (10, .int .i64 bd)] hz → Below w.heap.size w eh → w.heap.size ≤ b6 → eh.heap[b6]? = some (.cells (body_Get.c1 bg bh bi bj bk bl bm bn bo bp aW aX aY aZ a0 a1 a3 a4 a5 a6 a7 a8 a9) 28 (0, 0)) → w.heap.size ≤ br → eh.heap[br]? = some (.cells (body_Get.c1 ei ej ek el em en eo ep eq er dd de df dg dh di dj dk dl dm dn dp dq) 28 (0, 0)) → br ≠ b6 → ix hz eh := by
    intro hz eh bg bh bi bj bk bl bm bn bo bp aW aX aY aZ a0 a1 a3 a4 a5 a6 a7 a8 a9 b6 ei ej ek el em en eo ep eq er dd de df dg dh di dj dk dl dm dn dp dq br bS bd H hS g5 iX bN fD dy fN
    unfold body_Get.j4 at H
    (try dsimp only at H)
    simp only [Option.some.injEq, Prod.mk.injEq] at H
    obtain ⟨rfl, rfl, rfl, rfl, rfl, rfl, rfl, rfl, rfl, rfl, rfl, rfl, rfl, rfl, rfl, rfl, rfl, rfl, rfl, rfl, rfl, rfl, rfl, rfl, rfl⟩ := H
    refine hK _ _ ?_
    refine wp_seq_k (fun kK hQ => ?_)
    refine reg_seq_tail 4 (I := I2_ w eh) (ps := [IsV ((body_Get.v0 bg bh bi bj bk bl bm bn bo bp aW aX aY aZ a0 a1 a3 a4 a5 a6 a7 a8 a9)), VI bS, VI bd, VI (wrap64 (bS + bd))]) (by kernel_rfl) ?_ ?_ rfl hS ⟨g5, (bR eh)⟩ ?_ ?_
    ·exact bs2
    ·exact .v (.v (.v (.v (.nil))))
    ·refine .on rfl (fun a w hS hI hp => does_loadrow rfl (hS.get 0 rfl) (((hI.2).block b6 (blk_lt bN)).trans bN) Try.underlying28 rfl (by kernel_rfl) rfl) ?_
     refine .ms 2 rfl rfl rfl ?_
     refine .ms 3 rfl rfl rfl ?_
     refine .on rfl (fun a w hS hI hp => does_val (x_bin rfl (hp.V 1 rfl rfl) (hp.V 2 rfl rfl) (b_add _ _ _ _ _)) rfl) ?_
     exact .nil
    clear hS
    intro j5 k2 hS cZ hp
    replace hS := (hS.nil).cons (hS.get 1 rfl)
    have gM : sl _ 147 = (body_Get.v0 bg bh bi bj bk bl bm bn bo bp aW aX aY aZ a0 a1 a3 a4 a5 a6 a7 a8 a9) := hp 0 (by decide)
    have gN : sl _ 150 = .int .i64 (wrap64 (bS + bd)) := hp 3 (by decide)
    have hS := hS.cons gM
    have hS := hS.cons gN
    clear hp gM gN
    show wpList _ _ _ [_, _, _] _ _
    refine list_step rfl (does_storeAll (g := br) (cs := (body_Get.c1 bg bh bi bj bk bl bm bn bo bp aW aX aY aZ a0 a1 a3 a4 a5 a6 a7 a8 a9)) rfl (hS.get 2 rfl) (hS.get 1 rfl) ((cZ.2.block br (blk_lt dy)).trans dy) (by kernel_rfl) (by kernel_rfl) (by kernel_rfl)) ?_
    rintro kw iL ⟨rfl, ea, hT⟩
    have kf := hT.blk ((cZ.2.block b6 (blk_lt bN)).trans bN) (Ne.symm fN)
    have fw := hT.below cZ.1 fD (cZ.1).size
    clear hT
    refine list_step rfl (R := fun v w' => Below _ _ w' ∧ (VI (wrap64 (bS + bd))) v w') (does_val (x_assign rfl (hS.get 0 rfl)) rfl) ?_
    rintro il iM ⟨hb, he⟩
    have fx := below_step fw hb
    have dJ := below_step (bR iL) hb
    obtain rfl : il = .int .i64 (wrap64 (bS + bd)) := he
    refine hS.next (v := .int .i64 (wrap64 (bS + bd))) (d := 7) rfl (by decide) (by rfl) ?_
    clear hS
    intro j6 hS
    refine list_step rfl (R := fun v w' => Below _ _ w' ∧ (VI 0) v w') (does_val (x_assign rfl (rfl)) rfl) ?_
    rintro im k3 ⟨hb, he⟩
    have fy := below_step fx hb
    have dK := below_step dJ hb
    have hf := below_step (bR iM) hb
    obtain rfl : im = .int .i64 0 := he
    refine hS.next (v := .int .i64 0) (d := 8) rfl (by decide) (by rfl) ?_
    clear hS
    intro j7 hS
    refine wpList_nil ?_
    refine hQ _ _ ?_
    refine wp_ret ?_
    (try simp only [Exit.then, Exit.inBlock, Exit.jump, Exit.noGoto])
    exact bodyPost_ret (v := .tuple #[(body_Get.v0 bg bh bi bj bk bl bm bn bo bp aW aX aY aZ a0 a1 a3 a4 a5 a6 a7 a8 a9), .int .i64 (wrap64 (bS + bd)), .int .i64 0]) (results_list (rs := [.cell 6 28, .tmp 7, .tmp 8]) rfl (by simp) (Vals.cell br 28 (body_Get.c1 bg bh bi bj bk bl bm bn bo bp aW aX aY aZ a0 a1 a3 a4 a5 a6 a7 a8 a9) (0, 0) _ (hS.get 4 rfl) ((dK.block br (blk_lt ea)).trans ea) Try.underlying28 rfl (by kernel_rfl) (Vals.at (hS.get 1 rfl) (Vals.at (hS.get 0 rfl) .nil)))) hS.nodef ⟨rfl, fy⟩
   by_cases c5 : ac = 11
   rotate_left
   ·rw [if_neg c5] at H
    by_cases c6 : ac = 13
    rotate_left
    ·rw [if_neg c6] at H
     refine wp_seq_k (fun go ce => ?_)
     refine reg_seq (I := I2_ w bb) (ps := [VP aa 0, VI ac]) (by kernel_rfl) ?_ ?_ rfl hS ⟨da, (bR bb)⟩ ?_ ?_
     ·exact bs2
     ·exact .v (.v (.nil))
     ·refine .on rfl (fun a w hS hI hp => does_val (x_fieldE (b := 0) rfl (hS.get 2 rfl) Try.underlying28 rfl rfl (by kernel_rfl)) rfl) ?_
      refine .on rfl (fun a w hS hI hp => does_val (x_load1 (d := .int .i64) rfl (hp.V 0 rfl rfl) (by kernel_rfl) rfl ((blk_cell (((hI.2).block aa (blk_lt ah)).trans ah) 0).trans rfl)) rfl) ?_
      exact .nil
     clear hS
     intro fl bO hS be hp
     have cj : sl _ 66 = .int .i64 ac := hp 1 (by decide)
     have hS := hS.cons cj
     clear hp cj
     refine ce _ _ ?_
     refine wp_block ?_
     refine wp_seq_k (fun gp cf => ?_)
     refine reg_seq (I := I3_ w bb bO) (ps := [VB (decide (ac = 11)), VB (decide (ac = 11))]) (by kernel_rfl) ?_ ?_ rfl hS ⟨be.1, be.2, (bR bO)⟩ ?_ ?_
     ·exact bs3
     ·exact .v (.v (.nil))
     ·refine .on rfl (fun a w hS hI hp => does_val (x_bin rfl (hS.get 0 rfl) (rfl) (b_eql _ _ _ _ _ _)) rfl) ?_
      refine .asg 0 rfl rfl rfl rfl ?_
      exact .nil
     clear hS
     intro fm bP hS bf hp
     have ck : sl _ 67 = .bool (decide (ac = 11)) := hp 1 (by decide)
     have hS := hS.cons ck
     clear hp ck
     refine cf _ _ ?_
     refine wp_cond_false ((hS.get 0 rfl).trans (bF (decide_eq_false c5))) ?_
     refine wp_seq_k (fun gq cg => ?_)
     refine reg_seq (I := I3_ w bb bP) (ps := [VB (decide (ac = 13)), VB (decide (ac = 13))]) (by kernel_rfl) ?_ ?_ rfl hS ⟨bf.1, bf.2.1, (bR bP)⟩ ?_ ?_
     ·exact bs3
     ·exact .v (.v (.nil))
     ·refine .on rfl (fun a w hS hI hp => does_val (x_bin rfl (hS.get 1 rfl) (rfl) (b_eql _ _ _ _ _ _)) rfl) ?_
      refine .asg 0 rfl rfl rfl rfl ?_
      exact .nil
     clear hS
     intro hA fh hS bJ hp
     replace hS := ((((((hS.nil).cons (hS.get 7 rfl)).cons (hS.get 6 rfl)).cons (hS.get 5 rfl)).cons (hS.get 4 rfl)).cons (hS.get 3 rfl)).cons (hS.get 2 rfl)
     have cP : sl _ 124 = .bool (decide (ac = 13)) := hp 1 (by decide)
     have hS := hS.cons cP
     clear hp cP
     refine cg _ _ ?_
     refine wp_cond_false ((hS.get 0 rfl).trans (bF (decide_eq_false c6))) ?_
     refine wp_skip ?_
     replace hS := ((((hS.nil).cons (hS.get 6 rfl)).cons (hS.get 5 rfl)).cons (hS.get 4 rfl)).cons (hS.get 3 rfl)
     (try simp only [Exit.then, Exit.inBlock])
     exact J4 _ _ ac am an ao ap aq ar au av aw ag aV aQ aK aL aM aI aD ay ak aE az al aa bV bW bX bY bZ b0 b1 b2 b3 b4 bs bt bu bv bw bx bz bA bB bC bD bE bG ai dc cu H hS bJ.1 ae ((bJ.2.1.block aa (blk_lt ah)).trans ah) ch ((bJ.2.1.block ai (blk_lt aS)).trans aS) af
    rw [if_pos c6] at H
    by_cases c7 : 0 ≤ ab
    rotate_left
    ·rw [if_neg c7] at H
     exact absurd H (by simp)
    rw [if_pos c7] at H
    by_cases c8 : ab < (ad.length : Int)
    rotate_left
    ·rw [if_neg c8] at H
     exact absurd H (by simp)
    rw [if_pos c8] at H
    by_cases c9 : 0 ≤ (wrap64 (ab + 1))
    rotate_left
    ·rw [if_neg c9] at H
     exact absurd H (by simp)
    rw [if_pos c9] at H
    by_cases jo : (wrap64 (ab + 1)) < (ad.length : Int)
    rotate_left
    ·rw [if_neg jo] at H
     exact absurd H (by simp)
    rw [if_pos jo] at H
    by_cases jp : 0 ≤ (wrap64 (ab + 2))
    rotate_left
    ·rw [if_neg jp] at H
     exact absurd H (by simp)
    rw [if_pos jp] at H
    by_cases jq : (wrap64 (ab + 2)) < (ad.length : Int)
    rotate_left
    ·rw [if_neg jq] at H
     exact absurd H (by simp)
    rw [if_pos jq] at H
    refine wp_seq_k (fun go ce => ?_)
    refine reg_seq (I := I2_ w bb) (ps := [VP aa 0, VI ac]) (by kernel_rfl) ?_ ?_ rfl hS ⟨da, (bR bb)⟩ ?_ ?_
    ·exact bs2
    ·exact .v (.v (.nil))
    ·refine .on rfl (fun a w hS hI hp => does_val (x_fieldE (b := 0) rfl (hS.get 2 rfl) Try.underlying28 rfl rfl (by kernel_rfl)) rfl) ?_
     refine .on rfl (fun a w hS hI hp => does_val (x_load1 (d := .int .i64) rfl (hp.V 0 rfl rfl) (by kernel_rfl) rfl ((blk_cell (((hI.2).block aa (blk_lt ah)).trans ah) 0).trans rfl)) rfl) ?_
     exact .nil
    clear hS
    intro fl bO hS be hp
    have cj : sl _ 66 = .int .i64 ac := hp 1 (by decide)
    have hS := hS.cons cj
    clear hp cj
    refine ce _ _ ?_
    refine wp_block ?_
    refine wp_seq_k (fun gp cf => ?_)
    refine reg_seq (I := I3_ w bb bO) (ps := [VB (decide (ac = 11)), VB (decide (ac = 11))]) (by kernel_rfl) ?_ ?_ rfl hS ⟨be.1, be.2, (bR bO)⟩ ?_ ?_
    ·exact bs3
    ·exact .v (.v (.nil))
    ·refine .on rfl (fun a w hS hI hp => does_val (x_bin rfl (hS.get 0 rfl) (rfl) (b_eql _ _ _ _ _ _)) rfl) ?_
     refine .asg 0 rfl rfl rfl rfl ?_
     exact .nil
    clear hS
    intro fm bP hS bf hp
    have ck : sl _ 67 = .bool (decide (ac = 11)) := hp 1 (by decide)
    have hS := hS.cons ck
    clear hp ck
    refine cf _ _ ?_
    refine wp_cond_false ((hS.get 0 rfl).trans (bF (decide_eq_false c5))) ?_
    refine wp_seq_k (fun gq cg => ?_)
    refine reg_seq (I := I3_ w bb bP) (ps := [VB (decide (ac = 13)), VB (decide (ac = 13))]) (by kernel_rfl) ?_ ?_ rfl hS ⟨bf.1, bf.2.1, (bR bP)⟩ ?_ ?_
    ·exact bs3
    ·exact .v (.v (.nil))
    ·refine .on rfl (fun a w hS hI hp => does_val (x_bin rfl (hS.get 1 rfl) (rfl) (b_eql _ _ _ _ _ _)) rfl) ?_
     refine .asg 0 rfl rfl rfl rfl ?_
     exact .nil
    clear hS
    intro hA fh hS bJ hp
    replace hS := ((((((hS.nil).cons (hS.get 7 rfl)).cons (hS.get 6 rfl)).cons (hS.get 5 rfl)).cons (hS.get 4 rfl)).cons (hS.get 3 rfl)).cons (hS.get 2 rfl)
    have cP : sl _ 124 = .bool (decide (ac = 13)) := hp 1 (by decide)
    have hS := hS.cons cP
    clear hp cP
    refine cg _ _ ?_
    refine wp_cond_true ((hS.get 0 rfl).trans (bT (decide_eq_true c6))) ?_
    obtain ⟨dZ, bc⟩ := row_some (0 : Int) (Kd.C_below aF bJ.1) c7 c8
    refine reg_float (I := I3_ w bb fh) (C := fun x => Kd.C (Kd.int .u8) x aN ad.length ad) [true, true, true, true, true, true, true, true, true, true, true, true, true, true, true, true, true, true, true, false, false, false, false, false] [.slice aN ad.length aO, .int .i64 ab, .pointer (some (dZ.add ((ab : Int).toNat * 1))), .int .u8 (rd ad ab), .int .i64 (wrap64 (rd ad ab)), .slice aN ad.length aO, .int .i64 ab, .int .i64 (wrap64 (ab + 1)), .pointer (some (dZ.add ((wrap64 (ab + 1) : Int).toNat * 1))), .int .u8 (rd ad (wrap64 (ab + 1))), .int .i64 (wrap64 (rd ad (wrap64 (ab + 1)))), .slice aN ad.length aO, .int .i64 ab, .int .i64 (wrap64 (ab + 2)), .pointer (some (dZ.add ((wrap64 (ab + 2) : Int).toNat * 1))), .int .u8 (rd ad (wrap64 (ab + 2))), .int .u8 (Go.bits .and .u8 (rd ad (wrap64 (ab + 2))) 15), .int .i64 (wrap64 (Go.bits .and .u8 (rd ad (wrap64 (ab + 2))) 15)), .pointer (some ⟨aa, 20, none⟩), undef, undef, undef, undef, undef] [0, 0, 3, 7, 15, 0, 0, 64, 224, 480, 992, 0, 0, 4096, 14336, 30720, 63488, 129024, 31, 262175, 788479, 1837055, 4194303, 8388607] (by kernel_rfl) (by kernel_rfl) rfl ?_ ?_ hS ⟨bJ.1, bJ.2.1, (bR fh)⟩ ?_ ?_
    ·exact bs3
    ·exact fun x hI => (Kd.C_below aF hI.1)
    ·intro a hS hp
     refine .g (fun w hC => GRun.on rfl (x_move rfl (hS.get 1 rfl))) ?_
     refine .g (fun w hC => GRun.on rfl (x_move rfl (hS.get 2 rfl))) ?_
     refine .g (fun w hC => GRun.on rfl (x_index (sz := 1) (e := 5) rfl ((hp.get 0 rfl rfl rfl).trans (by rw [bc])) ((hp.get 1 rfl rfl rfl)) (by kernel_rfl) (by kernel_rfl) c7 c8)) ?_
     refine .g (fun w hC => GRun.on rfl (x_load1 (d := .int .u8) rfl ((hp.get 2 rfl rfl rfl)) (by kernel_rfl) rfl (row_cell1 (flat_int .u8) (0 : Int) (bc ▸ hC) ab c7 c8 _ rfl))) ?_
     refine .g (fun w hC => GRun.on rfl ((i64_w (rd ad ab)) ▸ x_convI rfl (by kernel_rfl) (by kernel_rfl) ((hp.get 3 rfl rfl rfl)))) ?_
     refine .g (fun w hC => GRun.on rfl (x_move rfl (hS.get 1 rfl))) ?_
     refine .g (fun w hC => GRun.on rfl (x_move rfl (hS.get 2 rfl))) ?_
     refine .g (fun w hC => GRun.on rfl (x_bin rfl ((hp.get 6 rfl rfl rfl)) (rfl) (b_add _ _ _ _ _))) ?_
     refine .g (fun w hC => GRun.on rfl (x_index (sz := 1) (e := 5) rfl ((hp.get 5 rfl rfl rfl).trans (by rw [bc])) ((hp.get 7 rfl rfl rfl)) (by kernel_rfl) (by kernel_rfl) c9 jo)) ?_
     refine .g (fun w hC => GRun.on rfl (x_load1 (d := .int .u8) rfl ((hp.get 8 rfl rfl rfl)) (by kernel_rfl) rfl (row_cell1 (flat_int .u8) (0 : Int) (bc ▸ hC) (wrap64 (ab + 1)) c9 jo _ rfl))) ?_
     refine .g (fun w hC => GRun.on rfl ((i64_w (rd ad (wrap64 (ab + 1)))) ▸ x_convI rfl (by kernel_rfl) (by kernel_rfl) ((hp.get 9 rfl rfl rfl)))) ?_
     refine .g (fun w hC => GRun.on rfl (x_move rfl (hS.get 1 rfl))) ?_
     refine .g (fun w hC => GRun.on rfl (x_move rfl (hS.get 2 rfl))) ?_
     refine .g (fun w hC => GRun.on rfl (x_bin rfl ((hp.get 12 rfl rfl rfl)) (rfl) (b_add _ _ _ _ _))) ?_
     refine .g (fun w hC => GRun.on rfl (x_index (sz := 1) (e := 5) rfl ((hp.get 11 rfl rfl rfl).trans (by rw [bc])) ((hp.get 13 rfl rfl rfl)) (by kernel_rfl) (by kernel_rfl) jp jq)) ?_
     refine .g (fun w hC => GRun.on rfl (x_load1 (d := .int .u8) rfl ((hp.get 14 rfl rfl rfl)) (by kernel_rfl) rfl (row_cell1 (flat_int .u8) (0 : Int) (bc ▸ hC) (wrap64 (ab + 2)) jp jq _ rfl))) ?_
     refine .g (fun w hC => GRun.on rfl (x_bin rfl ((hp.get 15 rfl rfl rfl)) (rfl) (b_and _ _ _ _ _ _))) ?_
     refine .g (fun w hC => GRun.on rfl ((i64_w (Go.bits .and .u8 (rd ad (wrap64 (ab + 2))) 15)) ▸ x_convI rfl (by kernel_rfl) (by kernel_rfl) ((hp.get 16 rfl rfl rfl)))) ?_
     refine .g (fun w hC => GRun.on rfl (x_fieldE (b := 0) rfl (hS.get 3 rfl) Try.underlying28 rfl rfl (by kernel_rfl))) ?_
     iterate 5 refine .t ?_
     exact .nil
    clear hS
    intro jS kT hS hp cS
    have hS := hS.cons (show sl _ 130 = .int .i64 (wrap64 (rd ad ab)) from hp.get 4 rfl rfl rfl)
    have hS := hS.cons (show sl _ 136 = .int .i64 (wrap64 (rd ad (wrap64 (ab + 1)))) from hp.get 10 rfl rfl rfl)
    have hS := hS.cons (show sl _ 143 = .int .i64 (wrap64 (Go.bits .and .u8 (rd ad (wrap64 (ab + 2))) 15)) from hp.get 17 rfl rfl rfl)
    have hS := hS.cons (show sl _ 144 = .pointer (some ⟨aa, 20, none⟩) from hp.get 18 rfl rfl rfl)
    clear hp
    show ListC _ _ _ _ [_, _, _, _, _] _ _
    refine lc_step rfl (does_store (g := aa) (off := 20) (v := .int .i64 (wrap64 (rd ad ab))) (new := (body_Get.c1 ac am an ao ap aq ar au av aw ag aV aQ aK aL aM aI aD ay ak (wrap64 (rd ad ab)) az al)) rfl (hS.get 0 rfl) (hS.get 3 rfl) ((cS.2.1.block aa (blk_lt ah)).trans ah) (by kernel_rfl) (by kernel_rfl) (by kernel_rfl) (by kernel_rfl)) ?_
    rintro kp iK ⟨rfl, d3, hT⟩
    have fF := hT.blk ((cS.2.1.block ai (blk_lt aS)).trans aS) af
    have dw := hT.below cS.1 ae (cS.1).size
    clear hT
    refine ⟨(Kd.C_below aF dw), ?_⟩
    refine lc_step rfl (R := fun v w' => Below _ _ w' ∧ (VP aa 21) v w') (does_val (x_fieldE (b := 0) rfl (hS.get 7 rfl) Try.underlying28 rfl rfl (by kernel_rfl)) rfl) ?_
    rintro ii kU ⟨hb, he⟩
    have cc := below_step dw hb
    have b8 := below_step (bR iK) hb
    obtain rfl : ii = .pointer (some ⟨aa, 21, none⟩) := he
    refine ⟨(Kd.C_below aF cc), ?_⟩
    refine hS.nextC (v := .pointer (some ⟨aa, 21, none⟩)) (d := 145) rfl (by decide) (by rfl) ?_
    clear hS
    intro jU hS
    refine lc_step rfl (does_store (g := aa) (off := 21) (v := .int .i64 (wrap64 (rd ad (wrap64 (ab + 1))))) (new := (body_Get.c1 ac am an ao ap aq ar au av aw ag aV aQ aK aL aM aI aD ay ak (wrap64 (rd ad ab)) (wrap64 (rd ad (wrap64 (ab + 1)))) al)) rfl (hS.get 0 rfl) (hS.get 3 rfl) ((b8.block aa (blk_lt d3)).trans d3) (by kernel_rfl) (by kernel_rfl) (by kernel_rfl) (by kernel_rfl)) ?_
    rintro ij dL ⟨rfl, bI, hT⟩
    have ci := hT.blk ((b8.block ai (blk_lt fF)).trans fF) af
    have bM := hT.below cc ae (cc).size
    clear hT
    refine ⟨(Kd.C_below aF bM), ?_⟩
    refine lc_step rfl (R := fun v w' => Below _ _ w' ∧ (VP aa 22) v w') (does_val (x_fieldE (b := 0) rfl (hS.get 8 rfl) Try.underlying28 rfl rfl (by kernel_rfl)) rfl) ?_
    rintro ik kW ⟨hb, he⟩
    have cd := below_step bM hb
    have b9 := below_step (bR dL) hb
    obtain rfl : ik = .pointer (some ⟨aa, 22, none⟩) := he
    refine ⟨(Kd.C_below aF cd), ?_⟩
    refine hS.nextC (v := .pointer (some ⟨aa, 22, none⟩)) (d := 146) rfl (by decide) (by rfl) ?_
    clear hS
    intro jV hS
    refine lc_step rfl (does_store (g := aa) (off := 22) (v := .int .i64 (wrap64 (Go.bits .and .u8 (rd ad (wrap64 (ab + 2))) 15))) (new := (body_Get.c1 ac am an ao ap aq ar au av aw ag aV aQ aK aL aM aI aD ay ak (wrap64 (rd ad ab)) (wrap64 (rd ad (wrap64 (ab + 1)))) (wrap64 (Go.bits .and .u8 (rd ad (wrap64 (ab + 2))) 15)))) rfl (hS.get 0 rfl) (hS.get 3 rfl) ((b9.block aa (blk_lt bI)).trans bI) (by kernel_rfl) (by kernel_rfl) (by kernel_rfl) (by kernel_rfl)) ?_
    rintro kq gT ⟨rfl, d4, hT⟩
    have fG := hT.blk ((b9.block ai (blk_lt ci)).trans ci) af
    have dx := hT.below cd ae (cd).size
    clear hT
    refine ⟨(Kd.C_below aF dx), ?_⟩
    refine lc_nil ?_
    replace hS := ((((hS.nil).cons (hS.get 12 rfl)).cons (hS.get 11 rfl)).cons (hS.get 10 rfl)).cons (hS.get 9 rfl)
    (try simp only [Exit.then, Exit.inBlock])
    exact J4 _ _ ac am an ao ap aq ar au av aw ag aV aQ aK aL aM aI aD ay ak (wrap64 (rd ad ab)) (wrap64 (rd ad (wrap64 (ab + 1)))) (wrap64 (Go.bits .and .u8 (rd ad (wrap64 (ab + 2))) 15)) aa bV bW bX bY bZ b0 b1 b2 b3 b4 bs bt bu bv bw bx bz bA bB bC bD bE bG ai dc cu H hS dx ae (((bR gT).block aa (blk_lt d4)).trans d4) ch (((bR gT).block ai (blk_lt fG)).trans fG) af
   rw [if_pos c5] at H
   obtain ⟨iB, hg, H⟩ := Option.bind_eq_some_iff.mp H
   obtain ⟨aj, cm⟩ := iB
   (try dsimp only at H)
   obtain ⟨iC, hh, H⟩ := Option.bind_eq_some_iff.mp H
   obtain ⟨ax, cn⟩ := iC
   (try dsimp only at H)
   obtain ⟨iD, hi, H⟩ := Option.bind_eq_some_iff.mp H
   obtain ⟨aA, aB, aC, co⟩ := iD
   (try dsimp only at H)
   obtain ⟨iE, hj, H⟩ := Option.bind_eq_some_iff.mp H
   obtain ⟨aH, cp⟩ := iE
   (try dsimp only at H)
   obtain ⟨iF, hk, H⟩ := Option.bind_eq_some_iff.mp H
   obtain ⟨aJ, cq⟩ := iF
   (try dsimp only at H)
   obtain ⟨iG, hl, H⟩ := Option.bind_eq_some_iff.mp H
   obtain ⟨aP, cr⟩ := iG
   (try dsimp only at H)
   obtain ⟨iH, hm, H⟩ := Option.bind_eq_some_iff.mp H
   obtain ⟨aU, ct⟩ := iH
   (try dsimp only at H)
   refine wp_seq_k (fun go ce => ?_)
   refine reg_seq (I := I2_ w bb) (ps := [VP aa 0, VI ac]) (by kernel_rfl) ?_ ?_ rfl hS ⟨da, (bR bb)⟩ ?_ ?_
   ·exact bs2
   ·exact .v (.v (.nil))
   ·refine .on rfl (fun a w hS hI hp => does_val (x_fieldE (b := 0) rfl (hS.get 2 rfl) Try.underlying28 rfl rfl (by kernel_rfl)) rfl) ?_
    refine .on rfl (fun a w hS hI hp => does_val (x_load1 (d := .int .i64) rfl (hp.V 0 rfl rfl) (by kernel_rfl) rfl ((blk_cell (((hI.2).block aa (blk_lt ah)).trans ah) 0).trans rfl)) rfl) ?_
    exact .nil
   clear hS
   intro fl bO hS be hp
   have cj : sl _ 66 = .int .i64 ac := hp 1 (by decide)
   have hS := hS.cons cj
   clear hp cj
   refine ce _ _ ?_
   refine wp_block ?_
   refine wp_seq_k (fun gp cf => ?_)
   refine reg_seq (I := I3_ w bb bO) (ps := [VB (decide (ac = 11)), VB (decide (ac = 11))]) (by kernel_rfl) ?_ ?_ rfl hS ⟨be.1, be.2, (bR bO)⟩ ?_ ?_
   ·exact bs3
   ·exact .v (.v (.nil))
   ·refine .on rfl (fun a w hS hI hp => does_val (x_bin rfl (hS.get 0 rfl) (rfl) (b_eql _ _ _ _ _ _)) rfl) ?_
    refine .asg 0 rfl rfl rfl rfl ?_
    exact .nil
   clear hS
   intro fm bP hS bf hp
   have ck : sl _ 67 = .bool (decide (ac = 11)) := hp 1 (by decide)
   have hS := hS.cons ck
   clear hp ck
   refine cf _ _ ?_
   refine wp_cond_true ((hS.get 0 rfl).trans (bT (decide_eq_true c5))) ?_
   refine wp_seq_k (fun gq cg => ?_)
   refine reg_seq_tail 7 (I := I3_ w bb bP) (ps := [IsV (.slice aN ad.length aO), VI ab, IsV (.tuple #[.int .i64 aj, .bool cm]), IsV (.tuple #[.int .i64 aj, .bool cm]), VI aj, VB cm, VP aa 11]) (by kernel_rfl) ?_ ?_ rfl hS ⟨bf.1, bf.2.1, (bR bP)⟩ ?_ ?_
   ·exact bs3
   ·exact .v (.v (.v (.v (.v (.v (.v (.nil)))))))
   ·refine .ms 2 rfl rfl rfl ?_
    refine .ms 3 rfl rfl rfl ?_
    refine .on rfl (fun a w hS hI hp => does_call (by kernel_rfl) (ar3 (hp.V 0 rfl rfl) (hp.V 1 rfl rfl) (rfl)) ((octets_Signed.calls k _ _ ad ab 2 aj cm _ (Kd.C_below aF hI.1) b7 hg).mono fun _ _ h => ⟨_, h.1, h.2.below, rfl⟩)) ?_
    refine .mv 2 rfl rfl rfl rfl ?_
    iterate 2 refine .on rfl (fun a w hS hI hp => does_val (x_extract rfl (hp.V 3 rfl rfl) rfl) rfl) ?_
    refine .on rfl (fun a w hS hI hp => does_val (x_fieldE (b := 0) rfl (hS.get 4 rfl) Try.underlying28 rfl rfl (by kernel_rfl)) rfl) ?_
    exact .nil
   clear hS
   intro jR kS hS cR hp
   replace hS := ((((((hS.nil).cons (hS.get 7 rfl)).cons (hS.get 6 rfl)).cons (hS.get 5 rfl)).cons (hS.get 4 rfl)).cons (hS.get 3 rfl)).cons (hS.get 2 rfl)
   have h4 : sl _ 73 = .int .i64 aj := hp 4 (by decide)
   have h5 : sl _ 75 = .pointer (some ⟨aa, 11, none⟩) := hp 6 (by decide)
   have hS := hS.cons h4
   have hS := hS.cons h5
   clear hp h4 h5
   show wpList _ _ _ [_] _ _
   refine list_step rfl (does_store (g := aa) (off := 11) (v := .int .i64 aj) (new := (body_Get.c1 ac am an ao ap aq ar au av aw ag aj aQ aK aL aM aI aD ay ak aE az al)) rfl (hS.get 0 rfl) (hS.get 1 rfl) ((cR.2.1.block aa (blk_lt ah)).trans ah) (by kernel_rfl) (by kernel_rfl) (by kernel_rfl) (by kernel_rfl)) ?_
   rintro ko gS ⟨rfl, d2, hT⟩
   have fE := hT.blk ((cR.2.1.block ai (blk_lt aS)).trans aS) af
   have fq := hT.below cR.1 ae (cR.1).size
   clear hT
   refine wpList_nil ?_
   refine cg _ _ ?_
   refine wp_seq_k (fun kF hL => ?_)
   refine reg_seq_tail 8 (I := I2_ w gS) (ps := [IsV (.slice aN ad.length aO), VI ab, VI (wrap64 (ab + 3)), IsV (.tuple #[.int .i64 ax, .bool cn]), IsV (.tuple #[.int .i64 ax, .bool cn]), VI ax, VB cn, VP aa 12]) (by kernel_rfl) ?_ ?_ rfl hS ⟨fq, (bR gS)⟩ ?_ ?_
   ·exact bs2
   ·exact .v (.v (.v (.v (.v (.v (.v (.v (.nil))))))))
   ·refine .ms 2 rfl rfl rfl ?_
    refine .ms 3 rfl rfl rfl ?_
    refine .on rfl (fun a w hS hI hp => does_val (x_bin rfl (hp.V 1 rfl rfl) (rfl) (b_add _ _ _ _ _)) rfl) ?_
    refine .on rfl (fun a w hS hI hp => does_call (by kernel_rfl) (ar3 (hp.V 0 rfl rfl) (hp.V 2 rfl rfl) (rfl)) ((octets_Get.calls k _ _ ad (wrap64 (ab + 3)) 1 ax cn _ (Kd.C_below aF hI.1) b7 hh).mono fun _ _ h => ⟨_, h.1, h.2.below, rfl⟩)) ?_
    refine .mv 3 rfl rfl rfl rfl ?_
    iterate 2 refine .on rfl (fun a w hS hI hp => does_val (x_extract rfl (hp.V 4 rfl rfl) rfl) rfl) ?_
    refine .on rfl (fun a w hS hI hp => does_val (x_fieldE (b := 0) rfl (hS.get 4 rfl) Try.underlying28 rfl rfl (by kernel_rfl)) rfl) ?_
    exact .nil
   clear hS
   intro jT kV hS cT hp
   replace hS := ((((((hS.nil).cons (hS.get 7 rfl)).cons (hS.get 6 rfl)).cons (hS.get 5 rfl)).cons (hS.get 4 rfl)).cons (hS.get 3 rfl)).cons (hS.get 2 rfl)
   have h6 : sl _ 81 = .int .i64 ax := hp 5 (by decide)
   have h7 : sl _ 83 = .pointer (some ⟨aa, 12, none⟩) := hp 7 (by decide)
   have hS := hS.cons h6
   have hS := hS.cons h7
   clear hp h6 h7
   show wpList _ _ _ [_] _ _
   refine list_step rfl (does_store (g := aa) (off := 12) (v := .int .i64 ax) (new := (body_Get.c1 ac am an ao ap aq ar au av aw ag aj ax aK aL aM aI aD ay ak aE az al)) rfl (hS.get 0 rfl) (hS.get 1 rfl) ((cT.2.block aa (blk_lt d2)).trans d2) (by kernel_rfl) (by kernel_rfl) (by kernel_rfl) (by kernel_rfl)) ?_
   rintro ij dL ⟨rfl, bI, hT⟩
   have ci := hT.blk ((cT.2.block ai (blk_lt fE)).trans fE) af
   have bM := hT.below cT.1 ae (cT.1).size
   clear hT
   refine wpList_nil ?_
   refine hL _ _ ?_
   refine wp_seq_k (fun kG hM => ?_)
   refine reg_seq_tail 8 (I := I2_ w dL) (ps := [IsV (.slice aN ad.length aO), VI ab, VI (wrap64 (ab + 4)), IsV (.tuple #[.agg #[.int .i64 aA, .int .i64 aB, .int .i64 aC], .bool co]), IsV (.tuple #[.agg #[.int .i64 aA, .int .i64 aB, .int .i64 aC], .bool co]), IsV (.agg #[.int .i64 aA, .int .i64 aB, .int .i64 aC]), VB co, VP aa 13]) (by kernel_rfl) ?_ ?_ rfl hS ⟨bM, (bR dL)⟩ ?_ ?_
   ·exact bs2
   ·exact .v (.v (.v (.v (.v (.v (.v (.v (.nil))))))))
   ·refine .ms 2 rfl rfl rfl ?_
    refine .ms 3 rfl rfl rfl ?_
    refine .on rfl (fun a w hS hI hp => does_val (x_bin rfl (hp.V 1 rfl rfl) (rfl) (b_add _ _ _ _ _)) rfl) ?_
    refine .on rfl (fun a w hS hI hp => does_call (by kernel_rfl) (ar2 (hp.V 0 rfl rfl) (hp.V 2 rfl rfl)) ((quality_Get.calls k _ _ ad (wrap64 (ab + 4)) aA aB aC co _ (Kd.C_below aF hI.1) b7 hi).mono fun _ _ h => ⟨_, h.1, h.2, rfl⟩)) ?_
    refine .mv 3 rfl rfl rfl rfl ?_
    iterate 2 refine .on rfl (fun a w hS hI hp => does_val (x_extract rfl (hp.V 4 rfl rfl) rfl) rfl) ?_
    refine .on rfl (fun a w hS hI hp => does_val (x_fieldE (b := 0) rfl (hS.get 4 rfl) Try.underlying28 rfl rfl (by kernel_rfl)) rfl) ?_
    exact .nil
   clear hS
   intro jW kX hS cU hp
   replace hS := ((((((hS.nil).cons (hS.get 7 rfl)).cons (hS.get 6 rfl)).cons (hS.get 5 rfl)).cons (hS.get 4 rfl)).cons (hS.get 3 rfl)).cons (hS.get 2 rfl)
   have h8 : sl _ 89 = .agg #[.int .i64 aA, .int .i64 aB, .int .i64 aC] := hp 5 (by decide)
   have h9 : sl _ 91 = .pointer (some ⟨aa, 13, none⟩) := hp 7 (by decide)
   have hS := hS.cons h8
   have hS := hS.cons h9
   clear hp h8 h9
   show wpList _ _ _ [_] _ _
   refine list_step rfl (does_store (g := aa) (off := 13) (v := .agg #[.int .i64 aA, .int .i64 aB, .int .i64 aC]) (new := (body_Get.c1 ac am an ao ap aq ar au av aw ag aj ax aA aB aC aI aD ay ak aE az al)) rfl (hS.get 0 rfl) (hS.get 1 rfl) ((cU.2.block aa (blk_lt bI)).trans bI) (by kernel_rfl) (by kernel_rfl) (by kernel_rfl) (by kernel_rfl)) ?_
   rintro kr gU ⟨rfl, d5, hT⟩
   have fH := hT.blk ((cU.2.block ai (blk_lt ci)).trans ci) af
   have fr := hT.below cU.1 ae (cU.1).size
   clear hT
   refine wpList_nil ?_
   refine hM _ _ ?_
   refine wp_seq_k (fun kH hN => ?_)
   refine reg_seq_tail 8 (I := I2_ w gU) (ps := [IsV (.slice aN ad.length aO), VI ab, VI (wrap64 (ab + 8)), IsV (.tuple #[.int .i64 aH, .bool cp]), IsV (.tuple #[.int .i64 aH, .bool cp]), VI aH, VB cp, VP aa 16]) (by kernel_rfl) ?_ ?_ rfl hS ⟨fr, (bR gU)⟩ ?_ ?_
   ·exact bs2
   ·exact .v (.v (.v (.v (.v (.v (.v (.v (.nil))))))))
   ·refine .ms 2 rfl rfl rfl ?_
    refine .ms 3 rfl rfl rfl ?_
    refine .on rfl (fun a w hS hI hp => does_val (x_bin rfl (hp.V 1 rfl rfl) (rfl) (b_add _ _ _ _ _)) rfl) ?_
    refine .on rfl (fun a w hS hI hp => does_call (by kernel_rfl) (ar3 (hp.V 0 rfl rfl) (hp.V 2 rfl rfl) (rfl)) ((octets_Get.calls k _ _ ad (wrap64 (ab + 8)) 1 aH cp _ (Kd.C_below aF hI.1) b7 hj).mono fun _ _ h => ⟨_, h.1, h.2.below, rfl⟩)) ?_
    refine .mv 3 rfl rfl rfl rfl ?_
    iterate 2 refine .on rfl (fun a w hS hI hp => does_val (x_extract rfl (hp.V 4 rfl rfl) rfl) rfl) ?_
    refine .on rfl (fun a w hS hI hp => does_val (x_fieldE (b := 0) rfl (hS.get 4 rfl) Try.underlying28 rfl rfl (by kernel_rfl)) rfl) ?_
    exact .nil
   clear hS
   intro jX kY hS cV hp
   replace hS := ((((((hS.nil).cons (hS.get 7 rfl)).cons (hS.get 6 rfl)).cons (hS.get 5 rfl)).cons (hS.get 4 rfl)).cons (hS.get 3 rfl)).cons (hS.get 2 rfl)
   have ia : sl _ 97 = .int .i64 aH := hp 5 (by decide)
   have ib : sl _ 99 = .pointer (some ⟨aa, 16, none⟩) := hp 7 (by decide)
   have hS := hS.cons ia
   have hS := hS.cons ib
   clear hp ia ib
   show wpList _ _ _ [_] _ _
   refine list_step rfl (does_store (g := aa) (off := 16) (v := .int .i64 aH) (new := (body_Get.c1 ac am an ao ap aq ar au av aw ag aj ax aA aB aC aH aD ay ak aE az al)) rfl (hS.get 0 rfl) (hS.get 1 rfl) ((cV.2.block aa (blk_lt d5)).trans d5) (by kernel_rfl) (by kernel_rfl) (by kernel_rfl) (by kernel_rfl)) ?_
   rintro ks gV ⟨rfl, d6, hT⟩
   have fI := hT.blk ((cV.2.block ai (blk_lt fH)).trans fH) af
   have fs := hT.below cV.1 ae (cV.1).size
   clear hT
   refine wpList_nil ?_
   refine hN _ _ ?_
   refine wp_seq_k (fun kI hO => ?_)
   refine reg_seq_tail 8 (I := I2_ w gV) (ps := [IsV (.slice aN ad.length aO), VI ab, VI (wrap64 (ab + 9)), IsV (.tuple #[.int .u64 aJ, .bool cq]), IsV (.tuple #[.int .u64 aJ, .bool cq]), IsV (.int .u64 aJ), VB cq, VP aa 17]) (by kernel_rfl) ?_ ?_ rfl hS ⟨fs, (bR gV)⟩ ?_ ?_
   ·exact bs2
   ·exact .v (.v (.v (.v (.v (.v (.v (.v (.nil))))))))
   ·refine .ms 2 rfl rfl rfl ?_
    refine .ms 3 rfl rfl rfl ?_
    refine .on rfl (fun a w hS hI hp => does_val (x_bin rfl (hp.V 1 rfl rfl) (rfl) (b_add _ _ _ _ _)) rfl) ?_
    refine .on rfl (fun a w hS hI hp => does_call (by kernel_rfl) (ar2 (hp.V 0 rfl rfl) (hp.V 2 rfl rfl)) ((octets_GetId.calls k _ _ ad (wrap64 (ab + 9)) aJ cq _ (Kd.C_below aF hI.1) b7 hk).mono fun _ _ h => ⟨_, h.1, h.2.below, rfl⟩)) ?_
    refine .mv 3 rfl rfl rfl rfl ?_
    iterate 2 refine .on rfl (fun a w hS hI hp => does_val (x_extract rfl (hp.V 4 rfl rfl) rfl) rfl) ?_
    refine .on rfl (fun a w hS hI hp => does_val (x_fieldE (b := 0) rfl (hS.get 4 rfl) Try.underlying28 rfl rfl (by kernel_rfl)) rfl) ?_
    exact .nil
   clear hS
   intro jY kZ hS cW hp
   replace hS := ((((((hS.nil).cons (hS.get 7 rfl)).cons (hS.get 6 rfl)).cons (hS.get 5 rfl)).cons (hS.get 4 rfl)).cons (hS.get 3 rfl)).cons (hS.get 2 rfl)
   have gG : sl _ 105 = .int .u64 aJ := hp 5 (by decide)
   have gH : sl _ 107 = .pointer (some ⟨aa, 17, none⟩) := hp 7 (by decide)
   have hS := hS.cons gG
   have hS := hS.cons gH
   clear hp gG gH
   show wpList _ _ _ [_] _ _
   refine list_step rfl (does_store (g := aa) (off := 17) (v := .int .u64 aJ) (new := (body_Get.c1 ac am an ao ap aq ar au av aw ag aj ax aA aB aC aH aJ ay ak aE az al)) rfl (hS.get 0 rfl) (hS.get 1 rfl) ((cW.2.block aa (blk_lt d6)).trans d6) (by kernel_rfl) (by kernel_rfl) (by kernel_rfl) (by kernel_rfl)) ?_
   rintro kt gW ⟨rfl, d7, hT⟩
   have fJ := hT.blk ((cW.2.block ai (blk_lt fI)).trans fI) af
   have ft := hT.below cW.1 ae (cW.1).size
   clear hT
   refine wpList_nil ?_
   refine hO _ _ ?_
   refine wp_seq_k (fun kJ hP => ?_)
   refine reg_seq_tail 8 (I := I2_ w gW) (ps := [IsV (.slice aN ad.length aO), VI ab, VI (wrap64 (ab + 17)), IsV (.tuple #[.int .i64 aP, .bool cr]), IsV (.tuple #[.int .i64 aP, .bool cr]), VI aP, VB cr, VP aa 18]) (by kernel_rfl) ?_ ?_ rfl hS ⟨ft, (bR gW)⟩ ?_ ?_
   ·exact bs2
   ·exact .v (.v (.v (.v (.v (.v (.v (.v (.nil))))))))
   ·refine .ms 2 rfl rfl rfl ?_
    refine .ms 3 rfl rfl rfl ?_
    refine .on rfl (fun a w hS hI hp => does_val (x_bin rfl (hp.V 1 rfl rfl) (rfl) (b_add _ _ _ _ _)) rfl) ?_
    refine .on rfl (fun a w hS hI hp => does_call (by kernel_rfl) (ar3 (hp.V 0 rfl rfl) (hp.V 2 rfl rfl) (rfl)) ((octets_Get.calls k _ _ ad (wrap64 (ab + 17)) 2 aP cr _ (Kd.C_below aF hI.1) b7 hl).mono fun _ _ h => ⟨_, h.1, h.2.below, rfl⟩)) ?_
    refine .mv 3 rfl rfl rfl rfl ?_
    iterate 2 refine .on rfl (fun a w hS hI hp => does_val (x_extract rfl (hp.V 4 rfl rfl) rfl) rfl) ?_
    refine .on rfl (fun a w hS hI hp => does_val (x_fieldE (b := 0) rfl (hS.get 4 rfl) Try.underlying28 rfl rfl (by kernel_rfl)) rfl) ?_
    exact .nil
   clear hS
   intro jZ k0 hS cX hp
   replace hS := ((((((hS.nil).cons (hS.get 7 rfl)).cons (hS.get 6 rfl)).cons (hS.get 5 rfl)).cons (hS.get 4 rfl)).cons (hS.get 3 rfl)).cons (hS.get 2 rfl)
   have gI : sl _ 113 = .int .i64 aP := hp 5 (by decide)
   have gJ : sl _ 115 = .pointer (some ⟨aa, 18, none⟩) := hp 7 (by decide)
   have hS := hS.cons gI
   have hS := hS.cons gJ
   clear hp gI gJ
   show wpList _ _ _ [_] _ _
   refine list_step rfl (does_store (g := aa) (off := 18) (v := .int .i64 aP) (new := (body_Get.c1 ac am an ao ap aq ar au av aw ag aj ax aA aB aC aH aJ aP ak aE az al)) rfl (hS.get 0 rfl) (hS.get 1 rfl) ((cX.2.block aa (blk_lt d7)).trans d7) (by kernel_rfl) (by kernel_rfl) (by kernel_rfl) (by kernel_rfl)) ?_
   rintro ku gX ⟨rfl, d8, hT⟩
   have fK := hT.blk ((cX.2.block ai (blk_lt fJ)).trans fJ) af
   have fu := hT.below cX.1 ae (cX.1).size
   clear hT
   refine wpList_nil ?_
   refine hP _ _ ?_
   refine reg_seq_tail 8 (I := I2_ w gX) (ps := [IsV (.slice aN ad.length aO), VI ab, VI (wrap64 (ab + 19)), IsV (.tuple #[.int .i64 aU, .bool ct]), IsV (.tuple #[.int .i64 aU, .bool ct]), VI aU, VB ct, VP aa 19]) (by kernel_rfl) ?_ ?_ rfl hS ⟨fu, (bR gX)⟩ ?_ ?_
   ·exact bs2
   ·exact .v (.v (.v (.v (.v (.v (.v (.v (.nil))))))))
   ·refine .ms 2 rfl rfl rfl ?_
    refine .ms 3 rfl rfl rfl ?_
    refine .on rfl (fun a w hS hI hp => does_val (x_bin rfl (hp.V 1 rfl rfl) (rfl) (b_add _ _ _ _ _)) rfl) ?_
    refine .on rfl (fun a w hS hI hp => does_call (by kernel_rfl) (ar3 (hp.V 0 rfl rfl) (hp.V 2 rfl rfl) (rfl)) ((octets_Get.calls k _ _ ad (wrap64 (ab + 19)) 1 aU ct _ (Kd.C_below aF hI.1) b7 hm).mono fun _ _ h => ⟨_, h.1, h.2.below, rfl⟩)) ?_
    refine .mv 3 rfl rfl rfl rfl ?_
    iterate 2 refine .on rfl (fun a w hS hI hp => does_val (x_extract rfl (hp.V 4 rfl rfl) rfl) rfl) ?_
    refine .on rfl (fun a w hS hI hp => does_val (x_fieldE (b := 0) rfl (hS.get 4 rfl) Try.underlying28 rfl rfl (by kernel_rfl)) rfl) ?_
    exact .nil
   clear hS
   intro j0 k1 hS cY hp
   replace hS := ((((hS.nil).cons (hS.get 7 rfl)).cons (hS.get 6 rfl)).cons (hS.get 5 rfl)).cons (hS.get 4 rfl)
   have gK : sl _ 121 = .int .i64 aU := hp 5 (by decide)
   have gL : sl _ 123 = .pointer (some ⟨aa, 19, none⟩) := hp 7 (by decide)
   have hS := hS.cons gK
   have hS := hS.cons gL
   clear hp gK gL
   show wpList _ _ _ [_] _ _
   refine list_step rfl (does_store (g := aa) (off := 19) (v := .int .i64 aU) (new := (body_Get.c1 ac am an ao ap aq ar au av aw ag aj ax aA aB aC aH aJ aP aU aE az al)) rfl (hS.get 0 rfl) (hS.get 1 rfl) ((cY.2.block aa (blk_lt d8)).trans d8) (by kernel_rfl) (by kernel_rfl) (by kernel_rfl) (by kernel_rfl)) ?_
   rintro kv gY ⟨rfl, d9, hT⟩
   have fL := hT.blk ((cY.2.block ai (blk_lt fK)).trans fK) af
   have fv := hT.below cY.1 ae (cY.1).size
   clear hT
   refine wpList_nil ?_
   replace hS := ((((hS.nil).cons (hS.get 5 rfl)).cons (hS.get 4 rfl)).cons (hS.get 3 rfl)).cons (hS.get 2 rfl)
   (try simp only [Exit.then, Exit.inBlock])
   exact J4 _ _ ac am an ao ap aq ar au av aw ag aj ax aA aB aC aH aJ aP aU aE az al aa bV bW bX bY bZ b0 b1 b2 b3 b4 bs bt bu bv bw bx bz bA bB bC bD bE bG ai dc cu H hS fv ae (((bR gY).block aa (blk_lt d9)).trans d9) ch (((bR gY).block ai (blk_lt fL)).trans fL) af
  obtain ⟨fg, iP, H⟩ := Option.bind_eq_some_iff.mp H
  by_cases c5 : fg = true
  rotate_left
  ·rw [if_neg c5] at H
   refine wp_seq_k (fun kE hH => ?_)
   refine reg_seq (I := I3_ w dt gj) (ps := [VP aR 0, VI ca, VB fg]) (by kernel_rfl) ?_ ?_ rfl hS ⟨eu, fj, (bR gj)⟩ ?_ ?_
   ·exact bs3
   ·exact .v (.v (.v (.nil)))
   ·refine .on rfl (fun a w hS hI hp => does_val (x_fieldE (b := 0) rfl (hS.get 3 rfl) Try.underlying28 rfl rfl (by kernel_rfl)) rfl) ?_
    refine .on rfl (fun a w hS hI hp => does_val (x_load1 (d := .int .i64) rfl (hp.V 0 rfl rfl) (by kernel_rfl) rfl ((blk_cell (((hI.2.1).block aR (blk_lt bH)).trans bH) 0).trans rfl)) rfl) ?_
    refine .on rfl (fun a w hS hI hp => does_call (by kernel_rfl) (ar1 (hp.V 1 rfl rfl)) ((body_targeted.calls ca fg _  iP).mono fun _ _ h => ⟨_, h.1, h.2.below, rfl⟩)) ?_
    exact .nil
   clear hS
   intro jN iJ hS eD hp
   replace hS := ((((((hS.nil).cons (hS.get 6 rfl)).cons (hS.get 5 rfl)).cons (hS.get 4 rfl)).cons (hS.get 3 rfl)).cons (hS.get 2 rfl)).cons (hS.get 0 rfl)
   have ee : sl _ 55 = .bool fg := hp 2 (by decide)
   have hS := hS.cons ee
   clear hp ee
   refine hH _ _ ?_
   refine wp_cond_false ((hS.get 0 rfl).trans (bF (Bool.eq_false_iff.2 c5))) ?_
   refine wp_skip ?_
   replace hS := ((((((hS.nil).cons (hS.get 6 rfl)).cons (hS.get 5 rfl)).cons (hS.get 4 rfl)).cons (hS.get 3 rfl)).cons (hS.get 1 rfl)).cons (hS.get 2 rfl)
   (try simp only [Exit.then, Exit.inBlock])
   exact J3 _ _ c0 es et (wrap64 (bK + 10)) ca dB dC dD dE dF dG dH aT eZ dY cD cE cF cG cH cI cJ cK cL cM cN cO aR f4 f5 f6 f7 f8 f9 ga gb gc gd e0 e1 e2 e3 e4 e5 e6 e7 e8 e9 fa fb fc bU ir g3 H hS eD.1 gF (fA) dA ((eD.2.1.block aR (blk_lt bH)).trans bH) fC ((eD.2.1.block bU (blk_lt eb)).trans eb) cy
  rw [if_pos c5] at H
  obtain ⟨kN, jC, H⟩ := Option.bind_eq_some_iff.mp H
  obtain ⟨cB, cC, gi⟩ := kN
  (try dsimp only at H)
  refine wp_seq_k (fun kE hH => ?_)
  refine reg_seq (I := I3_ w dt gj) (ps := [VP aR 0, VI ca, VB fg]) (by kernel_rfl) ?_ ?_ rfl hS ⟨eu, fj, (bR gj)⟩ ?_ ?_
  ·exact bs3
  ·exact .v (.v (.v (.nil)))
  ·refine .on rfl (fun a w hS hI hp => does_val (x_fieldE (b := 0) rfl (hS.get 3 rfl) Try.underlying28 rfl rfl (by kernel_rfl)) rfl) ?_
   refine .on rfl (fun a w hS hI hp => does_val (x_load1 (d := .int .i64) rfl (hp.V 0 rfl rfl) (by kernel_rfl) rfl ((blk_cell (((hI.2.1).block aR (blk_lt bH)).trans bH) 0).trans rfl)) rfl) ?_
   refine .on rfl (fun a w hS hI hp => does_call (by kernel_rfl) (ar1 (hp.V 1 rfl rfl)) ((body_targeted.calls ca fg _  iP).mono fun _ _ h => ⟨_, h.1, h.2.below, rfl⟩)) ?_
   exact .nil
  clear hS
  intro jN iJ hS eD hp
  replace hS := ((((((hS.nil).cons (hS.get 6 rfl)).cons (hS.get 5 rfl)).cons (hS.get 4 rfl)).cons (hS.get 3 rfl)).cons (hS.get 2 rfl)).cons (hS.get 0 rfl)
  have ee : sl _ 55 = .bool fg := hp 2 (by decide)
  have hS := hS.cons ee
  clear hp ee
  refine hH _ _ ?_
  refine wp_cond_true ((hS.get 0 rfl).trans (bT c5)) ?_
  refine wp_seq_k (fun lt ke => ?_)
  refine reg_seq_tail 7 (I := I3_ w dt iJ) (ps := [IsV (.slice es c0.length et), VI (wrap64 (bK + 10)), IsV (.tuple #[.agg #[.int .u64 cB, .int .i64 cC], .bool gi]), IsV (.tuple #[.agg #[.int .u64 cB, .int .i64 cC], .bool gi]), IsV (.agg #[.int .u64 cB, .int .i64 cC]), VB gi, VP aR 9]) (by kernel_rfl) ?_ ?_ rfl hS ⟨eD.1, eD.2.1, (bR iJ)⟩ ?_ ?_
  ·exact bs3
  ·exact .v (.v (.v (.v (.v (.v (.v (.nil)))))))
  ·refine .ms 2 rfl rfl rfl ?_
   refine .ms 1 rfl rfl rfl ?_
   refine .on rfl (fun a w hS hI hp => does_call (by kernel_rfl) (ar2 (hp.V 0 rfl rfl) (hp.V 1 rfl rfl)) ((ident_Get.calls k _ _ c0 (wrap64 (bK + 10)) cB cC gi _ (Kd.C_below fA hI.1) gF jC).mono fun _ _ h => ⟨_, h.1, h.2, rfl⟩)) ?_
   refine .mv 2 rfl rfl rfl rfl ?_
   iterate 2 refine .on rfl (fun a w hS hI hp => does_val (x_extract rfl (hp.V 3 rfl rfl) rfl) rfl) ?_
   refine .on rfl (fun a w hS hI hp => does_val (x_fieldE (b := 0) rfl (hS.get 3 rfl) Try.underlying28 rfl rfl (by kernel_rfl)) rfl) ?_
   exact .nil
  clear hS
  intro lj lx hS gP hp
  replace hS := ((((((hS.nil).cons (hS.get 6 rfl)).cons (hS.get 5 rfl)).cons (hS.get 4 rfl)).cons (hS.get 3 rfl)).cons (hS.get 2 rfl)).cons (hS.get 1 rfl)
  have h1 : sl _ 60 = .agg #[.int .u64 cB, .int .i64 cC] := hp 4 (by decide)
  have h2 : sl _ 62 = .pointer (some ⟨aR, 9, none⟩) := hp 6 (by decide)
  have hS := hS.cons h1
  have hS := hS.cons h2
  clear hp h1 h2
  show wpList _ _ _ [_] _ _
  refine list_step rfl (does_store (g := aR) (off := 9) (v := .agg #[.int .u64 cB, .int .i64 cC]) (new := (body_Get.c1 ca dB dC dD dE dF dG dH aT cB cC cD cE cF cG cH cI cJ cK cL cM cN cO)) rfl (hS.get 0 rfl) (hS.get 1 rfl) ((gP.2.1.block aR (blk_lt bH)).trans bH) (by kernel_rfl) (by kernel_rfl) (by kernel_rfl) (by kernel_rfl)) ?_
  rintro lp jt ⟨rfl, hV, hT⟩
  have iZ := hT.blk ((gP.2.1.block bU (blk_lt eb)).trans eb) cy
  have iU := hT.below gP.1 dA (gP.1).size
  clear hT
  refine wpList_nil ?_
  refine ke _ _ ?_
  refine reg_seq_tail 2 (I := I2_ w jt) (ps := [VI (wrap64 (bK + 10)), VI (wrap64 ((wrap64 (bK + 10)) + 10))]) (by kernel_rfl) ?_ ?_ rfl hS ⟨iU, (bR jt)⟩ ?_ ?_
  ·exact bs2
  ·exact .v (.v (.nil))
  ·refine .ms 2 rfl rfl rfl ?_
   refine .on rfl (fun a w hS hI hp => does_val (x_bin rfl (hp.V 0 rfl rfl) (rfl) (b_add _ _ _ _ _)) rfl) ?_
   exact .nil
  clear hS
  intro lk kR hS i1 hp
  replace hS := ((((((hS.nil).cons (hS.get 7 rfl)).cons (hS.get 6 rfl)).cons (hS.get 5 rfl)).cons (hS.get 4 rfl)).cons (hS.get 3 rfl)).cons (hS.get 2 rfl)
  have h3 : sl _ 64 = .int .i64 (wrap64 ((wrap64 (bK + 10)) + 10)) := hp 1 (by decide)
  have hS := hS.cons h3
  clear hp h3
  show wpList _ _ _ [_] _ _
  refine list_step rfl (R := fun v w' => Below _ _ w' ∧ (VI (wrap64 ((wrap64 (bK + 10)) + 10))) v w') (does_val (x_assign rfl (hS.get 0 rfl)) rfl) ?_
  rintro km ly ⟨hb, he⟩
  have iV := below_step i1.1 hb
  have fk := below_step i1.2 hb
  have jA := below_step (bR kR) hb
  obtain rfl : km = .int .i64 (wrap64 ((wrap64 (bK + 10)) + 10)) := he
  replace hS := ((((((hS.nil).cons (hS.get 6 rfl)).cons (hS.get 5 rfl)).cons (hS.get 4 rfl)).cons (hS.get 3 rfl)).cons (hS.get 2 rfl)).cons (hS.get 0 rfl)
  refine hS.next (v := .int .i64 (wrap64 ((wrap64 (bK + 10)) + 10))) (d := 2) rfl (by decide) (by rfl) ?_
  clear hS
  intro ll hS
  refine wpList_nil ?_
  replace hS := ((((((hS.nil).cons (hS.get 6 rfl)).cons (hS.get 5 rfl)).cons (hS.get 4 rfl)).cons (hS.get 3 rfl)).cons (hS.get 0 rfl)).cons (hS.get 2 rfl)
  (try simp only [Exit.then, Exit.inBlock])
  exact J3 _ _ c0 es et (wrap64 ((wrap64 (bK + 10)) + 10)) ca dB dC dD dE dF dG dH aT cB cC cD cE cF cG cH cI cJ cK cL cM cN cO aR f4 f5 f6 f7 f8 f9 ga gb gc gd e0 e1 e2 e3 e4 e5 e6 e7 e8 e9 fa fb fc bU ir g3 H hS iV gF (fA) dA ((fk.block aR (blk_lt hV)).trans hV) fC ((fk.block bU (blk_lt iZ)).trans iZ) cy
 by_cases c4 : ba = 0
 ·rw [if_pos c4] at H
  refine wp_seq_k (fun k4 hJ => ?_)
  refine reg_seq (I := I4_ w w3 w5 eg) (ps := [VI ba, VB (decide (ba = 0)), VB (decide (ba = 0)), VU, VU, VU, VU, VB true]) (by kernel_rfl) ?_ ?_ rfl hS ⟨bQ.1, bQ.2.1, bQ.2.2.1, (bR eg)⟩ ?_ ?_
  ·exact bs4
  ·exact .v (.v (.v (.v (.v (.v (.v (.v (.nil))))))))
  ·refine .ms 1 rfl rfl rfl ?_
   refine .on rfl (fun a w hS hI hp => does_val (x_bin rfl (hp.V 0 rfl rfl) (rfl) (b_eql _ _ _ _ _ _)) rfl) ?_
   refine .mv 1 rfl rfl rfl rfl ?_
   iterate 4 refine .sn 2 35 rfl rfl rfl rfl rfl ((decide_eq_true c4)) ?_
   refine .on rfl (fun a w hS hI hp => does_val (x_pickT rfl ((hp.V 2 rfl rfl).trans (bT (decide_eq_true c4))) (rfl)) rfl) ?_
   exact .nil
  clear hS
  intro lB iv hS jm hp
  replace hS := ((((((hS.nil).cons (hS.get 6 rfl)).cons (hS.get 5 rfl)).cons (hS.get 4 rfl)).cons (hS.get 3 rfl)).cons (hS.get 2 rfl)).cons (hS.get 1 rfl)
  have fP : sl _ 40 = .bool true := hp 7 (by decide)
  have hS := hS.cons fP
  clear hp fP
  refine hJ _ _ ?_
  refine wp_cond_true ((hS.get 0 rfl).trans (bT rfl)) ?_
  refine wp_goto ?_
  (try simp only [Exit.then, Exit.inBlock])
  replace hS := ((((((hS.nil).cons (hS.get 1 rfl)).cons (hS.get 2 rfl)).cons (hS.get 3 rfl)).cons (hS.get 4 rfl)).cons (hS.get 6 rfl)).cons (hS.get 5 rfl)
  exact ⟨rfl, l1, A1, gE, a2, cb, hn, ho, hq, hr, hs, ht, hu, hw, hx, gr, gs, gt, gu, gv, gw, gx, gy, gz, gA, gB, gC, gD, g4, 0, 0, 0, 0, 0, 0, 0, 0, 0, 0, 0, 0, 0, 0, 0, 0, 0, 0, 0, 0, 0, 0, 0, g6, a2, ba, H, hS, jm.1, HC1, (HR1), iz, ((jm.2.1.block g4 (blk_lt bq)).trans bq), (Nat.le_trans (ic).size ds), ((jm.2.2.1.block g6 (blk_lt cw)).trans cw), jl⟩
 rw [if_neg c4] at H
 obtain ⟨fS, jD, H⟩ := Option.bind_eq_some_iff.mp H
 by_cases c5 : fS = true
 ·rw [if_pos c5] at H
  refine wp_seq_k (fun k4 hJ => ?_)
  refine reg_seq (I := I4_ w w3 w5 eg) (ps := [VI ba, VB (decide (ba = 0)), VB (decide (ba = 0)), VP g4 0, VI cb, VB fS, VB (!fS), VB (!fS)]) (by kernel_rfl) ?_ ?_ rfl hS ⟨bQ.1, bQ.2.1, bQ.2.2.1, (bR eg)⟩ ?_ ?_
  ·exact bs4
  ·exact .v (.v (.v (.v (.v (.v (.v (.v (.nil))))))))
  ·refine .ms 1 rfl rfl rfl ?_
   refine .on rfl (fun a w hS hI hp => does_val (x_bin rfl (hp.V 0 rfl rfl) (rfl) (b_eql _ _ _ _ _ _)) rfl) ?_
   refine .mv 1 rfl rfl rfl rfl ?_
   refine .oy 2 35 rfl rfl rfl rfl rfl ((decide_eq_false c4)) (fun a w hS hI hp => does_val (x_fieldE (b := 0) rfl (hS.get 4 rfl) Try.underlying28 rfl rfl (by kernel_rfl)) rfl) ?_
   refine .oy 2 35 rfl rfl rfl rfl rfl ((decide_eq_false c4)) (fun a w hS hI hp => does_val (x_load1 (d := .int .i64) rfl (hp.V 3 rfl rfl) (by kernel_rfl) rfl ((blk_cell (((hI.2.1).block g4 (blk_lt bq)).trans bq) 0).trans rfl)) rfl) ?_
   refine .oy 2 35 rfl rfl rfl rfl rfl ((decide_eq_false c4)) (fun a w hS hI hp => does_call (by kernel_rfl) (ar1 (hp.V 4 rfl rfl)) ((body_stamped.calls cb fS _  jD).mono fun _ _ h => ⟨_, h.1, h.2.below, rfl⟩)) ?_
   refine .oy 2 35 rfl rfl rfl rfl rfl ((decide_eq_false c4)) (fun a w hS hI hp => does_val (x_not rfl (hp.V 5 rfl rfl)) rfl) ?_
   refine .on rfl (fun a w hS hI hp => does_val (x_pickF rfl ((hp.V 2 rfl rfl).trans (bF (decide_eq_false c4))) (hp.V 6 rfl rfl)) rfl) ?_
   exact .nil
  clear hS
  intro k9 io hS gn hp
  replace hS := ((((((hS.nil).cons (hS.get 6 rfl)).cons (hS.get 5 rfl)).cons (hS.get 4 rfl)).cons (hS.get 3 rfl)).cons (hS.get 2 rfl)).cons (hS.get 1 rfl)
  have fP : sl _ 40 = .bool (!fS) := hp 7 (by decide)
  have hS := hS.cons fP
  clear hp fP
  refine hJ _ _ ?_
  refine wp_cond_false ((hS.get 0 rfl).trans (bF (congrArg (!·) c5))) ?_
  refine wp_skip ?_
  replace hS := ((((((hS.nil).cons (hS.get 1 rfl)).cons (hS.get 2 rfl)).cons (hS.get 3 rfl)).cons (hS.get 4 rfl)).cons (hS.get 6 rfl)).cons (hS.get 5 rfl)
  (try simp only [Exit.then, Exit.inBlock])
  exact J2 _ _ l1 A1 gE a2 cb hn ho hq hr hs ht hu hw hx gr gs gt gu gv gw gx gy gz gA gB gC gD g4 0 0 0 0 0 0 0 0 0 0 0 0 0 0 0 0 0 0 0 0 0 0 0 g6 a2 ba H hS gn.1 HC1 (HR1) iz ((gn.2.1.block g4 (blk_lt bq)).trans bq) (Nat.le_trans (ic).size ds) ((gn.2.2.1.block g6 (blk_lt cw)).trans cw) jl
 rw [if_neg c5] at H
 refine wp_seq_k (fun k4 hJ => ?_)
 refine reg_seq (I := I4_ w w3 w5 eg) (ps := [VI ba, VB (decide (ba = 0)), VB (decide (ba = 0)), VP g4 0, VI cb, VB fS, VB (!fS), VB (!fS)]) (by kernel_rfl) ?_ ?_ rfl hS ⟨bQ.1, bQ.2.1, bQ.2.2.1, (bR eg)⟩ ?_ ?_
 ·exact bs4
 ·exact .v (.v (.v (.v (.v (.v (.v (.v (.nil))))))))
 ·refine .ms 1 rfl rfl rfl ?_
  refine .on rfl (fun a w hS hI hp => does_val (x_bin rfl (hp.V 0 rfl rfl) (rfl) (b_eql _ _ _ _ _ _)) rfl) ?_
  refine .mv 1 rfl rfl rfl rfl ?_
  refine .oy 2 35 rfl rfl rfl rfl rfl ((decide_eq_false c4)) (fun a w hS hI hp => does_val (x_fieldE (b := 0) rfl (hS.get 4 rfl) Try.underlying28 rfl rfl (by kernel_rfl)) rfl) ?_
  refine .oy 2 35 rfl rfl rfl rfl rfl ((decide_eq_false c4)) (fun a w hS hI hp => does_val (x_load1 (d := .int .i64) rfl (hp.V 3 rfl rfl) (by kernel_rfl) rfl ((blk_cell (((hI.2.1).block g4 (blk_lt bq)).trans bq) 0).trans rfl)) rfl) ?_
  refine .oy 2 35 rfl rfl rfl rfl rfl ((decide_eq_false c4)) (fun a w hS hI hp => does_call (by kernel_rfl) (ar1 (hp.V 4 rfl rfl)) ((body_stamped.calls cb fS _  jD).mono fun _ _ h => ⟨_, h.1, h.2.below, rfl⟩)) ?_
  refine .oy 2 35 rfl rfl rfl rfl rfl ((decide_eq_false c4)) (fun a w hS hI hp => does_val (x_not rfl (hp.V 5 rfl rfl)) rfl) ?_
  refine .on rfl (fun a w hS hI hp => does_val (x_pickF rfl ((hp.V 2 rfl rfl).trans (bF (decide_eq_false c4))) (hp.V 6 rfl rfl)) rfl) ?_
  exact .nil
 clear hS
 intro k9 io hS gn hp
 replace hS := ((((((hS.nil).cons (hS.get 6 rfl)).cons (hS.get 5 rfl)).cons (hS.get 4 rfl)).cons (hS.get 3 rfl)).cons (hS.get 2 rfl)).cons (hS.get 1 rfl)
 have fP : sl _ 40 = .bool (!fS) := hp 7 (by decide)
 have hS := hS.cons fP
 clear hp fP
 refine hJ _ _ ?_
 refine wp_cond_true ((hS.get 0 rfl).trans (bT (congrArg (!·) (Bool.eq_false_iff.2 c5)))) ?_
 refine wp_goto ?_
 (try simp only [Exit.then, Exit.inBlock])
 replace hS := ((((((hS.nil).cons (hS.get 1 rfl)).cons (hS.get 2 rfl)).cons (hS.get 3 rfl)).cons (hS.get 4 rfl)).cons (hS.get 6 rfl)).cons (hS.get 5 rfl)
 exact ⟨rfl, l1, A1, gE, a2, cb, hn, ho, hq, hr, hs, ht, hu, hw, hx, gr, gs, gt, gu, gv, gw, gx, gy, gz, gA, gB, gC, gD, g4, 0, 0, 0, 0, 0, 0, 0, 0, 0, 0, 0, 0, 0, 0, 0, 0, 0, 0, 0, 0, 0, 0, 0, g6, a2, ba, H, hS, gn.1, HC1, (HR1), iz, ((gn.2.1.block g4 (blk_lt bq)).trans bq), (Nat.le_trans (ic).size ds), ((gn.2.2.1.block g6 (blk_lt cw)).trans cw), jl⟩
end Go.Proofs.Ytiomlbkakiienaa.P
