/- Functions and loops of the given program as Lean functions, and that the code comes to what they say: written by this session's own program; Lean checks it. -/
import Derived.Test.YtiomlbkakiienaaZzPx0
import Derived.Test.YtiomlbkakiienaaZzPx2
import Derived.Test.YtiomlbkakiienaaZzPx3
import Derived.Test.YtiomlbkakiienaaZzPx4
import Derived.Test.YtiomlbkakiienaaZzPx5
namespace Go.Proofs.Ytiomlbkakiienaa.P
open Go.RowKit Go.Proofs.YtiomlbkakiienaaW.PrintWords Go.Proofs.YtiomlbkakiienaaW.PrintLast Go.Proofs.YtiomlbkakiienaaW.PrintMore
attribute [local go_sem] max2_int min2_int max_two min_two max_three min_three max_four min_four   -- for this text's walks alone
set_option linter.unusedVariables false
set_option linter.unusedSimpArgs false
def body_Get.j4 (k : Nat) (x4_3_0 x4_3_1 x4_3_2 x4_3_3 x4_3_4 x4_3_5 x4_3_6 x4_3_7 x4_3_8 x4_3_9 x4_3_10 x4_3_11 x4_3_12 x4_3_13 x4_3_14 x4_3_15 x4_3_16 x4_3_17 x4_3_18 x4_3_19 x4_3_20 x4_3_21 x4_3_22 x4_6_0 x4_6_1 x4_6_2 x4_6_3 x4_6_4 x4_6_5 x4_6_6 x4_6_7 x4_6_8 x4_6_9 x4_6_10 x4_6_11 x4_6_12 x4_6_13 x4_6_14 x4_6_15 x4_6_16 x4_6_17 x4_6_18 x4_6_19 x4_6_20 x4_6_21 x4_6_22 x4_9 x4_10 : Int) : Option (Int × Int × Int × Int × Int × Int × Int × Int × Int × Int × Int × Int × Int × Int × Int × Int × Int × Int × Int × Int × Int × Int × Int × Int × Int) := some (x4_3_0, x4_3_1, x4_3_2, x4_3_3, x4_3_4, x4_3_5, x4_3_6, x4_3_7, x4_3_8, x4_3_9, x4_3_10, x4_3_11, x4_3_12, x4_3_13, x4_3_14, x4_3_15, x4_3_16, x4_3_17, x4_3_18, x4_3_19, x4_3_20, x4_3_21, x4_3_22, wrap64 (x4_9 + x4_10), 0)
def body_Get.j3 (k : Nat) (y3_1 : List Int) (x3_2 x3_3_0 x3_3_1 x3_3_2 x3_3_3 x3_3_4 x3_3_5 x3_3_6 x3_3_7 x3_3_8 x3_3_9 x3_3_10 x3_3_11 x3_3_12 x3_3_13 x3_3_14 x3_3_15 x3_3_16 x3_3_17 x3_3_18 x3_3_19 x3_3_20 x3_3_21 x3_3_22 x3_6_0 x3_6_1 x3_6_2 x3_6_3 x3_6_4 x3_6_5 x3_6_6 x3_6_7 x3_6_8 x3_6_9 x3_6_10 x3_6_11 x3_6_12 x3_6_13 x3_6_14 x3_6_15 x3_6_16 x3_6_17 x3_6_18 x3_6_19 x3_6_20 x3_6_21 x3_6_22 x3_9 x3_10 : Int) : Option (Int × Int × Int × Int × Int × Int × Int × Int × Int × Int × Int × Int × Int × Int × Int × Int × Int × Int × Int × Int × Int × Int × Int × Int × Int) := if x3_3_0 = 11 then ((octets_Signed.f k y3_1 x3_2 2).bind fun t3009 => ((octets_Get.f k y3_1 (wrap64 (x3_2 + 3)) 1).bind fun t3015 => ((quality_Get.f k y3_1 (wrap64 (x3_2 + 4))).bind fun t3021 => ((octets_Get.f k y3_1 (wrap64 (x3_2 + 8)) 1).bind fun t3027 => ((octets_GetId.f k y3_1 (wrap64 (x3_2 + 9))).bind fun t3033 => ((octets_Get.f k y3_1 (wrap64 (x3_2 + 17)) 2).bind fun t3039 => ((octets_Get.f k y3_1 (wrap64 (x3_2 + 19)) 1).bind fun t3044 => (body_Get.j4 k x3_3_0 x3_3_1 x3_3_2 x3_3_3 x3_3_4 x3_3_5 x3_3_6 x3_3_7 x3_3_8 x3_3_9 x3_3_10 t3009.1 t3015.1 t3021.1 t3021.2.1 t3021.2.2.1 t3027.1 t3033.1 t3039.1 t3044.1 x3_3_20 x3_3_21 x3_3_22 x3_6_0 x3_6_1 x3_6_2 x3_6_3 x3_6_4 x3_6_5 x3_6_6 x3_6_7 x3_6_8 x3_6_9 x3_6_10 x3_6_11 x3_6_12 x3_6_13 x3_6_14 x3_6_15 x3_6_16 x3_6_17 x3_6_18 x3_6_19 x3_6_20 x3_6_21 x3_6_22 x3_9 x3_10)))))))) else (if x3_3_0 = 13 then (if 0 ≤ x3_2 then (if x3_2 < (y3_1.length : Int) then (if 0 ≤ (wrap64 (x3_2 + 1)) then (if (wrap64 (x3_2 + 1)) < (y3_1.length : Int) then (if 0 ≤ (wrap64 (x3_2 + 2)) then (if (wrap64 (x3_2 + 2)) < (y3_1.length : Int) then (body_Get.j4 k x3_3_0 x3_3_1 x3_3_2 x3_3_3 x3_3_4 x3_3_5 x3_3_6 x3_3_7 x3_3_8 x3_3_9 x3_3_10 x3_3_11 x3_3_12 x3_3_13 x3_3_14 x3_3_15 x3_3_16 x3_3_17 x3_3_18 x3_3_19 (wrap64 (rd y3_1 x3_2)) (wrap64 (rd y3_1 (wrap64 (x3_2 + 1)))) (wrap64 (Go.bits .and .u8 (rd y3_1 (wrap64 (x3_2 + 2))) 15)) x3_6_0 x3_6_1 x3_6_2 x3_6_3 x3_6_4 x3_6_5 x3_6_6 x3_6_7 x3_6_8 x3_6_9 x3_6_10 x3_6_11 x3_6_12 x3_6_13 x3_6_14 x3_6_15 x3_6_16 x3_6_17 x3_6_18 x3_6_19 x3_6_20 x3_6_21 x3_6_22 x3_9 x3_10) else (none)) else (none)) else (none)) else (none)) else (none)) else (none)) else (body_Get.j4 k x3_3_0 x3_3_1 x3_3_2 x3_3_3 x3_3_4 x3_3_5 x3_3_6 x3_3_7 x3_3_8 x3_3_9 x3_3_10 x3_3_11 x3_3_12 x3_3_13 x3_3_14 x3_3_15 x3_3_16 x3_3_17 x3_3_18 x3_3_19 x3_3_20 x3_3_21 x3_3_22 x3_6_0 x3_6_1 x3_6_2 x3_6_3 x3_6_4 x3_6_5 x3_6_6 x3_6_7 x3_6_8 x3_6_9 x3_6_10 x3_6_11 x3_6_12 x3_6_13 x3_6_14 x3_6_15 x3_6_16 x3_6_17 x3_6_18 x3_6_19 x3_6_20 x3_6_21 x3_6_22 x3_9 x3_10))
def body_Get.j2 (k : Nat) (y2_1 : List Int) (x2_2 x2_3_0 x2_3_1 x2_3_2 x2_3_3 x2_3_4 x2_3_5 x2_3_6 x2_3_7 x2_3_8 x2_3_9 x2_3_10 x2_3_11 x2_3_12 x2_3_13 x2_3_14 x2_3_15 x2_3_16 x2_3_17 x2_3_18 x2_3_19 x2_3_20 x2_3_21 x2_3_22 x2_6_0 x2_6_1 x2_6_2 x2_6_3 x2_6_4 x2_6_5 x2_6_6 x2_6_7 x2_6_8 x2_6_9 x2_6_10 x2_6_11 x2_6_12 x2_6_13 x2_6_14 x2_6_15 x2_6_16 x2_6_17 x2_6_18 x2_6_19 x2_6_20 x2_6_21 x2_6_22 x2_9 x2_10 : Int) : Option (Int × Int × Int × Int × Int × Int × Int × Int × Int × Int × Int × Int × Int × Int × Int × Int × Int × Int × Int × Int × Int × Int × Int × Int × Int) := (stamp_Get.f k y2_1 x2_2).bind fun t2003 => (if t2003.2 = true then ((body_targeted.f x2_3_0).bind fun t2021 => (if t2021 = true then ((ident_Get.f k y2_1 (wrap64 (x2_2 + 10))).bind fun t2025 => (body_Get.j3 k y2_1 (wrap64 ((wrap64 (x2_2 + 10)) + 10)) x2_3_0 x2_3_1 x2_3_2 x2_3_3 x2_3_4 x2_3_5 x2_3_6 x2_3_7 t2003.1 t2025.1 t2025.2.1 x2_3_11 x2_3_12 x2_3_13 x2_3_14 x2_3_15 x2_3_16 x2_3_17 x2_3_18 x2_3_19 x2_3_20 x2_3_21 x2_3_22 x2_6_0 x2_6_1 x2_6_2 x2_6_3 x2_6_4 x2_6_5 x2_6_6 x2_6_7 x2_6_8 x2_6_9 x2_6_10 x2_6_11 x2_6_12 x2_6_13 x2_6_14 x2_6_15 x2_6_16 x2_6_17 x2_6_18 x2_6_19 x2_6_20 x2_6_21 x2_6_22 x2_9 x2_10)) else (body_Get.j3 k y2_1 (wrap64 (x2_2 + 10)) x2_3_0 x2_3_1 x2_3_2 x2_3_3 x2_3_4 x2_3_5 x2_3_6 x2_3_7 t2003.1 x2_3_9 x2_3_10 x2_3_11 x2_3_12 x2_3_13 x2_3_14 x2_3_15 x2_3_16 x2_3_17 x2_3_18 x2_3_19 x2_3_20 x2_3_21 x2_3_22 x2_6_0 x2_6_1 x2_6_2 x2_6_3 x2_6_4 x2_6_5 x2_6_6 x2_6_7 x2_6_8 x2_6_9 x2_6_10 x2_6_11 x2_6_12 x2_6_13 x2_6_14 x2_6_15 x2_6_16 x2_6_17 x2_6_18 x2_6_19 x2_6_20 x2_6_21 x2_6_22 x2_9 x2_10))) else (some (0, 0, 0, 0, 0, 0, 0, 0, 0, 0, 0, 0, 0, 0, 0, 0, 0, 0, 0, 0, 0, 0, 0, 0, 10)))
def body_Get.j1 (k : Nat) (y1_1 : List Int) (x1_2 x1_3_0 x1_3_1 x1_3_2 x1_3_3 x1_3_4 x1_3_5 x1_3_6 x1_3_7 x1_3_8 x1_3_9 x1_3_10 x1_3_11 x1_3_12 x1_3_13 x1_3_14 x1_3_15 x1_3_16 x1_3_17 x1_3_18 x1_3_19 x1_3_20 x1_3_21 x1_3_22 x1_6_0 x1_6_1 x1_6_2 x1_6_3 x1_6_4 x1_6_5 x1_6_6 x1_6_7 x1_6_8 x1_6_9 x1_6_10 x1_6_11 x1_6_12 x1_6_13 x1_6_14 x1_6_15 x1_6_16 x1_6_17 x1_6_18 x1_6_19 x1_6_20 x1_6_21 x1_6_22 x1_9 x1_10 : Int) : Option (Int × Int × Int × Int × Int × Int × Int × Int × Int × Int × Int × Int × Int × Int × Int × Int × Int × Int × Int × Int × Int × Int × Int × Int × Int) := (body_targeted.f x1_3_0).bind fun t1003 => (if t1003 = true then ((ident_Get.f k y1_1 x1_2).bind fun t1007 => (body_Get.j3 k y1_1 (wrap64 (x1_2 + 10)) x1_3_0 x1_3_1 x1_3_2 x1_3_3 x1_3_4 x1_3_5 x1_3_6 x1_3_7 x1_3_8 t1007.1 t1007.2.1 x1_3_11 x1_3_12 x1_3_13 x1_3_14 x1_3_15 x1_3_16 x1_3_17 x1_3_18 x1_3_19 x1_3_20 x1_3_21 x1_3_22 x1_6_0 x1_6_1 x1_6_2 x1_6_3 x1_6_4 x1_6_5 x1_6_6 x1_6_7 x1_6_8 x1_6_9 x1_6_10 x1_6_11 x1_6_12 x1_6_13 x1_6_14 x1_6_15 x1_6_16 x1_6_17 x1_6_18 x1_6_19 x1_6_20 x1_6_21 x1_6_22 x1_9 x1_10)) else (body_Get.j3 k y1_1 x1_2 x1_3_0 x1_3_1 x1_3_2 x1_3_3 x1_3_4 x1_3_5 x1_3_6 x1_3_7 x1_3_8 x1_3_9 x1_3_10 x1_3_11 x1_3_12 x1_3_13 x1_3_14 x1_3_15 x1_3_16 x1_3_17 x1_3_18 x1_3_19 x1_3_20 x1_3_21 x1_3_22 x1_6_0 x1_6_1 x1_6_2 x1_6_3 x1_6_4 x1_6_5 x1_6_6 x1_6_7 x1_6_8 x1_6_9 x1_6_10 x1_6_11 x1_6_12 x1_6_13 x1_6_14 x1_6_15 x1_6_16 x1_6_17 x1_6_18 x1_6_19 x1_6_20 x1_6_21 x1_6_22 x1_9 x1_10))
def body_Get.f (k : Nat) (a0_0 a0_1 a0_2 a0_3 a0_4 a0_5 a0_6 a0_7 a0_8 a0_9 a0_10 a0_11 a0_12 a0_13 a0_14 a0_15 a0_16 a0_17 a0_18 a0_19 a0_20 a0_21 a0_22 : Int) (l1 : List Int) (a2 : Int) : Option (Int × Int × Int × Int × Int × Int × Int × Int × Int × Int × Int × Int × Int × Int × Int × Int × Int × Int × Int × Int × Int × Int × Int × Int × Int) := (body_Len.f k a0_0).bind fun t14 => (if a2 < 0 then (some (0, 0, 0, 0, 0, 0, 0, 0, 0, 0, 0, 0, 0, 0, 0, 0, 0, 0, 0, 0, 0, 0, 0, 0, 2)) else (if a2 > (l1.length : Int) then (some (0, 0, 0, 0, 0, 0, 0, 0, 0, 0, 0, 0, 0, 0, 0, 0, 0, 0, 0, 0, 0, 0, 0, 0, 2)) else (if (wrap64 ((l1.length : Int) - a2)) < t14 then (some (0, 0, 0, 0, 0, 0, 0, 0, 0, 0, 0, 0, 0, 0, 0, 0, 0, 0, 0, 0, 0, 0, 0, 0, 2)) else (if t14 = 0 then (body_Get.j1 k l1 a2 a0_0 a0_1 a0_2 a0_3 a0_4 a0_5 a0_6 a0_7 a0_8 a0_9 a0_10 a0_11 a0_12 a0_13 a0_14 a0_15 a0_16 a0_17 a0_18 a0_19 a0_20 a0_21 a0_22 0 0 0 0 0 0 0 0 0 0 0 0 0 0 0 0 0 0 0 0 0 0 0 a2 t14) else ((body_stamped.f a0_0).bind fun t23 => (if t23 = true then (body_Get.j2 k l1 a2 a0_0 a0_1 a0_2 a0_3 a0_4 a0_5 a0_6 a0_7 a0_8 a0_9 a0_10 a0_11 a0_12 a0_13 a0_14 a0_15 a0_16 a0_17 a0_18 a0_19 a0_20 a0_21 a0_22 0 0 0 0 0 0 0 0 0 0 0 0 0 0 0 0 0 0 0 0 0 0 0 a2 t14) else (body_Get.j1 k l1 a2 a0_0 a0_1 a0_2 a0_3 a0_4 a0_5 a0_6 a0_7 a0_8 a0_9 a0_10 a0_11 a0_12 a0_13 a0_14 a0_15 a0_16 a0_17 a0_18 a0_19 a0_20 a0_21 a0_22 0 0 0 0 0 0 0 0 0 0 0 0 0 0 0 0 0 0 0 0 0 0 0 a2 t14)))))))
abbrev body_Get.v0 (x0 x1 x2 x3 x4 x5 x6 x7 x8 x9 x10 x11 x12 x13 x14 x15 x16 x17 x18 x19 x20 x21 x22 : Int) : Value := .agg #[.int .i64 x0, .int .i64 x1, .int .i64 x2, .int .i64 x3, .int .u64 x4, .int .i64 x5, .int .i64 x6, .int .i64 x7, .int .i64 x8, .int .u64 x9, .int .i64 x10, .int .i64 x11, .int .i64 x12, .int .i64 x13, .int .i64 x14, .int .i64 x15, .int .i64 x16, .int .u64 x17, .int .i64 x18, .int .i64 x19, .int .i64 x20, .int .i64 x21, .int .i64 x22]
abbrev body_Get.c1 (x0 x1 x2 x3 x4 x5 x6 x7 x8 x9 x10 x11 x12 x13 x14 x15 x16 x17 x18 x19 x20 x21 x22 : Int) : Array Value := #[.int .i64 x0, .int .i64 x1, .int .i64 x2, .int .i64 x3, .int .u64 x4, .int .i64 x5, .int .i64 x6, .int .i64 x7, .int .i64 x8, .int .u64 x9, .int .i64 x10, .int .i64 x11, .int .i64 x12, .int .i64 x13, .int .i64 x14, .int .i64 x15, .int .i64 x16, .int .u64 x17, .int .i64 x18, .int .i64 x19, .int .i64 x20, .int .i64 x21, .int .i64 x22]
open Go.Proofs.Ytiomlbkakiienaa.E in
set_option maxHeartbeats 60000000 in
set_option maxRecDepth 100000 in
theorem body_Get.calls (k : Nat) (eQ gR gS gT gU gV gW gX gY gZ fQ fR fS fT fU fV fW fX fY fZ f0 f1 f2 : Int) (A1 : Option Addr) (g2 : Nat) (l1 : List Int) (a2 r1 r2 r3 r4 r5 r6 r7 r8 r9 iv iw ix iy iz iA iB iC iD iE iF iG iH iI iJ iK : Int) (w : World) (HR1 : Kd.C (Kd.int .u8) w A1 l1.length l1) (HC1 : l1.length ≤ g2) (h : body_Get.f k eQ gR gS gT gU gV gW gX gY gZ fQ fR fS fT fU fV fW fX fY fZ f0 f1 f2 l1 a2 = some (r1, r2, r3, r4, r5, r6, r7, r8, r9, iv, iw, ix, iy, iz, iA, iB, iC, iD, iE, iF, iG, iH, iI, iJ, iK)) :
    Calls Try.prog 29 #[.agg #[.int .i64 eQ, .int .i64 gR, .int .i64 gS, .int .i64 gT, .int .u64 gU, .int .i64 gV, .int .i64 gW, .int .i64 gX, .int .i64 gY, .int .u64 gZ, .int .i64 fQ, .int .i64 fR, .int .i64 fS, .int .i64 fT, .int .i64 fU, .int .i64 fV, .int .i64 fW, .int .u64 fX, .int .i64 fY, .int .i64 fZ, .int .i64 f0, .int .i64 f1, .int .i64 f2], .slice A1 l1.length g2, .int .i64 a2] w fun e w' => e = .returned (.tuple #[.agg #[.int .i64 r1, .int .i64 r2, .int .i64 r3, .int .i64 r4, .int .u64 r5, .int .i64 r6, .int .i64 r7, .int .i64 r8, .int .i64 r9, .int .u64 iv, .int .i64 iw, .int .i64 ix, .int .i64 iy, .int .i64 iz, .int .i64 iA, .int .i64 iB, .int .i64 iC, .int .u64 iD, .int .i64 iE, .int .i64 iF, .int .i64 iG, .int .i64 iH, .int .i64 iI], .int .i64 iJ, .int .i64 iK]) ∧ Below w.heap.size w w' := by
 have H := h
 clear h
 unfold body_Get.f at H
 refine calls_of_wp (fn := Try.f29) (by kernel_rfl) rfl ?_
 have hS := St.enter #[(body_Get.v0 eQ gR gS gT gU gV gW gX gY gZ fQ fR fS fT fU fV fW fX fY fZ f0 f1 f2), .slice A1 l1.length g2, .int .i64 a2] 151 (by simp) [(0, (body_Get.v0 eQ gR gS gT gU gV gW gX gY gZ fQ fR fS fT fU fV fW fX fY fZ f0 f1 f2)), (1, .slice A1 l1.length g2), (2, .int .i64 a2)] (by simp)
 have kU := Below.refl w.heap.size w
 refine wp_seq_k (fun K1 la => ?_)
 refine reg_seq_tail 1 (I := I1_ w) (ps := [IsB (body_Get.c1 eQ gR gS gT gU gV gW gX gY gZ fQ fR fS fT fU fV fW fX fY fZ f0 f1 f2) 28 w.heap.size]) (by kernel_rfl) ?_ ?_ rfl hS kU ?_ ?_
 ·exact bs1
 ·exact .cons (Stays.b _ _ _) (.nil)
 ·refine .on rfl (fun a w hS hI hp => does_var (x_box rfl (congrArg Value.cells (hS.get 0 rfl))) (hI).size) ?_
  exact .nil
 clear hS
 intro lC w3 hS hF hp
 replace hS := ((hS.nil).cons (hS.get 2 rfl)).cons (hS.get 1 rfl)
 obtain ⟨g4, kJ, h2, cg⟩ := (show IsB _ 28 _ (sl _ 3) _ from hp 0 (by decide))
 have hS := hS.cons kJ
 clear hp kJ
 show wpList _ _ _ [_, _, _] _ _
 refine list_step rfl (R := fun v w' => Below _ _ w' ∧ (IsB (body_Get.c1 0 0 0 0 0 0 0 0 0 0 0 0 0 0 0 0 0 0 0 0 0 0 0) 28 w3.heap.size) v w') (does_var (x_alloc rfl (by kernel_rfl)) ((bR w3)).size) ?_
 rintro lE w5 ⟨hb, he⟩
 have jB := below_step hF hb
 have i1 := below_step (bR w3) hb
 obtain ⟨g6, rfl, db, ch⟩ := he
 have iO : g6 ≠ g4 := Nat.ne_of_gt (Nat.lt_of_lt_of_le (blk_lt (((bR w3).block g4 (blk_lt cg)).trans cg)) db)
 refine hS.next (v := .pointer (some ⟨g6, 0, none⟩)) (d := 6) rfl (by decide) (by rfl) ?_
 clear hS
 intro lD hS
 refine list_step rfl (R := fun v w' => Below _ _ w' ∧ (VI 0) v w') (does_val (x_assign rfl (rfl)) rfl) ?_
 rintro lf w9 ⟨hb, he⟩
 have jC := below_step jB hb
 have i2 := below_step i1 hb
 have i3 := below_step (bR w5) hb
 obtain rfl : lf = .int .i64 0 := he
 refine hS.next (v := .int .i64 0) (d := 7) rfl (by decide) (by rfl) ?_
 clear hS
 intro lu hS
 refine list_step rfl (R := fun v w' => Below _ _ w' ∧ (VI 0) v w') (does_val (x_assign rfl (rfl)) rfl) ?_
 rintro kT kL ⟨hb, he⟩
 have i0 := below_step jC hb
 have iM := below_step i2 hb
 have iN := below_step i3 hb
 have kQ := below_step (bR w9) hb
 obtain rfl : kT = .int .i64 0 := he
 refine hS.next (v := .int .i64 0) (d := 8) rfl (by decide) (by rfl) ?_
 clear hS
 intro lv hS
 refine wpList_nil ?_
 refine la _ _ ?_
 refine wp_scope_fwd 0 (fun kI hO => ∃ (ea : List Int) (fJ : Option Addr) (fK : Nat) (cA dj ef eg eh ei ej ek el em gr fO dq dr ds dt du dv dw dx dy dz dA dB : Int) (bS : Nat) (fo fp fq fr fs ft fu fv fw fx en eo ep eq er es et eu ev ew ex ey ez : Int) (da : Nat) (hQ gq : Int) , body_Get.j1 k ea cA dj ef eg eh ei ej ek el em gr fO dq dr ds dt du dv dw dx dy dz dA dB fo fp fq fr fs ft fu fv fw fx en eo ep eq er es et eu ev ew ex ey ez hQ gq = some (r1, r2, r3, r4, r5, r6, r7, r8, r9, iv, iw, ix, iy, iz, iA, iB, iC, iD, iE, iF, iG, iH, iI, iJ, iK) ∧ St 151 [(1, .slice fJ ea.length fK), (2, .int .i64 cA), (3, .pointer (some ⟨bS, 0, none⟩)), (6, .pointer (some ⟨da, 0, none⟩)), (9, .int .i64 hQ), (10, .int .i64 gq)] kI ∧ Below w.heap.size w hO ∧ ea.length ≤ fK ∧ Kd.C (Kd.int .u8) w fJ ea.length ea ∧ w.heap.size ≤ bS ∧ hO.heap[bS]? = some (.cells (body_Get.c1 dj ef eg eh ei ej ek el em gr fO dq dr ds dt du dv dw dx dy dz dA dB) 28 (0, 0)) ∧ w.heap.size ≤ da ∧ hO.heap[da]? = some (.cells (body_Get.c1 fo fp fq fr fs ft fu fv fw fx en eo ep eq er es et eu ev ew ex ey ez) 28 (0, 0)) ∧ da ≠ bS) rfl ?_ (fun J1 => ?_)
 ·clear H hS
  rintro kI hO ⟨ea, fJ, fK, cA, dj, ef, eg, eh, ei, ej, ek, el, em, gr, fO, dq, dr, ds, dt, du, dv, dw, dx, dy, dz, dA, dB, bS, fo, fp, fq, fr, fs, ft, fu, fv, fw, fx, en, eo, ep, eq, er, es, et, eu, ev, ew, ex, ey, ez, da, hQ, gq, H, hS, i4, h3, hm, e5, ci, gz, d8, fg⟩
  unfold body_Get.j1 at H
  (try dsimp only at H)
  refine wp_seq_k (fun kf jD => ?_)
  have J3 : ∀ (g0 : Act) (b7 : World) (ac : List Int) (aM : Option Addr) (aN : Nat) (ab ad al am an ao ap aq ar au av ag aS aP aJ aK aL aG aC ax aj aD ay ak : Int) (aa : Nat) (bH bI bJ bK bL bM bN bO bP bQ bl bm bn bo bp bq br bs bt bu bv bw bx : Int) (ah : Nat) (cN cf : Int), body_Get.j3 k ac ab ad al am an ao ap aq ar au av ag aS aP aJ aK aL aG aC ax aj aD ay ak bH bI bJ bK bL bM bN bO bP bQ bl bm bn bo bp bq br bs bt bu bv bw bx cN cf = some (r1, r2, r3, r4, r5, r6, r7, r8, r9, iv, iw, ix, iy, iz, iA, iB, iC, iD, iE, iF, iG, iH, iI, iJ, iK) → St 151 [(1, .slice aM ac.length aN), (2, .int .i64 ab), (3, .pointer (some ⟨aa, 0, none⟩)), (6, .pointer (some ⟨ah, 0, none⟩)), (9, .int .i64 cN), (10, .int .i64 cf)] g0 → Below w.heap.size w b7 → ac.length ≤ aN → Kd.C (Kd.int .u8) w aM ac.length ac → w.heap.size ≤ aa → b7.heap[aa]? = some (.cells (body_Get.c1 ad al am an ao ap aq ar au av ag aS aP aJ aK aL aG aC ax aj aD ay ak) 28 (0, 0)) → w.heap.size ≤ ah → b7.heap[ah]? = some (.cells (body_Get.c1 bH bI bJ bK bL bM bN bO bP bQ bl bm bn bo bp bq br bs bt bu bv bw bx) 28 (0, 0)) → ah ≠ aa → kf g0 b7 := by
   intro g0 b7 ac aM aN ab ad al am an ao ap aq ar au av ag aS aP aJ aK aL aG aC ax aj aD ay ak aa bH bI bJ bK bL bM bN bO bP bQ bl bm bn bo bp bq br bs bt bu bv bw bx ah cN cf H hS gt bW aE ae aH b3 aQ af
   unfold body_Get.j3 at H
   (try dsimp only at H)
   refine jD _ _ ?_
   refine wp_seq_k (fun hZ g7 => ?_)
   have J4 : ∀ (g1 : Act) (dQ : World) (a9 ba bb bc bd be bf bg bh bi aT aU aV aW aX aY aZ a0 a1 a3 a4 a5 a6 : Int) (bV : Nat) (dY dZ d0 d1 d2 d3 d4 d5 d6 d7 cO cP cQ cR cS cT cU cV cW cX cY cZ c0 : Int) (bk : Nat) (bE a8 : Int), body_Get.j4 k a9 ba bb bc bd be bf bg bh bi aT aU aV aW aX aY aZ a0 a1 a3 a4 a5 a6 dY dZ d0 d1 d2 d3 d4 d5 d6 d7 cO cP cQ cR cS cT cU cV cW cX cY cZ c0 bE a8 = some (r1, r2, r3, r4, r5, r6, r7, r8, r9, iv, iw, ix, iy, iz, iA, iB, iC, iD, iE, iF, iG, iH, iI, iJ, iK) → St 151 [(3, .pointer (some ⟨bV, 0, none⟩)), (6, .pointer (some ⟨bk, 0, none⟩)), (9, .int .i64 bE), (10, .int .i64 a8)] g1 → Below w.heap.size w dQ → w.heap.size ≤ bV → dQ.heap[bV]? = some (.cells (body_Get.c1 a9 ba bb bc bd be bf bg bh bi aT aU aV aW aX aY aZ a0 a1 a3 a4 a5 a6) 28 (0, 0)) → w.heap.size ≤ bk → dQ.heap[bk]? = some (.cells (body_Get.c1 dY dZ d0 d1 d2 d3 d4 d5 d6 d7 cO cP cQ cR cS cT cU cV cW cX cY cZ c0) 28 (0, 0)) → bk ≠ bV → hZ g1 dQ := by
    intro g1 dQ a9 ba bb bc bd be bf bg bh bi aT aU aV aW aX aY aZ a0 a1 a3 a4 a5 a6 bV dY dZ d0 d1 d2 d3 d4 d5 d6 d7 cO cP cQ cR cS cT cU cV cW cX cY cZ c0 bk bE a8 H hS gu ip bC e7 dg fh
    unfold body_Get.j4 at H
    (try dsimp only at H)
    simp only [Option.some.injEq, Prod.mk.injEq] at H
    obtain ⟨rfl, rfl, rfl, rfl, rfl, rfl, rfl, rfl, rfl, rfl, rfl, rfl, rfl, rfl, rfl, rfl, rfl, rfl, rfl, rfl, rfl, rfl, rfl, rfl, rfl⟩ := H
    refine g7 _ _ ?_
    refine wp_seq_k (fun kp hi => ?_)
    refine reg_seq_tail 4 (I := I2_ w dQ) (ps := [IsV ((body_Get.v0 a9 ba bb bc bd be bf bg bh bi aT aU aV aW aX aY aZ a0 a1 a3 a4 a5 a6)), VI bE, VI a8, VI (wrap64 (bE + a8))]) (by kernel_rfl) ?_ ?_ rfl hS ⟨gu, (bR dQ)⟩ ?_ ?_
    ·exact bs2
    ·exact .v (.v (.v (.v (.nil))))
    ·refine .on rfl (fun a w hS hI hp => does_loadrow rfl (hS.get 0 rfl) (((hI.2).block bV (blk_lt bC)).trans bC) Try.underlying28 rfl (by kernel_rfl) rfl) ?_
     refine .ms 2 rfl rfl rfl ?_
     refine .ms 3 rfl rfl rfl ?_
     refine .on rfl (fun a w hS hI hp => does_val (x_bin rfl (hp.V 1 rfl rfl) (hp.V 2 rfl rfl) (b_add _ _ _ _ _)) rfl) ?_
     exact .nil
    clear hS
    intro jy kG hS cx hp
    replace hS := (hS.nil).cons (hS.get 1 rfl)
    have gb : sl _ 147 = (body_Get.v0 a9 ba bb bc bd be bf bg bh bi aT aU aV aW aX aY aZ a0 a1 a3 a4 a5 a6) := hp 0 (by decide)
    have gc : sl _ 150 = .int .i64 (wrap64 (bE + a8)) := hp 3 (by decide)
    have hS := hS.cons gb
    have hS := hS.cons gc
    clear hp gb gc
    show wpList _ _ _ [_, _, _] _ _
    refine list_step rfl (does_storeAll (g := bk) (cs := (body_Get.c1 a9 ba bb bc bd be bf bg bh bi aT aU aV aW aX aY aZ a0 a1 a3 a4 a5 a6)) rfl (hS.get 2 rfl) (hS.get 1 rfl) ((cx.2.block bk (blk_lt dg)).trans dg) (by kernel_rfl) (by kernel_rfl) (by kernel_rfl)) ?_
    rintro ke ic ⟨rfl, dO, hT⟩
    have jO := hT.blk ((cx.2.block bV (blk_lt bC)).trans bC) (Ne.symm fh)
    have e2 := hT.below cx.1 e7 (cx.1).size
    clear hT
    refine list_step rfl (R := fun v w' => Below _ _ w' ∧ (VI (wrap64 (bE + a8))) v w') (does_val (x_assign rfl (hS.get 0 rfl)) rfl) ?_
    rintro hM ie ⟨hb, he⟩
    have e3 := below_step e2 hb
    have dk := below_step (bR ic) hb
    obtain rfl : hM = .int .i64 (wrap64 (bE + a8)) := he
    refine hS.next (v := .int .i64 (wrap64 (bE + a8))) (d := 7) rfl (by decide) (by rfl) ?_
    clear hS
    intro jz hS
    refine list_step rfl (R := fun v w' => Below _ _ w' ∧ (VI 0) v w') (does_val (x_assign rfl (rfl)) rfl) ?_
    rintro hN kH ⟨hb, he⟩
    have e4 := below_step e3 hb
    have dl := below_step dk hb
    have gE := below_step (bR ie) hb
    obtain rfl : hN = .int .i64 0 := he
    refine hS.next (v := .int .i64 0) (d := 8) rfl (by decide) (by rfl) ?_
    clear hS
    intro jA hS
    refine wpList_nil ?_
    refine hi _ _ ?_
    refine wp_ret ?_
    (try simp only [Exit.then, Exit.inBlock, Exit.jump, Exit.noGoto])
    exact bodyPost_ret (v := .tuple #[(body_Get.v0 a9 ba bb bc bd be bf bg bh bi aT aU aV aW aX aY aZ a0 a1 a3 a4 a5 a6), .int .i64 (wrap64 (bE + a8)), .int .i64 0]) (results_list (rs := [.cell 6 28, .tmp 7, .tmp 8]) rfl (by simp) (Vals.cell bk 28 (body_Get.c1 a9 ba bb bc bd be bf bg bh bi aT aU aV aW aX aY aZ a0 a1 a3 a4 a5 a6) (0, 0) _ (hS.get 4 rfl) ((dl.block bk (blk_lt dO)).trans dO) Try.underlying28 rfl (by kernel_rfl) (Vals.at (hS.get 1 rfl) (Vals.at (hS.get 0 rfl) .nil)))) hS.nodef ⟨rfl, e4⟩
   refine wp_seq_k (fun ki g8 => ?_)
   refine reg_seq (I := I2_ w b7) (ps := [VP aa 0, VI ad]) (by kernel_rfl) ?_ ?_ rfl hS ⟨gt, (bR b7)⟩ ?_ ?_
   ·exact bs2
   ·exact .v (.v (.nil))
   ·refine .on rfl (fun a w hS hI hp => does_val (x_fieldE (b := 0) rfl (hS.get 2 rfl) Try.underlying28 rfl rfl (by kernel_rfl)) rfl) ?_
    refine .on rfl (fun a w hS hI hp => does_val (x_load1 (d := .int .i64) rfl (hp.V 0 rfl rfl) (by kernel_rfl) rfl ((blk_cell (((hI.2).block aa (blk_lt aH)).trans aH) 0).trans rfl)) rfl) ?_
    exact .nil
   clear hS
   intro jl gh hS fm hp
   have ht : sl _ 66 = .int .i64 ad := hp 1 (by decide)
   have hS := hS.cons ht
   clear hp ht
   refine g8 _ _ ?_
   refine wp_block ?_
   refine wp_seq_k (fun kj g9 => ?_)
   refine reg_seq (I := I3_ w b7 gh) (ps := [VB (decide (ad = 11)), VB (decide (ad = 11))]) (by kernel_rfl) ?_ ?_ rfl hS ⟨fm.1, fm.2, (bR gh)⟩ ?_ ?_
   ·exact bs3
   ·exact .v (.v (.nil))
   ·refine .on rfl (fun a w hS hI hp => does_val (x_bin rfl (hS.get 0 rfl) (rfl) (b_eql _ _ _ _ _ _)) rfl) ?_
    refine .asg 0 rfl rfl rfl ?_
    exact .nil
   clear hS
   intro jm dn hS cn hp
   have hu : sl _ 67 = .bool (decide (ad = 11)) := hp 1 (by decide)
   have hS := hS.cons hu
   clear hp hu
   refine g9 _ _ ?_
   by_cases c1 : ad = 11
   rotate_left
   ·rw [if_neg c1] at H
    refine wp_cond_false ((hS.get 0 rfl).trans (bF (decide_eq_false c1))) ?_
    refine wp_seq_k (fun h0 dF => ?_)
    refine reg_seq (I := I3_ w b7 dn) (ps := [VB (decide (ad = 13)), VB (decide (ad = 13))]) (by kernel_rfl) ?_ ?_ rfl hS ⟨cn.1, cn.2.1, (bR dn)⟩ ?_ ?_
    ·exact bs3
    ·exact .v (.v (.nil))
    ·refine .on rfl (fun a w hS hI hp => does_val (x_bin rfl (hS.get 1 rfl) (rfl) (b_eql _ _ _ _ _ _)) rfl) ?_
     refine .asg 0 rfl rfl rfl ?_
     exact .nil
    clear hS
    intro jn gi hS bG hp
    replace hS := ((((((hS.nil).cons (hS.get 7 rfl)).cons (hS.get 6 rfl)).cons (hS.get 5 rfl)).cons (hS.get 4 rfl)).cons (hS.get 3 rfl)).cons (hS.get 2 rfl)
    have ga : sl _ 124 = .bool (decide (ad = 13)) := hp 1 (by decide)
    have hS := hS.cons ga
    clear hp ga
    refine dF _ _ ?_
    by_cases c2 : ad = 13
    rotate_left
    ·rw [if_neg c2] at H
     refine wp_cond_false ((hS.get 0 rfl).trans (bF (decide_eq_false c2))) ?_
     refine wp_skip ?_
     replace hS := ((((hS.nil).cons (hS.get 6 rfl)).cons (hS.get 5 rfl)).cons (hS.get 4 rfl)).cons (hS.get 3 rfl)
     (try simp only [Exit.then, Exit.inBlock])
     exact J4 _ _ ad al am an ao ap aq ar au av ag aS aP aJ aK aL aG aC ax aj aD ay ak aa bH bI bJ bK bL bM bN bO bP bQ bl bm bn bo bp bq br bs bt bu bv bw bx ah cN cf H hS bG.1 ae ((bG.2.1.block aa (blk_lt aH)).trans aH) b3 ((bG.2.1.block ah (blk_lt aQ)).trans aQ) af
    rw [if_pos c2] at H
    by_cases c3 : 0 ≤ ab
    rotate_left
    ·rw [if_neg c3] at H
     exact absurd H (by simp)
    rw [if_pos c3] at H
    by_cases c4 : ab < (ac.length : Int)
    rotate_left
    ·rw [if_neg c4] at H
     exact absurd H (by simp)
    rw [if_pos c4] at H
    by_cases c5 : 0 ≤ (wrap64 (ab + 1))
    rotate_left
    ·rw [if_neg c5] at H
     exact absurd H (by simp)
    rw [if_pos c5] at H
    by_cases c6 : (wrap64 (ab + 1)) < (ac.length : Int)
    rotate_left
    ·rw [if_neg c6] at H
     exact absurd H (by simp)
    rw [if_pos c6] at H
    by_cases c7 : 0 ≤ (wrap64 (ab + 2))
    rotate_left
    ·rw [if_neg c7] at H
     exact absurd H (by simp)
    rw [if_pos c7] at H
    by_cases c8 : (wrap64 (ab + 2)) < (ac.length : Int)
    rotate_left
    ·rw [if_neg c8] at H
     exact absurd H (by simp)
    rw [if_pos c8] at H
    refine wp_cond_true ((hS.get 0 rfl).trans (bT (decide_eq_true c2))) ?_
    obtain ⟨dC, a7⟩ := row_some (0 : Int) (Kd.C_below aE bG.1) c3 c4
    refine reg_float (I := I3_ w b7 gi) (C := fun x => Kd.C (Kd.int .u8) x aM ac.length ac) [true, true, true, true, true, true, true, true, true, true, true, true, true, true, true, true, true, true, true, false, false, false, false, false] [.slice aM ac.length aN, .int .i64 ab, .pointer (some (dC.add ((ab : Int).toNat * 1))), .int .u8 (rd ac ab), .int .i64 (wrap64 (rd ac ab)), .slice aM ac.length aN, .int .i64 ab, .int .i64 (wrap64 (ab + 1)), .pointer (some (dC.add ((wrap64 (ab + 1) : Int).toNat * 1))), .int .u8 (rd ac (wrap64 (ab + 1))), .int .i64 (wrap64 (rd ac (wrap64 (ab + 1)))), .slice aM ac.length aN, .int .i64 ab, .int .i64 (wrap64 (ab + 2)), .pointer (some (dC.add ((wrap64 (ab + 2) : Int).toNat * 1))), .int .u8 (rd ac (wrap64 (ab + 2))), .int .u8 (Go.bits .and .u8 (rd ac (wrap64 (ab + 2))) 15), .int .i64 (wrap64 (Go.bits .and .u8 (rd ac (wrap64 (ab + 2))) 15)), .pointer (some ⟨aa, 20, none⟩), undef, undef, undef, undef, undef] [0, 0, 3, 7, 15, 0, 0, 64, 224, 480, 992, 0, 0, 4096, 14336, 30720, 63488, 129024, 31, 262175, 788479, 1837055, 4194303, 8388607] (by kernel_rfl) (by kernel_rfl) rfl ?_ ?_ hS ⟨bG.1, bG.2.1, (bR gi)⟩ ?_ ?_
    ·exact bs3
    ·exact fun x hI => (Kd.C_below aE hI.1)
    ·intro a hS hp
     refine .g (fun w hC => GRun.on rfl (x_move rfl (hS.get 1 rfl))) ?_
     refine .g (fun w hC => GRun.on rfl (x_move rfl (hS.get 2 rfl))) ?_
     refine .g (fun w hC => GRun.on rfl (x_index (sz := 1) (e := 5) rfl ((hp.get 0 rfl rfl rfl).trans (by rw [a7])) ((hp.get 1 rfl rfl rfl)) (by kernel_rfl) (by kernel_rfl) c3 c4)) ?_
     refine .g (fun w hC => GRun.on rfl (x_load1 (d := .int .u8) rfl ((hp.get 2 rfl rfl rfl)) (by kernel_rfl) rfl (row_cell1 (flat_int .u8) (0 : Int) (a7 ▸ hC) ab c3 c4 _ rfl))) ?_
     refine .g (fun w hC => GRun.on rfl ((i64_w (rd ac ab)) ▸ x_convI rfl (by kernel_rfl) (by kernel_rfl) ((hp.get 3 rfl rfl rfl)))) ?_
     refine .g (fun w hC => GRun.on rfl (x_move rfl (hS.get 1 rfl))) ?_
     refine .g (fun w hC => GRun.on rfl (x_move rfl (hS.get 2 rfl))) ?_
     refine .g (fun w hC => GRun.on rfl (x_bin rfl ((hp.get 6 rfl rfl rfl)) (rfl) (b_add _ _ _ _ _))) ?_
     refine .g (fun w hC => GRun.on rfl (x_index (sz := 1) (e := 5) rfl ((hp.get 5 rfl rfl rfl).trans (by rw [a7])) ((hp.get 7 rfl rfl rfl)) (by kernel_rfl) (by kernel_rfl) c5 c6)) ?_
     refine .g (fun w hC => GRun.on rfl (x_load1 (d := .int .u8) rfl ((hp.get 8 rfl rfl rfl)) (by kernel_rfl) rfl (row_cell1 (flat_int .u8) (0 : Int) (a7 ▸ hC) (wrap64 (ab + 1)) c5 c6 _ rfl))) ?_
     refine .g (fun w hC => GRun.on rfl ((i64_w (rd ac (wrap64 (ab + 1)))) ▸ x_convI rfl (by kernel_rfl) (by kernel_rfl) ((hp.get 9 rfl rfl rfl)))) ?_
     refine .g (fun w hC => GRun.on rfl (x_move rfl (hS.get 1 rfl))) ?_
     refine .g (fun w hC => GRun.on rfl (x_move rfl (hS.get 2 rfl))) ?_
     refine .g (fun w hC => GRun.on rfl (x_bin rfl ((hp.get 12 rfl rfl rfl)) (rfl) (b_add _ _ _ _ _))) ?_
     refine .g (fun w hC => GRun.on rfl (x_index (sz := 1) (e := 5) rfl ((hp.get 11 rfl rfl rfl).trans (by rw [a7])) ((hp.get 13 rfl rfl rfl)) (by kernel_rfl) (by kernel_rfl) c7 c8)) ?_
     refine .g (fun w hC => GRun.on rfl (x_load1 (d := .int .u8) rfl ((hp.get 14 rfl rfl rfl)) (by kernel_rfl) rfl (row_cell1 (flat_int .u8) (0 : Int) (a7 ▸ hC) (wrap64 (ab + 2)) c7 c8 _ rfl))) ?_
     refine .g (fun w hC => GRun.on rfl (x_bin rfl ((hp.get 15 rfl rfl rfl)) (rfl) (b_and _ _ _ _ _ _))) ?_
     refine .g (fun w hC => GRun.on rfl ((i64_w (Go.bits .and .u8 (rd ac (wrap64 (ab + 2))) 15)) ▸ x_convI rfl (by kernel_rfl) (by kernel_rfl) ((hp.get 16 rfl rfl rfl)))) ?_
     refine .g (fun w hC => GRun.on rfl (x_fieldE (b := 0) rfl (hS.get 3 rfl) Try.underlying28 rfl rfl (by kernel_rfl))) ?_
     iterate 5 refine .t ?_
     exact .nil
    clear hS
    intro jp kx hS hp cp
    have hS := hS.cons (show sl _ 130 = .int .i64 (wrap64 (rd ac ab)) from hp.get 4 rfl rfl rfl)
    have hS := hS.cons (show sl _ 136 = .int .i64 (wrap64 (rd ac (wrap64 (ab + 1)))) from hp.get 10 rfl rfl rfl)
    have hS := hS.cons (show sl _ 143 = .int .i64 (wrap64 (Go.bits .and .u8 (rd ac (wrap64 (ab + 2))) 15)) from hp.get 17 rfl rfl rfl)
    have hS := hS.cons (show sl _ 144 = .pointer (some ⟨aa, 20, none⟩) from hp.get 18 rfl rfl rfl)
    clear hp
    show ListC _ _ _ _ [_, _, _, _, _] _ _
    refine lc_step rfl (does_store (g := aa) (off := 20) (v := .int .i64 (wrap64 (rd ac ab))) (new := (body_Get.c1 ad al am an ao ap aq ar au av ag aS aP aJ aK aL aG aC ax aj (wrap64 (rd ac ab)) ay ak)) rfl (hS.get 0 rfl) (hS.get 3 rfl) ((cp.2.1.block aa (blk_lt aH)).trans aH) (by kernel_rfl) (by kernel_rfl) (by kernel_rfl) (by kernel_rfl)) ?_
    rintro j7 ib ⟨rfl, dH, hT⟩
    have e9 := hT.blk ((cp.2.1.block ah (blk_lt aQ)).trans aQ) af
    have de := hT.below cp.1 ae (cp.1).size
    clear hT
    refine ⟨(Kd.C_below aE de), ?_⟩
    refine lc_step rfl (R := fun v w' => Below _ _ w' ∧ (VP aa 21) v w') (does_val (x_fieldE (b := 0) rfl (hS.get 7 rfl) Try.underlying28 rfl rfl (by kernel_rfl)) rfl) ?_
    rintro hJ ky ⟨hb, he⟩
    have b0 := below_step de hb
    have bX := below_step (bR ib) hb
    obtain rfl : hJ = .pointer (some ⟨aa, 21, none⟩) := he
    refine ⟨(Kd.C_below aE b0), ?_⟩
    refine hS.nextC (v := .pointer (some ⟨aa, 21, none⟩)) (d := 145) rfl (by decide) (by rfl) ?_
    clear hS
    intro jr hS
    refine lc_step rfl (does_store (g := aa) (off := 21) (v := .int .i64 (wrap64 (rd ac (wrap64 (ab + 1))))) (new := (body_Get.c1 ad al am an ao ap aq ar au av ag aS aP aJ aK aL aG aC ax aj (wrap64 (rd ac ab)) (wrap64 (rd ac (wrap64 (ab + 1)))) ak)) rfl (hS.get 0 rfl) (hS.get 3 rfl) ((bX.block aa (blk_lt dH)).trans dH) (by kernel_rfl) (by kernel_rfl) (by kernel_rfl) (by kernel_rfl)) ?_
    rintro hK dp ⟨rfl, bz, hT⟩
    have b4 := hT.blk ((bX.block ah (blk_lt e9)).trans e9) af
    have bB := hT.below b0 ae (b0).size
    clear hT
    refine ⟨(Kd.C_below aE bB), ?_⟩
    refine lc_step rfl (R := fun v w' => Below _ _ w' ∧ (VP aa 22) v w') (does_val (x_fieldE (b := 0) rfl (hS.get 8 rfl) Try.underlying28 rfl rfl (by kernel_rfl)) rfl) ?_
    rintro hL kA ⟨hb, he⟩
    have b1 := below_step bB hb
    have bY := below_step (bR dp) hb
    obtain rfl : hL = .pointer (some ⟨aa, 22, none⟩) := he
    refine ⟨(Kd.C_below aE b1), ?_⟩
    refine hS.nextC (v := .pointer (some ⟨aa, 22, none⟩)) (d := 146) rfl (by decide) (by rfl) ?_
    clear hS
    intro js hS
    refine lc_step rfl (does_store (g := aa) (off := 22) (v := .int .i64 (wrap64 (Go.bits .and .u8 (rd ac (wrap64 (ab + 2))) 15))) (new := (body_Get.c1 ad al am an ao ap aq ar au av ag aS aP aJ aK aL aG aC ax aj (wrap64 (rd ac ab)) (wrap64 (rd ac (wrap64 (ab + 1)))) (wrap64 (Go.bits .and .u8 (rd ac (wrap64 (ab + 2))) 15)))) rfl (hS.get 0 rfl) (hS.get 3 rfl) ((bY.block aa (blk_lt bz)).trans bz) (by kernel_rfl) (by kernel_rfl) (by kernel_rfl) (by kernel_rfl)) ?_
    rintro j8 gk ⟨rfl, dI, hT⟩
    have fa := hT.blk ((bY.block ah (blk_lt b4)).trans b4) af
    have df := hT.below b1 ae (b1).size
    clear hT
    refine ⟨(Kd.C_below aE df), ?_⟩
    refine lc_nil ?_
    replace hS := ((((hS.nil).cons (hS.get 12 rfl)).cons (hS.get 11 rfl)).cons (hS.get 10 rfl)).cons (hS.get 9 rfl)
    (try simp only [Exit.then, Exit.inBlock])
    exact J4 _ _ ad al am an ao ap aq ar au av ag aS aP aJ aK aL aG aC ax aj (wrap64 (rd ac ab)) (wrap64 (rd ac (wrap64 (ab + 1)))) (wrap64 (Go.bits .and .u8 (rd ac (wrap64 (ab + 2))) 15)) aa bH bI bJ bK bL bM bN bO bP bQ bl bm bn bo bp bq br bs bt bu bv bw bx ah cN cf H hS df ae (((bR gk).block aa (blk_lt dI)).trans dI) b3 (((bR gk).block ah (blk_lt fa)).trans fa) af
   rw [if_pos c1] at H
   obtain ⟨h4, gK, H⟩ := Option.bind_eq_some_iff.mp H
   obtain ⟨ai, b8⟩ := h4
   (try dsimp only at H)
   obtain ⟨h5, gL, H⟩ := Option.bind_eq_some_iff.mp H
   obtain ⟨aw, b9⟩ := h5
   (try dsimp only at H)
   obtain ⟨h6, gM, H⟩ := Option.bind_eq_some_iff.mp H
   obtain ⟨az, aA, aB, ca⟩ := h6
   (try dsimp only at H)
   obtain ⟨h7, gN, H⟩ := Option.bind_eq_some_iff.mp H
   obtain ⟨aF, cb⟩ := h7
   (try dsimp only at H)
   obtain ⟨h8, gO, H⟩ := Option.bind_eq_some_iff.mp H
   obtain ⟨aI, cc⟩ := h8
   (try dsimp only at H)
   obtain ⟨h9, gP, H⟩ := Option.bind_eq_some_iff.mp H
   obtain ⟨aO, cd⟩ := h9
   (try dsimp only at H)
   obtain ⟨ia, gQ, H⟩ := Option.bind_eq_some_iff.mp H
   obtain ⟨aR, ce⟩ := ia
   (try dsimp only at H)
   refine wp_cond_true ((hS.get 0 rfl).trans (bT (decide_eq_true c1))) ?_
   refine wp_seq_k (fun h0 dF => ?_)
   refine reg_seq_tail 7 (I := I3_ w b7 dn) (ps := [IsV (.slice aM ac.length aN), VI ab, IsV (.tuple #[.int .i64 ai, .bool b8]), IsV (.tuple #[.int .i64 ai, .bool b8]), VI ai, VB b8, VP aa 11]) (by kernel_rfl) ?_ ?_ rfl hS ⟨cn.1, cn.2.1, (bR dn)⟩ ?_ ?_
   ·exact bs3
   ·exact .v (.v (.v (.v (.v (.v (.v (.nil)))))))
   ·refine .ms 2 rfl rfl rfl ?_
    refine .ms 3 rfl rfl rfl ?_
    refine .on rfl (fun a w hS hI hp => does_call (by kernel_rfl) (ar3 (hp.V 0 rfl rfl) (hp.V 1 rfl rfl) (rfl)) ((octets_Signed.calls k _ _ ac ab 2 ai b8 _ (Kd.C_below aE hI.1) bW gK).mono fun _ _ h => ⟨_, h.1, h.2.below, rfl⟩)) ?_
    refine .mv 2 rfl rfl rfl ?_
    iterate 2 refine .on rfl (fun a w hS hI hp => does_val (x_extract rfl (hp.V 3 rfl rfl) rfl) rfl) ?_
    refine .on rfl (fun a w hS hI hp => does_val (x_fieldE (b := 0) rfl (hS.get 4 rfl) Try.underlying28 rfl rfl (by kernel_rfl)) rfl) ?_
    exact .nil
   clear hS
   intro jo kw hS co hp
   replace hS := ((((((hS.nil).cons (hS.get 7 rfl)).cons (hS.get 6 rfl)).cons (hS.get 5 rfl)).cons (hS.get 4 rfl)).cons (hS.get 3 rfl)).cons (hS.get 2 rfl)
   have hw : sl _ 73 = .int .i64 ai := hp 4 (by decide)
   have hx : sl _ 75 = .pointer (some ⟨aa, 11, none⟩) := hp 6 (by decide)
   have hS := hS.cons hw
   have hS := hS.cons hx
   clear hp hw hx
   show wpList _ _ _ [_] _ _
   refine list_step rfl (does_store (g := aa) (off := 11) (v := .int .i64 ai) (new := (body_Get.c1 ad al am an ao ap aq ar au av ag ai aP aJ aK aL aG aC ax aj aD ay ak)) rfl (hS.get 0 rfl) (hS.get 1 rfl) ((co.2.1.block aa (blk_lt aH)).trans aH) (by kernel_rfl) (by kernel_rfl) (by kernel_rfl) (by kernel_rfl)) ?_
   rintro j6 gj ⟨rfl, dG, hT⟩
   have e8 := hT.blk ((co.2.1.block ah (blk_lt aQ)).trans aQ) af
   have eW := hT.below co.1 ae (co.1).size
   clear hT
   refine wpList_nil ?_
   refine dF _ _ ?_
   refine wp_seq_k (fun kk ha => ?_)
   refine reg_seq_tail 8 (I := I2_ w gj) (ps := [IsV (.slice aM ac.length aN), VI ab, VI (wrap64 (ab + 3)), IsV (.tuple #[.int .i64 aw, .bool b9]), IsV (.tuple #[.int .i64 aw, .bool b9]), VI aw, VB b9, VP aa 12]) (by kernel_rfl) ?_ ?_ rfl hS ⟨eW, (bR gj)⟩ ?_ ?_
   ·exact bs2
   ·exact .v (.v (.v (.v (.v (.v (.v (.v (.nil))))))))
   ·refine .ms 2 rfl rfl rfl ?_
    refine .ms 3 rfl rfl rfl ?_
    refine .on rfl (fun a w hS hI hp => does_val (x_bin rfl (hp.V 1 rfl rfl) (rfl) (b_add _ _ _ _ _)) rfl) ?_
    refine .on rfl (fun a w hS hI hp => does_call (by kernel_rfl) (ar3 (hp.V 0 rfl rfl) (hp.V 2 rfl rfl) (rfl)) ((octets_Get.calls k _ _ ac (wrap64 (ab + 3)) 1 aw b9 _ (Kd.C_below aE hI.1) bW gL).mono fun _ _ h => ⟨_, h.1, h.2.below, rfl⟩)) ?_
    refine .mv 3 rfl rfl rfl ?_
    iterate 2 refine .on rfl (fun a w hS hI hp => does_val (x_extract rfl (hp.V 4 rfl rfl) rfl) rfl) ?_
    refine .on rfl (fun a w hS hI hp => does_val (x_fieldE (b := 0) rfl (hS.get 4 rfl) Try.underlying28 rfl rfl (by kernel_rfl)) rfl) ?_
    exact .nil
   clear hS
   intro jq kz hS cq hp
   replace hS := ((((((hS.nil).cons (hS.get 7 rfl)).cons (hS.get 6 rfl)).cons (hS.get 5 rfl)).cons (hS.get 4 rfl)).cons (hS.get 3 rfl)).cons (hS.get 2 rfl)
   have hy : sl _ 81 = .int .i64 aw := hp 5 (by decide)
   have hz : sl _ 83 = .pointer (some ⟨aa, 12, none⟩) := hp 7 (by decide)
   have hS := hS.cons hy
   have hS := hS.cons hz
   clear hp hy hz
   show wpList _ _ _ [_] _ _
   refine list_step rfl (does_store (g := aa) (off := 12) (v := .int .i64 aw) (new := (body_Get.c1 ad al am an ao ap aq ar au av ag ai aw aJ aK aL aG aC ax aj aD ay ak)) rfl (hS.get 0 rfl) (hS.get 1 rfl) ((cq.2.block aa (blk_lt dG)).trans dG) (by kernel_rfl) (by kernel_rfl) (by kernel_rfl) (by kernel_rfl)) ?_
   rintro hK dp ⟨rfl, bz, hT⟩
   have b4 := hT.blk ((cq.2.block ah (blk_lt e8)).trans e8) af
   have bB := hT.below cq.1 ae (cq.1).size
   clear hT
   refine wpList_nil ?_
   refine ha _ _ ?_
   refine wp_seq_k (fun kl hd => ?_)
   refine reg_seq_tail 8 (I := I2_ w dp) (ps := [IsV (.slice aM ac.length aN), VI ab, VI (wrap64 (ab + 4)), IsV (.tuple #[.agg #[.int .i64 az, .int .i64 aA, .int .i64 aB], .bool ca]), IsV (.tuple #[.agg #[.int .i64 az, .int .i64 aA, .int .i64 aB], .bool ca]), IsV (.agg #[.int .i64 az, .int .i64 aA, .int .i64 aB]), VB ca, VP aa 13]) (by kernel_rfl) ?_ ?_ rfl hS ⟨bB, (bR dp)⟩ ?_ ?_
   ·exact bs2
   ·exact .v (.v (.v (.v (.v (.v (.v (.v (.nil))))))))
   ·refine .ms 2 rfl rfl rfl ?_
    refine .ms 3 rfl rfl rfl ?_
    refine .on rfl (fun a w hS hI hp => does_val (x_bin rfl (hp.V 1 rfl rfl) (rfl) (b_add _ _ _ _ _)) rfl) ?_
    refine .on rfl (fun a w hS hI hp => does_call (by kernel_rfl) (ar2 (hp.V 0 rfl rfl) (hp.V 2 rfl rfl)) ((quality_Get.calls k _ _ ac (wrap64 (ab + 4)) az aA aB ca _ (Kd.C_below aE hI.1) bW gM).mono fun _ _ h => ⟨_, h.1, h.2, rfl⟩)) ?_
    refine .mv 3 rfl rfl rfl ?_
    iterate 2 refine .on rfl (fun a w hS hI hp => does_val (x_extract rfl (hp.V 4 rfl rfl) rfl) rfl) ?_
    refine .on rfl (fun a w hS hI hp => does_val (x_fieldE (b := 0) rfl (hS.get 4 rfl) Try.underlying28 rfl rfl (by kernel_rfl)) rfl) ?_
    exact .nil
   clear hS
   intro jt kB hS cr hp
   replace hS := ((((((hS.nil).cons (hS.get 7 rfl)).cons (hS.get 6 rfl)).cons (hS.get 5 rfl)).cons (hS.get 4 rfl)).cons (hS.get 3 rfl)).cons (hS.get 2 rfl)
   have hA : sl _ 89 = .agg #[.int .i64 az, .int .i64 aA, .int .i64 aB] := hp 5 (by decide)
   have hB : sl _ 91 = .pointer (some ⟨aa, 13, none⟩) := hp 7 (by decide)
   have hS := hS.cons hA
   have hS := hS.cons hB
   clear hp hA hB
   show wpList _ _ _ [_] _ _
   refine list_step rfl (does_store (g := aa) (off := 13) (v := .agg #[.int .i64 az, .int .i64 aA, .int .i64 aB]) (new := (body_Get.c1 ad al am an ao ap aq ar au av ag ai aw az aA aB aG aC ax aj aD ay ak)) rfl (hS.get 0 rfl) (hS.get 1 rfl) ((cr.2.block aa (blk_lt bz)).trans bz) (by kernel_rfl) (by kernel_rfl) (by kernel_rfl) (by kernel_rfl)) ?_
   rintro j9 gl ⟨rfl, dJ, hT⟩
   have fb := hT.blk ((cr.2.block ah (blk_lt b4)).trans b4) af
   have eX := hT.below cr.1 ae (cr.1).size
   clear hT
   refine wpList_nil ?_
   refine hd _ _ ?_
   refine wp_seq_k (fun km hf => ?_)
   refine reg_seq_tail 8 (I := I2_ w gl) (ps := [IsV (.slice aM ac.length aN), VI ab, VI (wrap64 (ab + 8)), IsV (.tuple #[.int .i64 aF, .bool cb]), IsV (.tuple #[.int .i64 aF, .bool cb]), VI aF, VB cb, VP aa 16]) (by kernel_rfl) ?_ ?_ rfl hS ⟨eX, (bR gl)⟩ ?_ ?_
   ·exact bs2
   ·exact .v (.v (.v (.v (.v (.v (.v (.v (.nil))))))))
   ·refine .ms 2 rfl rfl rfl ?_
    refine .ms 3 rfl rfl rfl ?_
    refine .on rfl (fun a w hS hI hp => does_val (x_bin rfl (hp.V 1 rfl rfl) (rfl) (b_add _ _ _ _ _)) rfl) ?_
    refine .on rfl (fun a w hS hI hp => does_call (by kernel_rfl) (ar3 (hp.V 0 rfl rfl) (hp.V 2 rfl rfl) (rfl)) ((octets_Get.calls k _ _ ac (wrap64 (ab + 8)) 1 aF cb _ (Kd.C_below aE hI.1) bW gN).mono fun _ _ h => ⟨_, h.1, h.2.below, rfl⟩)) ?_
    refine .mv 3 rfl rfl rfl ?_
    iterate 2 refine .on rfl (fun a w hS hI hp => does_val (x_extract rfl (hp.V 4 rfl rfl) rfl) rfl) ?_
    refine .on rfl (fun a w hS hI hp => does_val (x_fieldE (b := 0) rfl (hS.get 4 rfl) Try.underlying28 rfl rfl (by kernel_rfl)) rfl) ?_
    exact .nil
   clear hS
   intro ju kC hS ct hp
   replace hS := ((((((hS.nil).cons (hS.get 7 rfl)).cons (hS.get 6 rfl)).cons (hS.get 5 rfl)).cons (hS.get 4 rfl)).cons (hS.get 3 rfl)).cons (hS.get 2 rfl)
   have hD : sl _ 97 = .int .i64 aF := hp 5 (by decide)
   have hE : sl _ 99 = .pointer (some ⟨aa, 16, none⟩) := hp 7 (by decide)
   have hS := hS.cons hD
   have hS := hS.cons hE
   clear hp hD hE
   show wpList _ _ _ [_] _ _
   refine list_step rfl (does_store (g := aa) (off := 16) (v := .int .i64 aF) (new := (body_Get.c1 ad al am an ao ap aq ar au av ag ai aw az aA aB aF aC ax aj aD ay ak)) rfl (hS.get 0 rfl) (hS.get 1 rfl) ((ct.2.block aa (blk_lt dJ)).trans dJ) (by kernel_rfl) (by kernel_rfl) (by kernel_rfl) (by kernel_rfl)) ?_
   rintro ka gm ⟨rfl, dK, hT⟩
   have fc := hT.blk ((ct.2.block ah (blk_lt fb)).trans fb) af
   have eY := hT.below ct.1 ae (ct.1).size
   clear hT
   refine wpList_nil ?_
   refine hf _ _ ?_
   refine wp_seq_k (fun kn hg => ?_)
   refine reg_seq_tail 8 (I := I2_ w gm) (ps := [IsV (.slice aM ac.length aN), VI ab, VI (wrap64 (ab + 9)), IsV (.tuple #[.int .u64 aI, .bool cc]), IsV (.tuple #[.int .u64 aI, .bool cc]), IsV (.int .u64 aI), VB cc, VP aa 17]) (by kernel_rfl) ?_ ?_ rfl hS ⟨eY, (bR gm)⟩ ?_ ?_
   ·exact bs2
   ·exact .v (.v (.v (.v (.v (.v (.v (.v (.nil))))))))
   ·refine .ms 2 rfl rfl rfl ?_
    refine .ms 3 rfl rfl rfl ?_
    refine .on rfl (fun a w hS hI hp => does_val (x_bin rfl (hp.V 1 rfl rfl) (rfl) (b_add _ _ _ _ _)) rfl) ?_
    refine .on rfl (fun a w hS hI hp => does_call (by kernel_rfl) (ar2 (hp.V 0 rfl rfl) (hp.V 2 rfl rfl)) ((octets_GetId.calls k _ _ ac (wrap64 (ab + 9)) aI cc _ (Kd.C_below aE hI.1) bW gO).mono fun _ _ h => ⟨_, h.1, h.2.below, rfl⟩)) ?_
    refine .mv 3 rfl rfl rfl ?_
    iterate 2 refine .on rfl (fun a w hS hI hp => does_val (x_extract rfl (hp.V 4 rfl rfl) rfl) rfl) ?_
    refine .on rfl (fun a w hS hI hp => does_val (x_fieldE (b := 0) rfl (hS.get 4 rfl) Try.underlying28 rfl rfl (by kernel_rfl)) rfl) ?_
    exact .nil
   clear hS
   intro jv kD hS cu hp
   replace hS := ((((((hS.nil).cons (hS.get 7 rfl)).cons (hS.get 6 rfl)).cons (hS.get 5 rfl)).cons (hS.get 4 rfl)).cons (hS.get 3 rfl)).cons (hS.get 2 rfl)
   have f4 : sl _ 105 = .int .u64 aI := hp 5 (by decide)
   have f5 : sl _ 107 = .pointer (some ⟨aa, 17, none⟩) := hp 7 (by decide)
   have hS := hS.cons f4
   have hS := hS.cons f5
   clear hp f4 f5
   show wpList _ _ _ [_] _ _
   refine list_step rfl (does_store (g := aa) (off := 17) (v := .int .u64 aI) (new := (body_Get.c1 ad al am an ao ap aq ar au av ag ai aw az aA aB aF aI ax aj aD ay ak)) rfl (hS.get 0 rfl) (hS.get 1 rfl) ((cu.2.block aa (blk_lt dK)).trans dK) (by kernel_rfl) (by kernel_rfl) (by kernel_rfl) (by kernel_rfl)) ?_
   rintro kb gn ⟨rfl, dL, hT⟩
   have fd := hT.blk ((cu.2.block ah (blk_lt fc)).trans fc) af
   have eZ := hT.below cu.1 ae (cu.1).size
   clear hT
   refine wpList_nil ?_
   refine hg _ _ ?_
   refine wp_seq_k (fun ko hh => ?_)
   refine reg_seq_tail 8 (I := I2_ w gn) (ps := [IsV (.slice aM ac.length aN), VI ab, VI (wrap64 (ab + 17)), IsV (.tuple #[.int .i64 aO, .bool cd]), IsV (.tuple #[.int .i64 aO, .bool cd]), VI aO, VB cd, VP aa 18]) (by kernel_rfl) ?_ ?_ rfl hS ⟨eZ, (bR gn)⟩ ?_ ?_
   ·exact bs2
   ·exact .v (.v (.v (.v (.v (.v (.v (.v (.nil))))))))
   ·refine .ms 2 rfl rfl rfl ?_
    refine .ms 3 rfl rfl rfl ?_
    refine .on rfl (fun a w hS hI hp => does_val (x_bin rfl (hp.V 1 rfl rfl) (rfl) (b_add _ _ _ _ _)) rfl) ?_
    refine .on rfl (fun a w hS hI hp => does_call (by kernel_rfl) (ar3 (hp.V 0 rfl rfl) (hp.V 2 rfl rfl) (rfl)) ((octets_Get.calls k _ _ ac (wrap64 (ab + 17)) 2 aO cd _ (Kd.C_below aE hI.1) bW gP).mono fun _ _ h => ⟨_, h.1, h.2.below, rfl⟩)) ?_
    refine .mv 3 rfl rfl rfl ?_
    iterate 2 refine .on rfl (fun a w hS hI hp => does_val (x_extract rfl (hp.V 4 rfl rfl) rfl) rfl) ?_
    refine .on rfl (fun a w hS hI hp => does_val (x_fieldE (b := 0) rfl (hS.get 4 rfl) Try.underlying28 rfl rfl (by kernel_rfl)) rfl) ?_
    exact .nil
   clear hS
   intro jw kE hS cv hp
   replace hS := ((((((hS.nil).cons (hS.get 7 rfl)).cons (hS.get 6 rfl)).cons (hS.get 5 rfl)).cons (hS.get 4 rfl)).cons (hS.get 3 rfl)).cons (hS.get 2 rfl)
   have f6 : sl _ 113 = .int .i64 aO := hp 5 (by decide)
   have f7 : sl _ 115 = .pointer (some ⟨aa, 18, none⟩) := hp 7 (by decide)
   have hS := hS.cons f6
   have hS := hS.cons f7
   clear hp f6 f7
   show wpList _ _ _ [_] _ _
   refine list_step rfl (does_store (g := aa) (off := 18) (v := .int .i64 aO) (new := (body_Get.c1 ad al am an ao ap aq ar au av ag ai aw az aA aB aF aI aO aj aD ay ak)) rfl (hS.get 0 rfl) (hS.get 1 rfl) ((cv.2.block aa (blk_lt dL)).trans dL) (by kernel_rfl) (by kernel_rfl) (by kernel_rfl) (by kernel_rfl)) ?_
   rintro kc go ⟨rfl, dM, hT⟩
   have fe := hT.blk ((cv.2.block ah (blk_lt fd)).trans fd) af
   have e0 := hT.below cv.1 ae (cv.1).size
   clear hT
   refine wpList_nil ?_
   refine hh _ _ ?_
   refine reg_seq_tail 8 (I := I2_ w go) (ps := [IsV (.slice aM ac.length aN), VI ab, VI (wrap64 (ab + 19)), IsV (.tuple #[.int .i64 aR, .bool ce]), IsV (.tuple #[.int .i64 aR, .bool ce]), VI aR, VB ce, VP aa 19]) (by kernel_rfl) ?_ ?_ rfl hS ⟨e0, (bR go)⟩ ?_ ?_
   ·exact bs2
   ·exact .v (.v (.v (.v (.v (.v (.v (.v (.nil))))))))
   ·refine .ms 2 rfl rfl rfl ?_
    refine .ms 3 rfl rfl rfl ?_
    refine .on rfl (fun a w hS hI hp => does_val (x_bin rfl (hp.V 1 rfl rfl) (rfl) (b_add _ _ _ _ _)) rfl) ?_
    refine .on rfl (fun a w hS hI hp => does_call (by kernel_rfl) (ar3 (hp.V 0 rfl rfl) (hp.V 2 rfl rfl) (rfl)) ((octets_Get.calls k _ _ ac (wrap64 (ab + 19)) 1 aR ce _ (Kd.C_below aE hI.1) bW gQ).mono fun _ _ h => ⟨_, h.1, h.2.below, rfl⟩)) ?_
    refine .mv 3 rfl rfl rfl ?_
    iterate 2 refine .on rfl (fun a w hS hI hp => does_val (x_extract rfl (hp.V 4 rfl rfl) rfl) rfl) ?_
    refine .on rfl (fun a w hS hI hp => does_val (x_fieldE (b := 0) rfl (hS.get 4 rfl) Try.underlying28 rfl rfl (by kernel_rfl)) rfl) ?_
    exact .nil
   clear hS
   intro jx kF hS cw hp
   replace hS := ((((hS.nil).cons (hS.get 7 rfl)).cons (hS.get 6 rfl)).cons (hS.get 5 rfl)).cons (hS.get 4 rfl)
   have f8 : sl _ 121 = .int .i64 aR := hp 5 (by decide)
   have f9 : sl _ 123 = .pointer (some ⟨aa, 19, none⟩) := hp 7 (by decide)
   have hS := hS.cons f8
   have hS := hS.cons f9
   clear hp f8 f9
   show wpList _ _ _ [_] _ _
   refine list_step rfl (does_store (g := aa) (off := 19) (v := .int .i64 aR) (new := (body_Get.c1 ad al am an ao ap aq ar au av ag ai aw az aA aB aF aI aO aR aD ay ak)) rfl (hS.get 0 rfl) (hS.get 1 rfl) ((cw.2.block aa (blk_lt dM)).trans dM) (by kernel_rfl) (by kernel_rfl) (by kernel_rfl) (by kernel_rfl)) ?_
   rintro kd gp ⟨rfl, dN, hT⟩
   have ff := hT.blk ((cw.2.block ah (blk_lt fe)).trans fe) af
   have e1 := hT.below cw.1 ae (cw.1).size
   clear hT
   refine wpList_nil ?_
   replace hS := ((((hS.nil).cons (hS.get 5 rfl)).cons (hS.get 4 rfl)).cons (hS.get 3 rfl)).cons (hS.get 2 rfl)
   (try simp only [Exit.then, Exit.inBlock])
   exact J4 _ _ ad al am an ao ap aq ar au av ag ai aw az aA aB aF aI aO aR aD ay ak aa bH bI bJ bK bL bM bN bO bP bQ bl bm bn bo bp bq br bs bt bu bv bw bx ah cN cf H hS e1 ae (((bR gp).block aa (blk_lt dN)).trans dN) b3 (((bR gp).block ah (blk_lt ff)).trans ff) af
  obtain ⟨gG, ja, H⟩ := Option.bind_eq_some_iff.mp H
  refine wp_seq_k (fun lg jE => ?_)
  refine reg_seq (I := I2_ w hO) (ps := [VP bS 0, VI dj, VB gG]) (by kernel_rfl) ?_ ?_ rfl hS ⟨i4, (bR hO)⟩ ?_ ?_
  ·exact bs2
  ·exact .v (.v (.v (.nil)))
  ·refine .on rfl (fun a w hS hI hp => does_val (x_fieldE (b := 0) rfl (hS.get 2 rfl) Try.underlying28 rfl rfl (by kernel_rfl)) rfl) ?_
   refine .on rfl (fun a w hS hI hp => does_val (x_load1 (d := .int .i64) rfl (hp.V 0 rfl rfl) (by kernel_rfl) rfl ((blk_cell (((hI.2).block bS (blk_lt ci)).trans ci) 0).trans rfl)) rfl) ?_
   refine .on rfl (fun a w hS hI hp => does_call (by kernel_rfl) (ar1 (hp.V 1 rfl rfl)) ((body_targeted.calls dj gG _  ja).mono fun _ _ h => ⟨_, h.1, h.2.below, rfl⟩)) ?_
   exact .nil
  clear hS
  intro kW iU hS fk hp
  have ho : sl _ 55 = .bool gG := hp 2 (by decide)
  have hS := hS.cons ho
  clear hp ho
  refine jE _ _ ?_
  by_cases c1 : gG = true
  rotate_left
  ·rw [if_neg c1] at H
   refine wp_cond_false ((hS.get 0 rfl).trans (bF (Bool.eq_false_iff.2 c1))) ?_
   refine wp_skip ?_
   replace hS := ((((((hS.nil).cons (hS.get 6 rfl)).cons (hS.get 5 rfl)).cons (hS.get 4 rfl)).cons (hS.get 3 rfl)).cons (hS.get 2 rfl)).cons (hS.get 1 rfl)
   (try simp only [Exit.then, Exit.inBlock])
   exact J3 _ _ ea fJ fK cA dj ef eg eh ei ej ek el em gr fO dq dr ds dt du dv dw dx dy dz dA dB bS fo fp fq fr fs ft fu fv fw fx en eo ep eq er es et eu ev ew ex ey ez da hQ gq H hS fk.1 h3 (hm) e5 ((fk.2.block bS (blk_lt ci)).trans ci) gz ((fk.2.block da (blk_lt d8)).trans d8) fg
  rw [if_pos c1] at H
  obtain ⟨kq, jb, H⟩ := Option.bind_eq_some_iff.mp H
  obtain ⟨cj, ck, fL⟩ := kq
  (try dsimp only at H)
  refine wp_cond_true ((hS.get 0 rfl).trans (bT c1)) ?_
  refine wp_seq_k (fun lh jF => ?_)
  refine reg_seq_tail 7 (I := I3_ w hO iU) (ps := [IsV (.slice fJ ea.length fK), VI cA, IsV (.tuple #[.agg #[.int .u64 cj, .int .i64 ck], .bool fL]), IsV (.tuple #[.agg #[.int .u64 cj, .int .i64 ck], .bool fL]), IsV (.agg #[.int .u64 cj, .int .i64 ck]), VB fL, VP bS 9]) (by kernel_rfl) ?_ ?_ rfl hS ⟨fk.1, fk.2, (bR iU)⟩ ?_ ?_
  ·exact bs3
  ·exact .v (.v (.v (.v (.v (.v (.v (.nil)))))))
  ·refine .ms 1 rfl rfl rfl ?_
   refine .ms 2 rfl rfl rfl ?_
   refine .on rfl (fun a w hS hI hp => does_call (by kernel_rfl) (ar2 (hp.V 0 rfl rfl) (hp.V 1 rfl rfl)) ((ident_Get.calls k _ _ ea cA cj ck fL _ (Kd.C_below hm hI.1) h3 jb).mono fun _ _ h => ⟨_, h.1, h.2, rfl⟩)) ?_
   refine .mv 2 rfl rfl rfl ?_
   iterate 2 refine .on rfl (fun a w hS hI hp => does_val (x_extract rfl (hp.V 3 rfl rfl) rfl) rfl) ?_
   refine .on rfl (fun a w hS hI hp => does_val (x_fieldE (b := 0) rfl (hS.get 3 rfl) Try.underlying28 rfl rfl (by kernel_rfl)) rfl) ?_
   exact .nil
  clear hS
  intro kX lo hS gd hp
  replace hS := ((((((hS.nil).cons (hS.get 6 rfl)).cons (hS.get 5 rfl)).cons (hS.get 4 rfl)).cons (hS.get 3 rfl)).cons (hS.get 2 rfl)).cons (hS.get 1 rfl)
  have hq : sl _ 60 = .agg #[.int .u64 cj, .int .i64 ck] := hp 4 (by decide)
  have hr : sl _ 62 = .pointer (some ⟨bS, 9, none⟩) := hp 6 (by decide)
  have hS := hS.cons hq
  have hS := hS.cons hr
  clear hp hq hr
  show wpList _ _ _ [_] _ _
  refine list_step rfl (does_store (g := bS) (off := 9) (v := .agg #[.int .u64 cj, .int .i64 ck]) (new := (body_Get.c1 dj ef eg eh ei ej ek el em cj ck dq dr ds dt du dv dw dx dy dz dA dB)) rfl (hS.get 0 rfl) (hS.get 1 rfl) ((gd.2.1.block bS (blk_lt ci)).trans ci) (by kernel_rfl) (by kernel_rfl) (by kernel_rfl) (by kernel_rfl)) ?_
  rintro lc iV ⟨rfl, hj, hT⟩
  have iq := hT.blk ((gd.2.1.block da (blk_lt d8)).trans d8) fg
  have ig := hT.below gd.1 e5 (gd.1).size
  clear hT
  refine wpList_nil ?_
  refine jF _ _ ?_
  refine reg_seq_tail 2 (I := I2_ w iV) (ps := [VI cA, VI (wrap64 (cA + 10))]) (by kernel_rfl) ?_ ?_ rfl hS ⟨ig, (bR iV)⟩ ?_ ?_
  ·exact bs2
  ·exact .v (.v (.nil))
  ·refine .ms 3 rfl rfl rfl ?_
   refine .on rfl (fun a w hS hI hp => does_val (x_bin rfl (hp.V 0 rfl rfl) (rfl) (b_add _ _ _ _ _)) rfl) ?_
   exact .nil
  clear hS
  intro kY kt hS it hp
  replace hS := ((((((hS.nil).cons (hS.get 7 rfl)).cons (hS.get 6 rfl)).cons (hS.get 5 rfl)).cons (hS.get 4 rfl)).cons (hS.get 3 rfl)).cons (hS.get 2 rfl)
  have hs : sl _ 64 = .int .i64 (wrap64 (cA + 10)) := hp 1 (by decide)
  have hS := hS.cons hs
  clear hp hs
  show wpList _ _ _ [_] _ _
  refine list_step rfl (R := fun v w' => Below _ _ w' ∧ (VI (wrap64 (cA + 10))) v w') (does_val (x_assign rfl (hS.get 0 rfl)) rfl) ?_
  rintro jW lp ⟨hb, he⟩
  have ih := below_step it.1 hb
  have eS := below_step it.2 hb
  have i6 := below_step (bR kt) hb
  obtain rfl : jW = .int .i64 (wrap64 (cA + 10)) := he
  replace hS := ((((((hS.nil).cons (hS.get 6 rfl)).cons (hS.get 5 rfl)).cons (hS.get 4 rfl)).cons (hS.get 3 rfl)).cons (hS.get 1 rfl)).cons (hS.get 0 rfl)
  refine hS.next (v := .int .i64 (wrap64 (cA + 10))) (d := 2) rfl (by decide) (by rfl) ?_
  clear hS
  intro kZ hS
  refine wpList_nil ?_
  replace hS := ((((((hS.nil).cons (hS.get 6 rfl)).cons (hS.get 5 rfl)).cons (hS.get 4 rfl)).cons (hS.get 3 rfl)).cons (hS.get 0 rfl)).cons (hS.get 2 rfl)
  (try simp only [Exit.then, Exit.inBlock])
  exact J3 _ _ ea fJ fK (wrap64 (cA + 10)) dj ef eg eh ei ej ek el em cj ck dq dr ds dt du dv dw dx dy dz dA dB bS fo fp fq fr fs ft fu fv fw fx en eo ep eq er es et eu ev ew ex ey ez da hQ gq H hS ih h3 (hm) e5 ((eS.block bS (blk_lt hj)).trans hj) gz ((eS.block da (blk_lt iq)).trans iq) fg
 obtain ⟨cy, kO, H⟩ := Option.bind_eq_some_iff.mp H
 refine wp_seq_k (fun lz kR => ?_)
 refine reg_seq (I := I4_ w w3 w5 kL) (ps := [VI a2, VP g4 0, VI eQ, VI cy, VI a2, VI cy, VB true]) (by kernel_rfl) ?_ ?_ rfl hS ⟨i0, iM, iN, (bR kL)⟩ ?_ ?_
 ·exact bs4
 ·exact .v (.v (.v (.v (.v (.v (.v (.nil)))))))
 ·refine .ms 5 rfl rfl rfl ?_
  refine .on rfl (fun a w hS hI hp => does_val (x_fieldE (b := 0) rfl (hS.get 3 rfl) Try.underlying28 rfl rfl (by kernel_rfl)) rfl) ?_
  refine .on rfl (fun a w hS hI hp => does_val (x_load1 (d := .int .i64) rfl (hp.V 1 rfl rfl) (by kernel_rfl) rfl ((blk_cell (((hI.2.1).block g4 (blk_lt cg)).trans cg) 0).trans rfl)) rfl) ?_
  refine .on rfl (fun a w hS hI hp => does_call (by kernel_rfl) (ar1 (hp.V 2 rfl rfl)) ((body_Len.calls k eQ cy _  kO).mono fun _ _ h => ⟨_, h.1, h.2.below, rfl⟩)) ?_
  refine .asg 0 rfl rfl rfl ?_
  refine .asg 3 rfl rfl rfl ?_
  refine .on rfl (fun a w hS hI hp => does_val (x_assign rfl (rfl)) rfl) ?_
  exact .nil
 clear hS
 intro lw hW hS eR hp
 replace hS := ((((hS.nil).cons (hS.get 5 rfl)).cons (hS.get 4 rfl)).cons (hS.get 3 rfl)).cons (hS.get 2 rfl)
 have kK : sl _ 9 = .int .i64 a2 := hp 4 (by decide)
 have jP : sl _ 10 = .int .i64 cy := hp 5 (by decide)
 have hS := hS.cons kK
 have hS := hS.cons jP
 clear hp kK jP
 refine kR _ _ ?_
 refine wp_seq_k (fun lA kS => ?_)
 by_cases c1 : a2 < 0
 ·rw [if_pos c1] at H
  simp only [Option.some.injEq, Prod.mk.injEq] at H
  obtain ⟨rfl, rfl, rfl, rfl, rfl, rfl, rfl, rfl, rfl, rfl, rfl, rfl, rfl, rfl, rfl, rfl, rfl, rfl, rfl, rfl, rfl, rfl, rfl, rfl, rfl⟩ := H
  refine wp_seq_k (fun kV h1 => ?_)
  refine reg_seq (I := I4_ w w3 w5 hW) (ps := [VI a2, VB (decide (a2 < 0)), VB (decide (a2 < 0)), VU, VU, VU, VU, VB true, VB true, VU, VU, VU, VU, VU, VU, VB true]) (by kernel_rfl) ?_ ?_ rfl hS ⟨eR.1, eR.2.1, eR.2.2.1, (bR hW)⟩ ?_ ?_
  ·exact bs4
  ·exact .v (.v (.v (.v (.v (.v (.v (.v (.v (.v (.v (.v (.v (.v (.v (.v (.nil))))))))))))))))
  ·refine .ms 5 rfl rfl rfl ?_
   refine .on rfl (fun a w hS hI hp => does_val (x_bin rfl (hp.V 0 rfl rfl) (rfl) (b_lss _ _ _ _ _ _)) rfl) ?_
   refine .mv 1 rfl rfl rfl ?_
   iterate 4 refine .sn 2 18 rfl rfl ((decide_eq_true c1)) ?_
   refine .on rfl (fun a w hS hI hp => does_val (x_pickT rfl ((hp.V 2 rfl rfl).trans (bT (decide_eq_true c1))) (rfl)) rfl) ?_
   refine .mv 7 rfl rfl rfl ?_
   iterate 6 refine .sn 8 24 rfl rfl rfl ?_
   refine .on rfl (fun a w hS hI hp => does_val (x_pickT rfl ((hp.V 8 rfl rfl).trans (bT rfl)) (rfl)) rfl) ?_
   exact .nil
  clear hS
  intro jg eU hS b5 hp
  have fi : sl _ 31 = .bool true := hp 15 (by decide)
  have hS := hS.cons fi
  clear hp fi
  refine h1 _ _ ?_
  refine wp_cond_true ((hS.get 0 rfl).trans (bT rfl)) ?_
  refine wp_seq_k (fun iQ fP => ?_)
  refine reg_seq_tail 1 (I := I4_ w w3 w5 eU) (ps := [IsV ((body_Get.v0 0 0 0 0 0 0 0 0 0 0 0 0 0 0 0 0 0 0 0 0 0 0 0))]) (by kernel_rfl) ?_ ?_ rfl hS ⟨b5.1, b5.2.1, b5.2.2.1, (bR eU)⟩ ?_ ?_
  ·exact bs4
  ·exact .v (.nil)
  ·refine .on rfl (fun a w hS hI hp => does_val (x_build (vs := []) rfl (by rw [Array.toList_map]; exact (show [] = _ from rfl)) (by kernel_rfl)) rfl) ?_
   exact .nil
  clear hS
  intro ji kM hS b6 hp
  replace hS := (hS.nil).cons (hS.get 3 rfl)
  have fj : sl _ 32 = (body_Get.v0 0 0 0 0 0 0 0 0 0 0 0 0 0 0 0 0 0 0 0 0 0 0 0) := hp 0 (by decide)
  have hS := hS.cons fj
  clear hp fj
  show wpList _ _ _ [_, _, _] _ _
  refine list_step rfl (does_storeAll (g := g6) (cs := (body_Get.c1 0 0 0 0 0 0 0 0 0 0 0 0 0 0 0 0 0 0 0 0 0 0 0)) rfl (hS.get 1 rfl) (hS.get 0 rfl) ((b6.2.2.1.block g6 (blk_lt ch)).trans ch) (by kernel_rfl) (by kernel_rfl) (by kernel_rfl)) ?_
  rintro j5 hX ⟨rfl, dh, hT⟩
  have eb := hT.below b6.1 (Nat.le_trans (hF).size db) (b6.1).size
  have dD := hT.below b6.2.1 db (b6.2.1).size
  clear hT
  refine list_step rfl (R := fun v w' => Below _ _ w' ∧ (VI 0) v w') (does_val (x_assign rfl (rfl)) rfl) ?_
  rintro hG hY ⟨hb, he⟩
  have ec := below_step eb hb
  have dE := below_step dD hb
  have dc := below_step (bR hX) hb
  obtain rfl : hG = .int .i64 0 := he
  refine hS.next (v := .int .i64 0) (d := 7) rfl (by decide) (by rfl) ?_
  clear hS
  intro jj hS
  refine list_step rfl (R := fun v w' => Below _ _ w' ∧ (VI 2) v w') (does_val (x_assign rfl (rfl)) rfl) ?_
  rintro hH kN ⟨hb, he⟩
  have ed := below_step ec hb
  have g3 := below_step dE hb
  have dd := below_step dc hb
  have gw := below_step (bR hY) hb
  obtain rfl : hH = .int .i64 2 := he
  refine hS.next (v := .int .i64 2) (d := 8) rfl (by decide) (by rfl) ?_
  clear hS
  intro jk hS
  refine wpList_nil ?_
  refine fP _ _ ?_
  refine wp_ret ?_
  (try simp only [Exit.then, Exit.inBlock, Exit.jump, Exit.noGoto])
  exact bodyPost_ret (v := .tuple #[(body_Get.v0 0 0 0 0 0 0 0 0 0 0 0 0 0 0 0 0 0 0 0 0 0 0 0), .int .i64 0, .int .i64 2]) (results_list (rs := [.cell 6 28, .tmp 7, .tmp 8]) rfl (by simp) (Vals.cell g6 28 (body_Get.c1 0 0 0 0 0 0 0 0 0 0 0 0 0 0 0 0 0 0 0 0 0 0 0) (0, 0) _ (hS.get 3 rfl) ((dd.block g6 (blk_lt dh)).trans dh) Try.underlying28 rfl (by kernel_rfl) (Vals.at (hS.get 1 rfl) (Vals.at (hS.get 0 rfl) .nil)))) hS.nodef ⟨rfl, ed⟩
 rw [if_neg c1] at H
 refine wp_seq_k (fun kV h1 => ?_)
 by_cases c2 : a2 > (l1.length : Int)
 ·rw [if_pos c2] at H
  simp only [Option.some.injEq, Prod.mk.injEq] at H
  obtain ⟨rfl, rfl, rfl, rfl, rfl, rfl, rfl, rfl, rfl, rfl, rfl, rfl, rfl, rfl, rfl, rfl, rfl, rfl, rfl, rfl, rfl, rfl, rfl, rfl, rfl⟩ := H
  refine reg_seq (I := I4_ w w3 w5 hW) (ps := [VI a2, VB (decide (a2 < 0)), VB (decide (a2 < 0)), VI a2, IsV (.slice A1 l1.length g2), VI (l1.length : Int), VB (decide (a2 > (l1.length : Int))), VB (decide (a2 > (l1.length : Int))), VB (decide (a2 > (l1.length : Int))), VU, VU, VU, VU, VU, VU, VB true]) (by kernel_rfl) ?_ ?_ rfl hS ⟨eR.1, eR.2.1, eR.2.2.1, (bR hW)⟩ ?_ ?_
  ·exact bs4
  ·exact .v (.v (.v (.v (.v (.v (.v (.v (.v (.v (.v (.v (.v (.v (.v (.v (.nil))))))))))))))))
  ·refine .ms 5 rfl rfl rfl ?_
   refine .on rfl (fun a w hS hI hp => does_val (x_bin rfl (hp.V 0 rfl rfl) (rfl) (b_lss _ _ _ _ _ _)) rfl) ?_
   refine .mv 1 rfl rfl rfl ?_
   refine .oy 2 18 rfl rfl ((decide_eq_false c1)) (fun a w hS hI hp => does_val (x_move rfl (hS.get 5 rfl)) rfl) ?_
   refine .oy 2 18 rfl rfl ((decide_eq_false c1)) (fun a w hS hI hp => does_val (x_move rfl (hS.get 4 rfl)) rfl) ?_
   refine .oy 2 18 rfl rfl ((decide_eq_false c1)) (fun a w hS hI hp => does_val (x_len (e := 5) rfl (by kernel_rfl) (hp.V 4 rfl rfl)) rfl) ?_
   refine .oy 2 18 rfl rfl ((decide_eq_false c1)) (fun a w hS hI hp => does_val (x_bin rfl (hp.V 3 rfl rfl) (hp.V 5 rfl rfl) (b_gtr _ _ _ _ _ _)) rfl) ?_
   refine .on rfl (fun a w hS hI hp => does_val (x_pickF rfl ((hp.V 2 rfl rfl).trans (bF (decide_eq_false c1))) (hp.V 6 rfl rfl)) rfl) ?_
   refine .mv 7 rfl rfl rfl ?_
   iterate 6 refine .sn 8 24 rfl rfl ((decide_eq_true c2)) ?_
   refine .on rfl (fun a w hS hI hp => does_val (x_pickT rfl ((hp.V 8 rfl rfl).trans (bT (decide_eq_true c2))) (rfl)) rfl) ?_
   exact .nil
  clear hS
  intro jg eU hS b5 hp
  have fi : sl _ 31 = .bool true := hp 15 (by decide)
  have hS := hS.cons fi
  clear hp fi
  refine h1 _ _ ?_
  refine wp_cond_true ((hS.get 0 rfl).trans (bT rfl)) ?_
  refine wp_seq_k (fun iQ fP => ?_)
  refine reg_seq_tail 1 (I := I4_ w w3 w5 eU) (ps := [IsV ((body_Get.v0 0 0 0 0 0 0 0 0 0 0 0 0 0 0 0 0 0 0 0 0 0 0 0))]) (by kernel_rfl) ?_ ?_ rfl hS ⟨b5.1, b5.2.1, b5.2.2.1, (bR eU)⟩ ?_ ?_
  ·exact bs4
  ·exact .v (.nil)
  ·refine .on rfl (fun a w hS hI hp => does_val (x_build (vs := []) rfl (by rw [Array.toList_map]; exact (show [] = _ from rfl)) (by kernel_rfl)) rfl) ?_
   exact .nil
  clear hS
  intro ji kM hS b6 hp
  replace hS := (hS.nil).cons (hS.get 3 rfl)
  have fj : sl _ 32 = (body_Get.v0 0 0 0 0 0 0 0 0 0 0 0 0 0 0 0 0 0 0 0 0 0 0 0) := hp 0 (by decide)
  have hS := hS.cons fj
  clear hp fj
  show wpList _ _ _ [_, _, _] _ _
  refine list_step rfl (does_storeAll (g := g6) (cs := (body_Get.c1 0 0 0 0 0 0 0 0 0 0 0 0 0 0 0 0 0 0 0 0 0 0 0)) rfl (hS.get 1 rfl) (hS.get 0 rfl) ((b6.2.2.1.block g6 (blk_lt ch)).trans ch) (by kernel_rfl) (by kernel_rfl) (by kernel_rfl)) ?_
  rintro j5 hX ⟨rfl, dh, hT⟩
  have eb := hT.below b6.1 (Nat.le_trans (hF).size db) (b6.1).size
  have dD := hT.below b6.2.1 db (b6.2.1).size
  clear hT
  refine list_step rfl (R := fun v w' => Below _ _ w' ∧ (VI 0) v w') (does_val (x_assign rfl (rfl)) rfl) ?_
  rintro hG hY ⟨hb, he⟩
  have ec := below_step eb hb
  have dE := below_step dD hb
  have dc := below_step (bR hX) hb
  obtain rfl : hG = .int .i64 0 := he
  refine hS.next (v := .int .i64 0) (d := 7) rfl (by decide) (by rfl) ?_
  clear hS
  intro jj hS
  refine list_step rfl (R := fun v w' => Below _ _ w' ∧ (VI 2) v w') (does_val (x_assign rfl (rfl)) rfl) ?_
  rintro hH kN ⟨hb, he⟩
  have ed := below_step ec hb
  have g3 := below_step dE hb
  have dd := below_step dc hb
  have gw := below_step (bR hY) hb
  obtain rfl : hH = .int .i64 2 := he
  refine hS.next (v := .int .i64 2) (d := 8) rfl (by decide) (by rfl) ?_
  clear hS
  intro jk hS
  refine wpList_nil ?_
  refine fP _ _ ?_
  refine wp_ret ?_
  (try simp only [Exit.then, Exit.inBlock, Exit.jump, Exit.noGoto])
  exact bodyPost_ret (v := .tuple #[(body_Get.v0 0 0 0 0 0 0 0 0 0 0 0 0 0 0 0 0 0 0 0 0 0 0 0), .int .i64 0, .int .i64 2]) (results_list (rs := [.cell 6 28, .tmp 7, .tmp 8]) rfl (by simp) (Vals.cell g6 28 (body_Get.c1 0 0 0 0 0 0 0 0 0 0 0 0 0 0 0 0 0 0 0 0 0 0 0) (0, 0) _ (hS.get 3 rfl) ((dd.block g6 (blk_lt dh)).trans dh) Try.underlying28 rfl (by kernel_rfl) (Vals.at (hS.get 1 rfl) (Vals.at (hS.get 0 rfl) .nil)))) hS.nodef ⟨rfl, ed⟩
 rw [if_neg c2] at H
 refine reg_seq (I := I4_ w w3 w5 hW) (ps := [VI a2, VB (decide (a2 < 0)), VB (decide (a2 < 0)), VI a2, IsV (.slice A1 l1.length g2), VI (l1.length : Int), VB (decide (a2 > (l1.length : Int))), VB (decide (a2 > (l1.length : Int))), VB (decide (a2 > (l1.length : Int))), IsV (.slice A1 l1.length g2), VI (l1.length : Int), VI a2, VI (wrap64 ((l1.length : Int) - a2)), VI cy, VB (decide ((wrap64 ((l1.length : Int) - a2)) < cy)), VB (decide ((wrap64 ((l1.length : Int) - a2)) < cy))]) (by kernel_rfl) ?_ ?_ rfl hS ⟨eR.1, eR.2.1, eR.2.2.1, (bR hW)⟩ ?_ ?_
 ·exact bs4
 ·exact .v (.v (.v (.v (.v (.v (.v (.v (.v (.v (.v (.v (.v (.v (.v (.v (.nil))))))))))))))))
 ·refine .ms 5 rfl rfl rfl ?_
  refine .on rfl (fun a w hS hI hp => does_val (x_bin rfl (hp.V 0 rfl rfl) (rfl) (b_lss _ _ _ _ _ _)) rfl) ?_
  refine .mv 1 rfl rfl rfl ?_
  refine .oy 2 18 rfl rfl ((decide_eq_false c1)) (fun a w hS hI hp => does_val (x_move rfl (hS.get 5 rfl)) rfl) ?_
  refine .oy 2 18 rfl rfl ((decide_eq_false c1)) (fun a w hS hI hp => does_val (x_move rfl (hS.get 4 rfl)) rfl) ?_
  refine .oy 2 18 rfl rfl ((decide_eq_false c1)) (fun a w hS hI hp => does_val (x_len (e := 5) rfl (by kernel_rfl) (hp.V 4 rfl rfl)) rfl) ?_
  refine .oy 2 18 rfl rfl ((decide_eq_false c1)) (fun a w hS hI hp => does_val (x_bin rfl (hp.V 3 rfl rfl) (hp.V 5 rfl rfl) (b_gtr _ _ _ _ _ _)) rfl) ?_
  refine .on rfl (fun a w hS hI hp => does_val (x_pickF rfl ((hp.V 2 rfl rfl).trans (bF (decide_eq_false c1))) (hp.V 6 rfl rfl)) rfl) ?_
  refine .mv 7 rfl rfl rfl ?_
  refine .oy 8 24 rfl rfl ((decide_eq_false c2)) (fun a w hS hI hp => does_val (x_move rfl (hS.get 4 rfl)) rfl) ?_
  refine .oy 8 24 rfl rfl ((decide_eq_false c2)) (fun a w hS hI hp => does_val (x_len (e := 5) rfl (by kernel_rfl) (hp.V 9 rfl rfl)) rfl) ?_
  refine .oy 8 24 rfl rfl ((decide_eq_false c2)) (fun a w hS hI hp => does_val (x_move rfl (hS.get 5 rfl)) rfl) ?_
  refine .oy 8 24 rfl rfl ((decide_eq_false c2)) (fun a w hS hI hp => does_val (x_bin rfl (hp.V 10 rfl rfl) (hp.V 11 rfl rfl) (b_sub _ _ _ _ _)) rfl) ?_
  refine .oy 8 24 rfl rfl ((decide_eq_false c2)) (fun a w hS hI hp => does_val (x_move rfl (hS.get 0 rfl)) rfl) ?_
  refine .oy 8 24 rfl rfl ((decide_eq_false c2)) (fun a w hS hI hp => does_val (x_bin rfl (hp.V 12 rfl rfl) (hp.V 13 rfl rfl) (b_lss _ _ _ _ _ _)) rfl) ?_
  refine .on rfl (fun a w hS hI hp => does_val (x_pickF rfl ((hp.V 8 rfl rfl).trans (bF (decide_eq_false c2))) (hp.V 14 rfl rfl)) rfl) ?_
  exact .nil
 clear hS
 intro jg eU hS b5 hp
 have fi : sl _ 31 = .bool (decide ((wrap64 ((l1.length : Int) - a2)) < cy)) := hp 15 (by decide)
 have hS := hS.cons fi
 clear hp fi
 refine h1 _ _ ?_
 by_cases c3 : (wrap64 ((l1.length : Int) - a2)) < cy
 ·rw [if_pos c3] at H
  simp only [Option.some.injEq, Prod.mk.injEq] at H
  obtain ⟨rfl, rfl, rfl, rfl, rfl, rfl, rfl, rfl, rfl, rfl, rfl, rfl, rfl, rfl, rfl, rfl, rfl, rfl, rfl, rfl, rfl, rfl, rfl, rfl, rfl⟩ := H
  refine wp_cond_true ((hS.get 0 rfl).trans (bT (decide_eq_true c3))) ?_
  refine wp_seq_k (fun iQ fP => ?_)
  refine reg_seq_tail 1 (I := I4_ w w3 w5 eU) (ps := [IsV ((body_Get.v0 0 0 0 0 0 0 0 0 0 0 0 0 0 0 0 0 0 0 0 0 0 0 0))]) (by kernel_rfl) ?_ ?_ rfl hS ⟨b5.1, b5.2.1, b5.2.2.1, (bR eU)⟩ ?_ ?_
  ·exact bs4
  ·exact .v (.nil)
  ·refine .on rfl (fun a w hS hI hp => does_val (x_build (vs := []) rfl (by rw [Array.toList_map]; exact (show [] = _ from rfl)) (by kernel_rfl)) rfl) ?_
   exact .nil
  clear hS
  intro ji kM hS b6 hp
  replace hS := (hS.nil).cons (hS.get 3 rfl)
  have fj : sl _ 32 = (body_Get.v0 0 0 0 0 0 0 0 0 0 0 0 0 0 0 0 0 0 0 0 0 0 0 0) := hp 0 (by decide)
  have hS := hS.cons fj
  clear hp fj
  show wpList _ _ _ [_, _, _] _ _
  refine list_step rfl (does_storeAll (g := g6) (cs := (body_Get.c1 0 0 0 0 0 0 0 0 0 0 0 0 0 0 0 0 0 0 0 0 0 0 0)) rfl (hS.get 1 rfl) (hS.get 0 rfl) ((b6.2.2.1.block g6 (blk_lt ch)).trans ch) (by kernel_rfl) (by kernel_rfl) (by kernel_rfl)) ?_
  rintro j5 hX ⟨rfl, dh, hT⟩
  have eb := hT.below b6.1 (Nat.le_trans (hF).size db) (b6.1).size
  have dD := hT.below b6.2.1 db (b6.2.1).size
  clear hT
  refine list_step rfl (R := fun v w' => Below _ _ w' ∧ (VI 0) v w') (does_val (x_assign rfl (rfl)) rfl) ?_
  rintro hG hY ⟨hb, he⟩
  have ec := below_step eb hb
  have dE := below_step dD hb
  have dc := below_step (bR hX) hb
  obtain rfl : hG = .int .i64 0 := he
  refine hS.next (v := .int .i64 0) (d := 7) rfl (by decide) (by rfl) ?_
  clear hS
  intro jj hS
  refine list_step rfl (R := fun v w' => Below _ _ w' ∧ (VI 2) v w') (does_val (x_assign rfl (rfl)) rfl) ?_
  rintro hH kN ⟨hb, he⟩
  have ed := below_step ec hb
  have g3 := below_step dE hb
  have dd := below_step dc hb
  have gw := below_step (bR hY) hb
  obtain rfl : hH = .int .i64 2 := he
  refine hS.next (v := .int .i64 2) (d := 8) rfl (by decide) (by rfl) ?_
  clear hS
  intro jk hS
  refine wpList_nil ?_
  refine fP _ _ ?_
  refine wp_ret ?_
  (try simp only [Exit.then, Exit.inBlock, Exit.jump, Exit.noGoto])
  exact bodyPost_ret (v := .tuple #[(body_Get.v0 0 0 0 0 0 0 0 0 0 0 0 0 0 0 0 0 0 0 0 0 0 0 0), .int .i64 0, .int .i64 2]) (results_list (rs := [.cell 6 28, .tmp 7, .tmp 8]) rfl (by simp) (Vals.cell g6 28 (body_Get.c1 0 0 0 0 0 0 0 0 0 0 0 0 0 0 0 0 0 0 0 0 0 0 0) (0, 0) _ (hS.get 3 rfl) ((dd.block g6 (blk_lt dh)).trans dh) Try.underlying28 rfl (by kernel_rfl) (Vals.at (hS.get 1 rfl) (Vals.at (hS.get 0 rfl) .nil)))) hS.nodef ⟨rfl, ed⟩
 rw [if_neg c3] at H
 refine wp_cond_false ((hS.get 0 rfl).trans (bF (decide_eq_false c3))) ?_
 refine wp_skip ?_
 refine kS _ _ ?_
 refine wp_seq_k (fun iQ fP => ?_)
 have J2 : ∀ (jf : Act) (hP : World) (dm : List Int) (eO : Option Addr) (eP : Nat) (bD cz dR dS dT dU dV dW dX hR fy eA cB cC cD cE cF cG cH cI cJ cK cL cM : Int) (bj : Nat) (fz fA fB fC fD fE fF fG fH fI eB eC eD eE eF eG eH eI eJ eK eL eM eN : Int) (bU : Nat) (hU gs : Int), body_Get.j2 k dm bD cz dR dS dT dU dV dW dX hR fy eA cB cC cD cE cF cG cH cI cJ cK cL cM fz fA fB fC fD fE fF fG fH fI eB eC eD eE eF eG eH eI eJ eK eL eM eN hU gs = some (r1, r2, r3, r4, r5, r6, r7, r8, r9, iv, iw, ix, iy, iz, iA, iB, iC, iD, iE, iF, iG, iH, iI, iJ, iK) → St 151 [(1, .slice eO dm.length eP), (2, .int .i64 bD), (3, .pointer (some ⟨bj, 0, none⟩)), (6, .pointer (some ⟨bU, 0, none⟩)), (9, .int .i64 hU), (10, .int .i64 gs)] jf → Below w.heap.size w hP → dm.length ≤ eP → Kd.C (Kd.int .u8) w eO dm.length dm → w.heap.size ≤ bj → hP.heap[bj]? = some (.cells (body_Get.c1 cz dR dS dT dU dV dW dX hR fy eA cB cC cD cE cF cG cH cI cJ cK cL cM) 28 (0, 0)) → w.heap.size ≤ bU → hP.heap[bU]? = some (.cells (body_Get.c1 fz fA fB fC fD fE fF fG fH fI eB eC eD eE eF eG eH eI eJ eK eL eM eN) 28 (0, 0)) → bU ≠ bj → iQ jf hP := by
  intro jf hP dm eO eP bD cz dR dS dT dU dV dW dX hR fy eA cB cC cD cE cF cG cH cI cJ cK cL cM bj fz fA fB fC fD fE fF fG fH fI eB eC eD eE eF eG eH eI eJ eK eL eM eN bU hU gs H hS i5 gF f3 d9 gx e6 gy di
  unfold body_Get.j2 at H
  (try dsimp only at H)
  obtain ⟨kr, jc, H⟩ := Option.bind_eq_some_iff.mp H
  obtain ⟨bZ, bA⟩ := kr
  (try dsimp only at H)
  refine fP _ _ ?_
  refine wp_seq_k (fun li jG => ?_)
  refine wp_seq_k (fun lj jH => ?_)
  refine reg_seq_tail 7 (I := I2_ w hP) (ps := [IsV (.slice eO dm.length eP), VI bD, IsV (.tuple #[.int .i64 bZ, .bool bA]), IsV (.tuple #[.int .i64 bZ, .bool bA]), VI bZ, VB bA, VP bj 8]) (by kernel_rfl) ?_ ?_ rfl hS ⟨i5, (bR hP)⟩ ?_ ?_
  ·exact bs2
  ·exact .v (.v (.v (.v (.v (.v (.v (.nil)))))))
  ·refine .ms 0 rfl rfl rfl ?_
   refine .ms 1 rfl rfl rfl ?_
   refine .on rfl (fun a w hS hI hp => does_call (by kernel_rfl) (ar2 (hp.V 0 rfl rfl) (hp.V 1 rfl rfl)) ((stamp_Get.calls k _ _ dm bD bZ bA _ (Kd.C_below f3 hI.1) gF jc).mono fun _ _ h => ⟨_, h.1, h.2.below, rfl⟩)) ?_
   refine .mv 2 rfl rfl rfl ?_
   iterate 2 refine .on rfl (fun a w hS hI hp => does_val (x_extract rfl (hp.V 3 rfl rfl) rfl) rfl) ?_
   refine .on rfl (fun a w hS hI hp => does_val (x_fieldE (b := 0) rfl (hS.get 2 rfl) Try.underlying28 rfl rfl (by kernel_rfl)) rfl) ?_
   exact .nil
  clear hS
  intro k0 lq hS ge hp
  have jQ : sl _ 45 = .int .i64 bZ := hp 4 (by decide)
  have jR : sl _ 46 = .bool bA := hp 5 (by decide)
  have jS : sl _ 47 = .pointer (some ⟨bj, 8, none⟩) := hp 6 (by decide)
  have hS := hS.cons jQ
  have hS := hS.cons jR
  have hS := hS.cons jS
  clear hp jQ jR jS
  show wpList _ _ _ [_, _] _ _
  refine list_step rfl (does_store (g := bj) (off := 8) (v := .int .i64 bZ) (new := (body_Get.c1 cz dR dS dT dU dV dW dX bZ fy eA cB cC cD cE cF cG cH cI cJ cK cL cM)) rfl (hS.get 0 rfl) (hS.get 2 rfl) ((ge.2.block bj (blk_lt gx)).trans gx) (by kernel_rfl) (by kernel_rfl) (by kernel_rfl) (by kernel_rfl)) ?_
  rintro ld fN ⟨rfl, b2, hT⟩
  have ee := hT.blk ((ge.2.block bU (blk_lt gy)).trans gy) di
  have ii := hT.below ge.1 d9 (ge.1).size
  clear hT
  refine list_step rfl (R := fun v w' => Below _ _ w' ∧ (VB bA) v w') (does_val (x_assign rfl (hS.get 1 rfl)) rfl) ?_
  rintro jX iW ⟨hb, he⟩
  have ij := below_step ii hb
  have gA := below_step (bR fN) hb
  obtain rfl : jX = .bool bA := he
  refine hS.next (v := .bool bA) (d := 11) rfl (by decide) (by rfl) ?_
  clear hS
  intro k1 hS
  refine wpList_nil ?_
  refine jH _ _ ?_
  refine wp_seq_k (fun lk jI => ?_)
  refine reg_seq (I := I3_ w fN iW) (ps := [VB bA, VB (!bA)]) (by kernel_rfl) ?_ ?_ rfl hS ⟨ij, gA, (bR iW)⟩ ?_ ?_
  ·exact bs3
  ·exact .v (.v (.nil))
  ·refine .ms 0 rfl rfl rfl ?_
   refine .on rfl (fun a w hS hI hp => does_val (x_not rfl (hp.V 0 rfl rfl)) rfl) ?_
   exact .nil
  clear hS
  intro k2 gI hS gf hp
  replace hS := ((((((hS.nil).cons (hS.get 9 rfl)).cons (hS.get 8 rfl)).cons (hS.get 7 rfl)).cons (hS.get 6 rfl)).cons (hS.get 5 rfl)).cons (hS.get 4 rfl)
  have jT : sl _ 49 = .bool (!bA) := hp 1 (by decide)
  have hS := hS.cons jT
  clear hp jT
  refine jI _ _ ?_
  by_cases c4 : bA = true
  rotate_left
  ·rw [if_neg c4] at H
   simp only [Option.some.injEq, Prod.mk.injEq] at H
   obtain ⟨rfl, rfl, rfl, rfl, rfl, rfl, rfl, rfl, rfl, rfl, rfl, rfl, rfl, rfl, rfl, rfl, rfl, rfl, rfl, rfl, rfl, rfl, rfl, rfl, rfl⟩ := H
   refine wp_cond_true ((hS.get 0 rfl).trans (bT (congrArg (!·) (Bool.eq_false_iff.2 c4)))) ?_
   refine wp_seq_k (fun kg g5 => ?_)
   refine reg_seq_tail 1 (I := I3_ w fN gI) (ps := [IsV ((body_Get.v0 0 0 0 0 0 0 0 0 0 0 0 0 0 0 0 0 0 0 0 0 0 0 0))]) (by kernel_rfl) ?_ ?_ rfl hS ⟨gf.1, gf.2.1, (bR gI)⟩ ?_ ?_
   ·exact bs3
   ·exact .v (.nil)
   ·refine .on rfl (fun a w hS hI hp => does_val (x_build (vs := []) rfl (by rw [Array.toList_map]; exact (show [] = _ from rfl)) (by kernel_rfl)) rfl) ?_
    exact .nil
   clear hS
   intro jh iX hS dP hp
   replace hS := (hS.nil).cons (hS.get 4 rfl)
   have jU : sl _ 50 = (body_Get.v0 0 0 0 0 0 0 0 0 0 0 0 0 0 0 0 0 0 0 0 0 0 0 0) := hp 0 (by decide)
   have hS := hS.cons jU
   clear hp jU
   show wpList _ _ _ [_, _, _] _ _
   refine list_step rfl (does_storeAll (g := bU) (cs := (body_Get.c1 0 0 0 0 0 0 0 0 0 0 0 0 0 0 0 0 0 0 0 0 0 0 0)) rfl (hS.get 1 rfl) (hS.get 0 rfl) ((dP.2.1.block bU (blk_lt ee)).trans ee) (by kernel_rfl) (by kernel_rfl) (by kernel_rfl)) ?_
   rintro iL gJ ⟨rfl, hk, hT⟩
   have lb := hT.blk ((dP.2.1.block bj (blk_lt b2)).trans b2) (Ne.symm di)
   have eV := hT.below dP.1 e6 (dP.1).size
   clear hT
   refine list_step rfl (R := fun v w' => Below _ _ w' ∧ (VI 0) v w') (does_val (x_assign rfl (rfl)) rfl) ?_
   rintro jY ku ⟨hb, he⟩
   have ik := below_step eV hb
   have gC := below_step (bR gJ) hb
   obtain rfl : jY = .int .i64 0 := he
   refine hS.next (v := .int .i64 0) (d := 7) rfl (by decide) (by rfl) ?_
   clear hS
   intro k4 hS
   refine list_step rfl (R := fun v w' => Below _ _ w' ∧ (VI 10) v w') (does_val (x_assign rfl (rfl)) rfl) ?_
   rintro jZ lr ⟨hb, he⟩
   have il := below_step ik hb
   have gD := below_step gC hb
   have i8 := below_step (bR ku) hb
   obtain rfl : jZ = .int .i64 10 := he
   refine hS.next (v := .int .i64 10) (d := 8) rfl (by decide) (by rfl) ?_
   clear hS
   intro k5 hS
   refine wpList_nil ?_
   refine g5 _ _ ?_
   refine wp_ret ?_
   (try simp only [Exit.then, Exit.inBlock, Exit.jump, Exit.noGoto])
   exact bodyPost_ret (v := .tuple #[(body_Get.v0 0 0 0 0 0 0 0 0 0 0 0 0 0 0 0 0 0 0 0 0 0 0 0), .int .i64 0, .int .i64 10]) (results_list (rs := [.cell 6 28, .tmp 7, .tmp 8]) rfl (by simp) (Vals.cell bU 28 (body_Get.c1 0 0 0 0 0 0 0 0 0 0 0 0 0 0 0 0 0 0 0 0 0 0 0) (0, 0) _ (hS.get 3 rfl) ((gD.block bU (blk_lt hk)).trans hk) Try.underlying28 rfl (by kernel_rfl) (Vals.at (hS.get 1 rfl) (Vals.at (hS.get 0 rfl) .nil)))) hS.nodef ⟨rfl, il⟩
  rw [if_pos c4] at H
  refine wp_cond_false ((hS.get 0 rfl).trans (bF (congrArg (!·) c4))) ?_
  refine wp_skip ?_
  refine jG _ _ ?_
  refine wp_seq_k (fun kg g5 => ?_)
  refine reg_seq_tail 2 (I := I3_ w fN gI) (ps := [VI bD, VI (wrap64 (bD + 10))]) (by kernel_rfl) ?_ ?_ rfl hS ⟨gf.1, gf.2.1, (bR gI)⟩ ?_ ?_
  ·exact bs3
  ·exact .v (.v (.nil))
  ·refine .ms 2 rfl rfl rfl ?_
   refine .on rfl (fun a w hS hI hp => does_val (x_bin rfl (hp.V 0 rfl rfl) (rfl) (b_add _ _ _ _ _)) rfl) ?_
   exact .nil
  clear hS
  intro jh iX hS dP hp
  replace hS := ((((((hS.nil).cons (hS.get 6 rfl)).cons (hS.get 5 rfl)).cons (hS.get 4 rfl)).cons (hS.get 3 rfl)).cons (hS.get 2 rfl)).cons (hS.get 1 rfl)
  have jV : sl _ 52 = .int .i64 (wrap64 (bD + 10)) := hp 1 (by decide)
  have hS := hS.cons jV
  clear hp jV
  show wpList _ _ _ [_] _ _
  refine list_step rfl (R := fun v w' => Below _ _ w' ∧ (VI (wrap64 (bD + 10))) v w') (does_val (x_assign rfl (hS.get 0 rfl)) rfl) ?_
  rintro iL gJ ⟨hb, he⟩
  have eV := below_step dP.1 hb
  have gB := below_step dP.2.1 hb
  have i7 := below_step (bR iX) hb
  obtain rfl : iL = .int .i64 (wrap64 (bD + 10)) := he
  replace hS := ((((((hS.nil).cons (hS.get 6 rfl)).cons (hS.get 5 rfl)).cons (hS.get 4 rfl)).cons (hS.get 3 rfl)).cons (hS.get 1 rfl)).cons (hS.get 0 rfl)
  refine hS.next (v := .int .i64 (wrap64 (bD + 10))) (d := 2) rfl (by decide) (by rfl) ?_
  clear hS
  intro k3 hS
  refine wpList_nil ?_
  refine g5 _ _ ?_
  refine wp_seq_k (fun ll jJ => ?_)
  refine wp_label ?_
  refine jJ _ _ ?_
  refine wp_seq_k (fun kh jK => ?_)
  have J3 : ∀ (g0 : Act) (b7 : World) (ac : List Int) (aM : Option Addr) (aN : Nat) (ab ad al am an ao ap aq ar au av ag aS aP aJ aK aL aG aC ax aj aD ay ak : Int) (aa : Nat) (bH bI bJ bK bL bM bN bO bP bQ bl bm bn bo bp bq br bs bt bu bv bw bx : Int) (ah : Nat) (cN cf : Int), body_Get.j3 k ac ab ad al am an ao ap aq ar au av ag aS aP aJ aK aL aG aC ax aj aD ay ak bH bI bJ bK bL bM bN bO bP bQ bl bm bn bo bp bq br bs bt bu bv bw bx cN cf = some (r1, r2, r3, r4, r5, r6, r7, r8, r9, iv, iw, ix, iy, iz, iA, iB, iC, iD, iE, iF, iG, iH, iI, iJ, iK) → St 151 [(1, .slice aM ac.length aN), (2, .int .i64 ab), (3, .pointer (some ⟨aa, 0, none⟩)), (6, .pointer (some ⟨ah, 0, none⟩)), (9, .int .i64 cN), (10, .int .i64 cf)] g0 → Below w.heap.size w b7 → ac.length ≤ aN → Kd.C (Kd.int .u8) w aM ac.length ac → w.heap.size ≤ aa → b7.heap[aa]? = some (.cells (body_Get.c1 ad al am an ao ap aq ar au av ag aS aP aJ aK aL aG aC ax aj aD ay ak) 28 (0, 0)) → w.heap.size ≤ ah → b7.heap[ah]? = some (.cells (body_Get.c1 bH bI bJ bK bL bM bN bO bP bQ bl bm bn bo bp bq br bs bt bu bv bw bx) 28 (0, 0)) → ah ≠ aa → kh g0 b7 := by
   intro g0 b7 ac aM aN ab ad al am an ao ap aq ar au av ag aS aP aJ aK aL aG aC ax aj aD ay ak aa bH bI bJ bK bL bM bN bO bP bQ bl bm bn bo bp bq br bs bt bu bv bw bx ah cN cf H hS gt bW aE ae aH b3 aQ af
   unfold body_Get.j3 at H
   (try dsimp only at H)
   refine jK _ _ ?_
   refine wp_seq_k (fun hZ g7 => ?_)
   have J4 : ∀ (g1 : Act) (dQ : World) (a9 ba bb bc bd be bf bg bh bi aT aU aV aW aX aY aZ a0 a1 a3 a4 a5 a6 : Int) (bV : Nat) (dY dZ d0 d1 d2 d3 d4 d5 d6 d7 cO cP cQ cR cS cT cU cV cW cX cY cZ c0 : Int) (bk : Nat) (bE a8 : Int), body_Get.j4 k a9 ba bb bc bd be bf bg bh bi aT aU aV aW aX aY aZ a0 a1 a3 a4 a5 a6 dY dZ d0 d1 d2 d3 d4 d5 d6 d7 cO cP cQ cR cS cT cU cV cW cX cY cZ c0 bE a8 = some (r1, r2, r3, r4, r5, r6, r7, r8, r9, iv, iw, ix, iy, iz, iA, iB, iC, iD, iE, iF, iG, iH, iI, iJ, iK) → St 151 [(3, .pointer (some ⟨bV, 0, none⟩)), (6, .pointer (some ⟨bk, 0, none⟩)), (9, .int .i64 bE), (10, .int .i64 a8)] g1 → Below w.heap.size w dQ → w.heap.size ≤ bV → dQ.heap[bV]? = some (.cells (body_Get.c1 a9 ba bb bc bd be bf bg bh bi aT aU aV aW aX aY aZ a0 a1 a3 a4 a5 a6) 28 (0, 0)) → w.heap.size ≤ bk → dQ.heap[bk]? = some (.cells (body_Get.c1 dY dZ d0 d1 d2 d3 d4 d5 d6 d7 cO cP cQ cR cS cT cU cV cW cX cY cZ c0) 28 (0, 0)) → bk ≠ bV → hZ g1 dQ := by
    intro g1 dQ a9 ba bb bc bd be bf bg bh bi aT aU aV aW aX aY aZ a0 a1 a3 a4 a5 a6 bV dY dZ d0 d1 d2 d3 d4 d5 d6 d7 cO cP cQ cR cS cT cU cV cW cX cY cZ c0 bk bE a8 H hS gu ip bC e7 dg fh
    unfold body_Get.j4 at H
    (try dsimp only at H)
    simp only [Option.some.injEq, Prod.mk.injEq] at H
    obtain ⟨rfl, rfl, rfl, rfl, rfl, rfl, rfl, rfl, rfl, rfl, rfl, rfl, rfl, rfl, rfl, rfl, rfl, rfl, rfl, rfl, rfl, rfl, rfl, rfl, rfl⟩ := H
    refine g7 _ _ ?_
    refine wp_seq_k (fun kp hi => ?_)
    refine reg_seq_tail 4 (I := I2_ w dQ) (ps := [IsV ((body_Get.v0 a9 ba bb bc bd be bf bg bh bi aT aU aV aW aX aY aZ a0 a1 a3 a4 a5 a6)), VI bE, VI a8, VI (wrap64 (bE + a8))]) (by kernel_rfl) ?_ ?_ rfl hS ⟨gu, (bR dQ)⟩ ?_ ?_
    ·exact bs2
    ·exact .v (.v (.v (.v (.nil))))
    ·refine .on rfl (fun a w hS hI hp => does_loadrow rfl (hS.get 0 rfl) (((hI.2).block bV (blk_lt bC)).trans bC) Try.underlying28 rfl (by kernel_rfl) rfl) ?_
     refine .ms 2 rfl rfl rfl ?_
     refine .ms 3 rfl rfl rfl ?_
     refine .on rfl (fun a w hS hI hp => does_val (x_bin rfl (hp.V 1 rfl rfl) (hp.V 2 rfl rfl) (b_add _ _ _ _ _)) rfl) ?_
     exact .nil
    clear hS
    intro jy kG hS cx hp
    replace hS := (hS.nil).cons (hS.get 1 rfl)
    have gb : sl _ 147 = (body_Get.v0 a9 ba bb bc bd be bf bg bh bi aT aU aV aW aX aY aZ a0 a1 a3 a4 a5 a6) := hp 0 (by decide)
    have gc : sl _ 150 = .int .i64 (wrap64 (bE + a8)) := hp 3 (by decide)
    have hS := hS.cons gb
    have hS := hS.cons gc
    clear hp gb gc
    show wpList _ _ _ [_, _, _] _ _
    refine list_step rfl (does_storeAll (g := bk) (cs := (body_Get.c1 a9 ba bb bc bd be bf bg bh bi aT aU aV aW aX aY aZ a0 a1 a3 a4 a5 a6)) rfl (hS.get 2 rfl) (hS.get 1 rfl) ((cx.2.block bk (blk_lt dg)).trans dg) (by kernel_rfl) (by kernel_rfl) (by kernel_rfl)) ?_
    rintro ke ic ⟨rfl, dO, hT⟩
    have jO := hT.blk ((cx.2.block bV (blk_lt bC)).trans bC) (Ne.symm fh)
    have e2 := hT.below cx.1 e7 (cx.1).size
    clear hT
    refine list_step rfl (R := fun v w' => Below _ _ w' ∧ (VI (wrap64 (bE + a8))) v w') (does_val (x_assign rfl (hS.get 0 rfl)) rfl) ?_
    rintro hM ie ⟨hb, he⟩
    have e3 := below_step e2 hb
    have dk := below_step (bR ic) hb
    obtain rfl : hM = .int .i64 (wrap64 (bE + a8)) := he
    refine hS.next (v := .int .i64 (wrap64 (bE + a8))) (d := 7) rfl (by decide) (by rfl) ?_
    clear hS
    intro jz hS
    refine list_step rfl (R := fun v w' => Below _ _ w' ∧ (VI 0) v w') (does_val (x_assign rfl (rfl)) rfl) ?_
    rintro hN kH ⟨hb, he⟩
    have e4 := below_step e3 hb
    have dl := below_step dk hb
    have gE := below_step (bR ie) hb
    obtain rfl : hN = .int .i64 0 := he
    refine hS.next (v := .int .i64 0) (d := 8) rfl (by decide) (by rfl) ?_
    clear hS
    intro jA hS
    refine wpList_nil ?_
    refine hi _ _ ?_
    refine wp_ret ?_
    (try simp only [Exit.then, Exit.inBlock, Exit.jump, Exit.noGoto])
    exact bodyPost_ret (v := .tuple #[(body_Get.v0 a9 ba bb bc bd be bf bg bh bi aT aU aV aW aX aY aZ a0 a1 a3 a4 a5 a6), .int .i64 (wrap64 (bE + a8)), .int .i64 0]) (results_list (rs := [.cell 6 28, .tmp 7, .tmp 8]) rfl (by simp) (Vals.cell bk 28 (body_Get.c1 a9 ba bb bc bd be bf bg bh bi aT aU aV aW aX aY aZ a0 a1 a3 a4 a5 a6) (0, 0) _ (hS.get 4 rfl) ((dl.block bk (blk_lt dO)).trans dO) Try.underlying28 rfl (by kernel_rfl) (Vals.at (hS.get 1 rfl) (Vals.at (hS.get 0 rfl) .nil)))) hS.nodef ⟨rfl, e4⟩
   refine wp_seq_k (fun ki g8 => ?_)
   refine reg_seq (I := I2_ w b7) (ps := [VP aa 0, VI ad]) (by kernel_rfl) ?_ ?_ rfl hS ⟨gt, (bR b7)⟩ ?_ ?_
   ·exact bs2
   ·exact .v (.v (.nil))
   ·refine .on rfl (fun a w hS hI hp => does_val (x_fieldE (b := 0) rfl (hS.get 2 rfl) Try.underlying28 rfl rfl (by kernel_rfl)) rfl) ?_
    refine .on rfl (fun a w hS hI hp => does_val (x_load1 (d := .int .i64) rfl (hp.V 0 rfl rfl) (by kernel_rfl) rfl ((blk_cell (((hI.2).block aa (blk_lt aH)).trans aH) 0).trans rfl)) rfl) ?_
    exact .nil
   clear hS
   intro jl gh hS fm hp
   have ht : sl _ 66 = .int .i64 ad := hp 1 (by decide)
   have hS := hS.cons ht
   clear hp ht
   refine g8 _ _ ?_
   refine wp_block ?_
   refine wp_seq_k (fun kj g9 => ?_)
   refine reg_seq (I := I3_ w b7 gh) (ps := [VB (decide (ad = 11)), VB (decide (ad = 11))]) (by kernel_rfl) ?_ ?_ rfl hS ⟨fm.1, fm.2, (bR gh)⟩ ?_ ?_
   ·exact bs3
   ·exact .v (.v (.nil))
   ·refine .on rfl (fun a w hS hI hp => does_val (x_bin rfl (hS.get 0 rfl) (rfl) (b_eql _ _ _ _ _ _)) rfl) ?_
    refine .asg 0 rfl rfl rfl ?_
    exact .nil
   clear hS
   intro jm dn hS cn hp
   have hu : sl _ 67 = .bool (decide (ad = 11)) := hp 1 (by decide)
   have hS := hS.cons hu
   clear hp hu
   refine g9 _ _ ?_
   by_cases c5 : ad = 11
   rotate_left
   ·rw [if_neg c5] at H
    refine wp_cond_false ((hS.get 0 rfl).trans (bF (decide_eq_false c5))) ?_
    refine wp_seq_k (fun h0 dF => ?_)
    refine reg_seq (I := I3_ w b7 dn) (ps := [VB (decide (ad = 13)), VB (decide (ad = 13))]) (by kernel_rfl) ?_ ?_ rfl hS ⟨cn.1, cn.2.1, (bR dn)⟩ ?_ ?_
    ·exact bs3
    ·exact .v (.v (.nil))
    ·refine .on rfl (fun a w hS hI hp => does_val (x_bin rfl (hS.get 1 rfl) (rfl) (b_eql _ _ _ _ _ _)) rfl) ?_
     refine .asg 0 rfl rfl rfl ?_
     exact .nil
    clear hS
    intro jn gi hS bG hp
    replace hS := ((((((hS.nil).cons (hS.get 7 rfl)).cons (hS.get 6 rfl)).cons (hS.get 5 rfl)).cons (hS.get 4 rfl)).cons (hS.get 3 rfl)).cons (hS.get 2 rfl)
    have ga : sl _ 124 = .bool (decide (ad = 13)) := hp 1 (by decide)
    have hS := hS.cons ga
    clear hp ga
    refine dF _ _ ?_
    by_cases c6 : ad = 13
    rotate_left
    ·rw [if_neg c6] at H
     refine wp_cond_false ((hS.get 0 rfl).trans (bF (decide_eq_false c6))) ?_
     refine wp_skip ?_
     replace hS := ((((hS.nil).cons (hS.get 6 rfl)).cons (hS.get 5 rfl)).cons (hS.get 4 rfl)).cons (hS.get 3 rfl)
     (try simp only [Exit.then, Exit.inBlock])
     exact J4 _ _ ad al am an ao ap aq ar au av ag aS aP aJ aK aL aG aC ax aj aD ay ak aa bH bI bJ bK bL bM bN bO bP bQ bl bm bn bo bp bq br bs bt bu bv bw bx ah cN cf H hS bG.1 ae ((bG.2.1.block aa (blk_lt aH)).trans aH) b3 ((bG.2.1.block ah (blk_lt aQ)).trans aQ) af
    rw [if_pos c6] at H
    by_cases c7 : 0 ≤ ab
    rotate_left
    ·rw [if_neg c7] at H
     exact absurd H (by simp)
    rw [if_pos c7] at H
    by_cases c8 : ab < (ac.length : Int)
    rotate_left
    ·rw [if_neg c8] at H
     exact absurd H (by simp)
    rw [if_pos c8] at H
    by_cases c9 : 0 ≤ (wrap64 (ab + 1))
    rotate_left
    ·rw [if_neg c9] at H
     exact absurd H (by simp)
    rw [if_pos c9] at H
    by_cases iR : (wrap64 (ab + 1)) < (ac.length : Int)
    rotate_left
    ·rw [if_neg iR] at H
     exact absurd H (by simp)
    rw [if_pos iR] at H
    by_cases iS : 0 ≤ (wrap64 (ab + 2))
    rotate_left
    ·rw [if_neg iS] at H
     exact absurd H (by simp)
    rw [if_pos iS] at H
    by_cases iT : (wrap64 (ab + 2)) < (ac.length : Int)
    rotate_left
    ·rw [if_neg iT] at H
     exact absurd H (by simp)
    rw [if_pos iT] at H
    refine wp_cond_true ((hS.get 0 rfl).trans (bT (decide_eq_true c6))) ?_
    obtain ⟨dC, a7⟩ := row_some (0 : Int) (Kd.C_below aE bG.1) c7 c8
    refine reg_float (I := I3_ w b7 gi) (C := fun x => Kd.C (Kd.int .u8) x aM ac.length ac) [true, true, true, true, true, true, true, true, true, true, true, true, true, true, true, true, true, true, true, false, false, false, false, false] [.slice aM ac.length aN, .int .i64 ab, .pointer (some (dC.add ((ab : Int).toNat * 1))), .int .u8 (rd ac ab), .int .i64 (wrap64 (rd ac ab)), .slice aM ac.length aN, .int .i64 ab, .int .i64 (wrap64 (ab + 1)), .pointer (some (dC.add ((wrap64 (ab + 1) : Int).toNat * 1))), .int .u8 (rd ac (wrap64 (ab + 1))), .int .i64 (wrap64 (rd ac (wrap64 (ab + 1)))), .slice aM ac.length aN, .int .i64 ab, .int .i64 (wrap64 (ab + 2)), .pointer (some (dC.add ((wrap64 (ab + 2) : Int).toNat * 1))), .int .u8 (rd ac (wrap64 (ab + 2))), .int .u8 (Go.bits .and .u8 (rd ac (wrap64 (ab + 2))) 15), .int .i64 (wrap64 (Go.bits .and .u8 (rd ac (wrap64 (ab + 2))) 15)), .pointer (some ⟨aa, 20, none⟩), undef, undef, undef, undef, undef] [0, 0, 3, 7, 15, 0, 0, 64, 224, 480, 992, 0, 0, 4096, 14336, 30720, 63488, 129024, 31, 262175, 788479, 1837055, 4194303, 8388607] (by kernel_rfl) (by kernel_rfl) rfl ?_ ?_ hS ⟨bG.1, bG.2.1, (bR gi)⟩ ?_ ?_
    ·exact bs3
    ·exact fun x hI => (Kd.C_below aE hI.1)
    ·intro a hS hp
     refine .g (fun w hC => GRun.on rfl (x_move rfl (hS.get 1 rfl))) ?_
     refine .g (fun w hC => GRun.on rfl (x_move rfl (hS.get 2 rfl))) ?_
     refine .g (fun w hC => GRun.on rfl (x_index (sz := 1) (e := 5) rfl ((hp.get 0 rfl rfl rfl).trans (by rw [a7])) ((hp.get 1 rfl rfl rfl)) (by kernel_rfl) (by kernel_rfl) c7 c8)) ?_
     refine .g (fun w hC => GRun.on rfl (x_load1 (d := .int .u8) rfl ((hp.get 2 rfl rfl rfl)) (by kernel_rfl) rfl (row_cell1 (flat_int .u8) (0 : Int) (a7 ▸ hC) ab c7 c8 _ rfl))) ?_
     refine .g (fun w hC => GRun.on rfl ((i64_w (rd ac ab)) ▸ x_convI rfl (by kernel_rfl) (by kernel_rfl) ((hp.get 3 rfl rfl rfl)))) ?_
     refine .g (fun w hC => GRun.on rfl (x_move rfl (hS.get 1 rfl))) ?_
     refine .g (fun w hC => GRun.on rfl (x_move rfl (hS.get 2 rfl))) ?_
     refine .g (fun w hC => GRun.on rfl (x_bin rfl ((hp.get 6 rfl rfl rfl)) (rfl) (b_add _ _ _ _ _))) ?_
     refine .g (fun w hC => GRun.on rfl (x_index (sz := 1) (e := 5) rfl ((hp.get 5 rfl rfl rfl).trans (by rw [a7])) ((hp.get 7 rfl rfl rfl)) (by kernel_rfl) (by kernel_rfl) c9 iR)) ?_
     refine .g (fun w hC => GRun.on rfl (x_load1 (d := .int .u8) rfl ((hp.get 8 rfl rfl rfl)) (by kernel_rfl) rfl (row_cell1 (flat_int .u8) (0 : Int) (a7 ▸ hC) (wrap64 (ab + 1)) c9 iR _ rfl))) ?_
     refine .g (fun w hC => GRun.on rfl ((i64_w (rd ac (wrap64 (ab + 1)))) ▸ x_convI rfl (by kernel_rfl) (by kernel_rfl) ((hp.get 9 rfl rfl rfl)))) ?_
     refine .g (fun w hC => GRun.on rfl (x_move rfl (hS.get 1 rfl))) ?_
     refine .g (fun w hC => GRun.on rfl (x_move rfl (hS.get 2 rfl))) ?_
     refine .g (fun w hC => GRun.on rfl (x_bin rfl ((hp.get 12 rfl rfl rfl)) (rfl) (b_add _ _ _ _ _))) ?_
     refine .g (fun w hC => GRun.on rfl (x_index (sz := 1) (e := 5) rfl ((hp.get 11 rfl rfl rfl).trans (by rw [a7])) ((hp.get 13 rfl rfl rfl)) (by kernel_rfl) (by kernel_rfl) iS iT)) ?_
     refine .g (fun w hC => GRun.on rfl (x_load1 (d := .int .u8) rfl ((hp.get 14 rfl rfl rfl)) (by kernel_rfl) rfl (row_cell1 (flat_int .u8) (0 : Int) (a7 ▸ hC) (wrap64 (ab + 2)) iS iT _ rfl))) ?_
     refine .g (fun w hC => GRun.on rfl (x_bin rfl ((hp.get 15 rfl rfl rfl)) (rfl) (b_and _ _ _ _ _ _))) ?_
     refine .g (fun w hC => GRun.on rfl ((i64_w (Go.bits .and .u8 (rd ac (wrap64 (ab + 2))) 15)) ▸ x_convI rfl (by kernel_rfl) (by kernel_rfl) ((hp.get 16 rfl rfl rfl)))) ?_
     refine .g (fun w hC => GRun.on rfl (x_fieldE (b := 0) rfl (hS.get 3 rfl) Try.underlying28 rfl rfl (by kernel_rfl))) ?_
     iterate 5 refine .t ?_
     exact .nil
    clear hS
    intro jp kx hS hp cp
    have hS := hS.cons (show sl _ 130 = .int .i64 (wrap64 (rd ac ab)) from hp.get 4 rfl rfl rfl)
    have hS := hS.cons (show sl _ 136 = .int .i64 (wrap64 (rd ac (wrap64 (ab + 1)))) from hp.get 10 rfl rfl rfl)
    have hS := hS.cons (show sl _ 143 = .int .i64 (wrap64 (Go.bits .and .u8 (rd ac (wrap64 (ab + 2))) 15)) from hp.get 17 rfl rfl rfl)
    have hS := hS.cons (show sl _ 144 = .pointer (some ⟨aa, 20, none⟩) from hp.get 18 rfl rfl rfl)
    clear hp
    show ListC _ _ _ _ [_, _, _, _, _] _ _
    refine lc_step rfl (does_store (g := aa) (off := 20) (v := .int .i64 (wrap64 (rd ac ab))) (new := (body_Get.c1 ad al am an ao ap aq ar au av ag aS aP aJ aK aL aG aC ax aj (wrap64 (rd ac ab)) ay ak)) rfl (hS.get 0 rfl) (hS.get 3 rfl) ((cp.2.1.block aa (blk_lt aH)).trans aH) (by kernel_rfl) (by kernel_rfl) (by kernel_rfl) (by kernel_rfl)) ?_
    rintro j7 ib ⟨rfl, dH, hT⟩
    have e9 := hT.blk ((cp.2.1.block ah (blk_lt aQ)).trans aQ) af
    have de := hT.below cp.1 ae (cp.1).size
    clear hT
    refine ⟨(Kd.C_below aE de), ?_⟩
    refine lc_step rfl (R := fun v w' => Below _ _ w' ∧ (VP aa 21) v w') (does_val (x_fieldE (b := 0) rfl (hS.get 7 rfl) Try.underlying28 rfl rfl (by kernel_rfl)) rfl) ?_
    rintro hJ ky ⟨hb, he⟩
    have b0 := below_step de hb
    have bX := below_step (bR ib) hb
    obtain rfl : hJ = .pointer (some ⟨aa, 21, none⟩) := he
    refine ⟨(Kd.C_below aE b0), ?_⟩
    refine hS.nextC (v := .pointer (some ⟨aa, 21, none⟩)) (d := 145) rfl (by decide) (by rfl) ?_
    clear hS
    intro jr hS
    refine lc_step rfl (does_store (g := aa) (off := 21) (v := .int .i64 (wrap64 (rd ac (wrap64 (ab + 1))))) (new := (body_Get.c1 ad al am an ao ap aq ar au av ag aS aP aJ aK aL aG aC ax aj (wrap64 (rd ac ab)) (wrap64 (rd ac (wrap64 (ab + 1)))) ak)) rfl (hS.get 0 rfl) (hS.get 3 rfl) ((bX.block aa (blk_lt dH)).trans dH) (by kernel_rfl) (by kernel_rfl) (by kernel_rfl) (by kernel_rfl)) ?_
    rintro hK dp ⟨rfl, bz, hT⟩
    have b4 := hT.blk ((bX.block ah (blk_lt e9)).trans e9) af
    have bB := hT.below b0 ae (b0).size
    clear hT
    refine ⟨(Kd.C_below aE bB), ?_⟩
    refine lc_step rfl (R := fun v w' => Below _ _ w' ∧ (VP aa 22) v w') (does_val (x_fieldE (b := 0) rfl (hS.get 8 rfl) Try.underlying28 rfl rfl (by kernel_rfl)) rfl) ?_
    rintro hL kA ⟨hb, he⟩
    have b1 := below_step bB hb
    have bY := below_step (bR dp) hb
    obtain rfl : hL = .pointer (some ⟨aa, 22, none⟩) := he
    refine ⟨(Kd.C_below aE b1), ?_⟩
    refine hS.nextC (v := .pointer (some ⟨aa, 22, none⟩)) (d := 146) rfl (by decide) (by rfl) ?_
    clear hS
    intro js hS
    refine lc_step rfl (does_store (g := aa) (off := 22) (v := .int .i64 (wrap64 (Go.bits .and .u8 (rd ac (wrap64 (ab + 2))) 15))) (new := (body_Get.c1 ad al am an ao ap aq ar au av ag aS aP aJ aK aL aG aC ax aj (wrap64 (rd ac ab)) (wrap64 (rd ac (wrap64 (ab + 1)))) (wrap64 (Go.bits .and .u8 (rd ac (wrap64 (ab + 2))) 15)))) rfl (hS.get 0 rfl) (hS.get 3 rfl) ((bY.block aa (blk_lt bz)).trans bz) (by kernel_rfl) (by kernel_rfl) (by kernel_rfl) (by kernel_rfl)) ?_
    rintro j8 gk ⟨rfl, dI, hT⟩
    have fa := hT.blk ((bY.block ah (blk_lt b4)).trans b4) af
    have df := hT.below b1 ae (b1).size
    clear hT
    refine ⟨(Kd.C_below aE df), ?_⟩
    refine lc_nil ?_
    replace hS := ((((hS.nil).cons (hS.get 12 rfl)).cons (hS.get 11 rfl)).cons (hS.get 10 rfl)).cons (hS.get 9 rfl)
    (try simp only [Exit.then, Exit.inBlock])
    exact J4 _ _ ad al am an ao ap aq ar au av ag aS aP aJ aK aL aG aC ax aj (wrap64 (rd ac ab)) (wrap64 (rd ac (wrap64 (ab + 1)))) (wrap64 (Go.bits .and .u8 (rd ac (wrap64 (ab + 2))) 15)) aa bH bI bJ bK bL bM bN bO bP bQ bl bm bn bo bp bq br bs bt bu bv bw bx ah cN cf H hS df ae (((bR gk).block aa (blk_lt dI)).trans dI) b3 (((bR gk).block ah (blk_lt fa)).trans fa) af
   rw [if_pos c5] at H
   obtain ⟨h4, gK, H⟩ := Option.bind_eq_some_iff.mp H
   obtain ⟨ai, b8⟩ := h4
   (try dsimp only at H)
   obtain ⟨h5, gL, H⟩ := Option.bind_eq_some_iff.mp H
   obtain ⟨aw, b9⟩ := h5
   (try dsimp only at H)
   obtain ⟨h6, gM, H⟩ := Option.bind_eq_some_iff.mp H
   obtain ⟨az, aA, aB, ca⟩ := h6
   (try dsimp only at H)
   obtain ⟨h7, gN, H⟩ := Option.bind_eq_some_iff.mp H
   obtain ⟨aF, cb⟩ := h7
   (try dsimp only at H)
   obtain ⟨h8, gO, H⟩ := Option.bind_eq_some_iff.mp H
   obtain ⟨aI, cc⟩ := h8
   (try dsimp only at H)
   obtain ⟨h9, gP, H⟩ := Option.bind_eq_some_iff.mp H
   obtain ⟨aO, cd⟩ := h9
   (try dsimp only at H)
   obtain ⟨ia, gQ, H⟩ := Option.bind_eq_some_iff.mp H
   obtain ⟨aR, ce⟩ := ia
   (try dsimp only at H)
   refine wp_cond_true ((hS.get 0 rfl).trans (bT (decide_eq_true c5))) ?_
   refine wp_seq_k (fun h0 dF => ?_)
   refine reg_seq_tail 7 (I := I3_ w b7 dn) (ps := [IsV (.slice aM ac.length aN), VI ab, IsV (.tuple #[.int .i64 ai, .bool b8]), IsV (.tuple #[.int .i64 ai, .bool b8]), VI ai, VB b8, VP aa 11]) (by kernel_rfl) ?_ ?_ rfl hS ⟨cn.1, cn.2.1, (bR dn)⟩ ?_ ?_
   ·exact bs3
   ·exact .v (.v (.v (.v (.v (.v (.v (.nil)))))))
   ·refine .ms 2 rfl rfl rfl ?_
    refine .ms 3 rfl rfl rfl ?_
    refine .on rfl (fun a w hS hI hp => does_call (by kernel_rfl) (ar3 (hp.V 0 rfl rfl) (hp.V 1 rfl rfl) (rfl)) ((octets_Signed.calls k _ _ ac ab 2 ai b8 _ (Kd.C_below aE hI.1) bW gK).mono fun _ _ h => ⟨_, h.1, h.2.below, rfl⟩)) ?_
    refine .mv 2 rfl rfl rfl ?_
    iterate 2 refine .on rfl (fun a w hS hI hp => does_val (x_extract rfl (hp.V 3 rfl rfl) rfl) rfl) ?_
    refine .on rfl (fun a w hS hI hp => does_val (x_fieldE (b := 0) rfl (hS.get 4 rfl) Try.underlying28 rfl rfl (by kernel_rfl)) rfl) ?_
    exact .nil
   clear hS
   intro jo kw hS co hp
   replace hS := ((((((hS.nil).cons (hS.get 7 rfl)).cons (hS.get 6 rfl)).cons (hS.get 5 rfl)).cons (hS.get 4 rfl)).cons (hS.get 3 rfl)).cons (hS.get 2 rfl)
   have hw : sl _ 73 = .int .i64 ai := hp 4 (by decide)
   have hx : sl _ 75 = .pointer (some ⟨aa, 11, none⟩) := hp 6 (by decide)
   have hS := hS.cons hw
   have hS := hS.cons hx
   clear hp hw hx
   show wpList _ _ _ [_] _ _
   refine list_step rfl (does_store (g := aa) (off := 11) (v := .int .i64 ai) (new := (body_Get.c1 ad al am an ao ap aq ar au av ag ai aP aJ aK aL aG aC ax aj aD ay ak)) rfl (hS.get 0 rfl) (hS.get 1 rfl) ((co.2.1.block aa (blk_lt aH)).trans aH) (by kernel_rfl) (by kernel_rfl) (by kernel_rfl) (by kernel_rfl)) ?_
   rintro j6 gj ⟨rfl, dG, hT⟩
   have e8 := hT.blk ((co.2.1.block ah (blk_lt aQ)).trans aQ) af
   have eW := hT.below co.1 ae (co.1).size
   clear hT
   refine wpList_nil ?_
   refine dF _ _ ?_
   refine wp_seq_k (fun kk ha => ?_)
   refine reg_seq_tail 8 (I := I2_ w gj) (ps := [IsV (.slice aM ac.length aN), VI ab, VI (wrap64 (ab + 3)), IsV (.tuple #[.int .i64 aw, .bool b9]), IsV (.tuple #[.int .i64 aw, .bool b9]), VI aw, VB b9, VP aa 12]) (by kernel_rfl) ?_ ?_ rfl hS ⟨eW, (bR gj)⟩ ?_ ?_
   ·exact bs2
   ·exact .v (.v (.v (.v (.v (.v (.v (.v (.nil))))))))
   ·refine .ms 2 rfl rfl rfl ?_
    refine .ms 3 rfl rfl rfl ?_
    refine .on rfl (fun a w hS hI hp => does_val (x_bin rfl (hp.V 1 rfl rfl) (rfl) (b_add _ _ _ _ _)) rfl) ?_
    refine .on rfl (fun a w hS hI hp => does_call (by kernel_rfl) (ar3 (hp.V 0 rfl rfl) (hp.V 2 rfl rfl) (rfl)) ((octets_Get.calls k _ _ ac (wrap64 (ab + 3)) 1 aw b9 _ (Kd.C_below aE hI.1) bW gL).mono fun _ _ h => ⟨_, h.1, h.2.below, rfl⟩)) ?_
    refine .mv 3 rfl rfl rfl ?_
    iterate 2 refine .on rfl (fun a w hS hI hp => does_val (x_extract rfl (hp.V 4 rfl rfl) rfl) rfl) ?_
    refine .on rfl (fun a w hS hI hp => does_val (x_fieldE (b := 0) rfl (hS.get 4 rfl) Try.underlying28 rfl rfl (by kernel_rfl)) rfl) ?_
    exact .nil
   clear hS
   intro jq kz hS cq hp
   replace hS := ((((((hS.nil).cons (hS.get 7 rfl)).cons (hS.get 6 rfl)).cons (hS.get 5 rfl)).cons (hS.get 4 rfl)).cons (hS.get 3 rfl)).cons (hS.get 2 rfl)
   have hy : sl _ 81 = .int .i64 aw := hp 5 (by decide)
   have hz : sl _ 83 = .pointer (some ⟨aa, 12, none⟩) := hp 7 (by decide)
   have hS := hS.cons hy
   have hS := hS.cons hz
   clear hp hy hz
   show wpList _ _ _ [_] _ _
   refine list_step rfl (does_store (g := aa) (off := 12) (v := .int .i64 aw) (new := (body_Get.c1 ad al am an ao ap aq ar au av ag ai aw aJ aK aL aG aC ax aj aD ay ak)) rfl (hS.get 0 rfl) (hS.get 1 rfl) ((cq.2.block aa (blk_lt dG)).trans dG) (by kernel_rfl) (by kernel_rfl) (by kernel_rfl) (by kernel_rfl)) ?_
   rintro hK dp ⟨rfl, bz, hT⟩
   have b4 := hT.blk ((cq.2.block ah (blk_lt e8)).trans e8) af
   have bB := hT.below cq.1 ae (cq.1).size
   clear hT
   refine wpList_nil ?_
   refine ha _ _ ?_
   refine wp_seq_k (fun kl hd => ?_)
   refine reg_seq_tail 8 (I := I2_ w dp) (ps := [IsV (.slice aM ac.length aN), VI ab, VI (wrap64 (ab + 4)), IsV (.tuple #[.agg #[.int .i64 az, .int .i64 aA, .int .i64 aB], .bool ca]), IsV (.tuple #[.agg #[.int .i64 az, .int .i64 aA, .int .i64 aB], .bool ca]), IsV (.agg #[.int .i64 az, .int .i64 aA, .int .i64 aB]), VB ca, VP aa 13]) (by kernel_rfl) ?_ ?_ rfl hS ⟨bB, (bR dp)⟩ ?_ ?_
   ·exact bs2
   ·exact .v (.v (.v (.v (.v (.v (.v (.v (.nil))))))))
   ·refine .ms 2 rfl rfl rfl ?_
    refine .ms 3 rfl rfl rfl ?_
    refine .on rfl (fun a w hS hI hp => does_val (x_bin rfl (hp.V 1 rfl rfl) (rfl) (b_add _ _ _ _ _)) rfl) ?_
    refine .on rfl (fun a w hS hI hp => does_call (by kernel_rfl) (ar2 (hp.V 0 rfl rfl) (hp.V 2 rfl rfl)) ((quality_Get.calls k _ _ ac (wrap64 (ab + 4)) az aA aB ca _ (Kd.C_below aE hI.1) bW gM).mono fun _ _ h => ⟨_, h.1, h.2, rfl⟩)) ?_
    refine .mv 3 rfl rfl rfl ?_
    iterate 2 refine .on rfl (fun a w hS hI hp => does_val (x_extract rfl (hp.V 4 rfl rfl) rfl) rfl) ?_
    refine .on rfl (fun a w hS hI hp => does_val (x_fieldE (b := 0) rfl (hS.get 4 rfl) Try.underlying28 rfl rfl (by kernel_rfl)) rfl) ?_
    exact .nil
   clear hS
   intro jt kB hS cr hp
   replace hS := ((((((hS.nil).cons (hS.get 7 rfl)).cons (hS.get 6 rfl)).cons (hS.get 5 rfl)).cons (hS.get 4 rfl)).cons (hS.get 3 rfl)).cons (hS.get 2 rfl)
   have hA : sl _ 89 = .agg #[.int .i64 az, .int .i64 aA, .int .i64 aB] := hp 5 (by decide)
   have hB : sl _ 91 = .pointer (some ⟨aa, 13, none⟩) := hp 7 (by decide)
   have hS := hS.cons hA
   have hS := hS.cons hB
   clear hp hA hB
   show wpList _ _ _ [_] _ _
   refine list_step rfl (does_store (g := aa) (off := 13) (v := .agg #[.int .i64 az, .int .i64 aA, .int .i64 aB]) (new := (body_Get.c1 ad al am an ao ap aq ar au av ag ai aw az aA aB aG aC ax aj aD ay ak)) rfl (hS.get 0 rfl) (hS.get 1 rfl) ((cr.2.block aa (blk_lt bz)).trans bz) (by kernel_rfl) (by kernel_rfl) (by kernel_rfl) (by kernel_rfl)) ?_
   rintro j9 gl ⟨rfl, dJ, hT⟩
   have fb := hT.blk ((cr.2.block ah (blk_lt b4)).trans b4) af
   have eX := hT.below cr.1 ae (cr.1).size
   clear hT
   refine wpList_nil ?_
   refine hd _ _ ?_
   refine wp_seq_k (fun km hf => ?_)
   refine reg_seq_tail 8 (I := I2_ w gl) (ps := [IsV (.slice aM ac.length aN), VI ab, VI (wrap64 (ab + 8)), IsV (.tuple #[.int .i64 aF, .bool cb]), IsV (.tuple #[.int .i64 aF, .bool cb]), VI aF, VB cb, VP aa 16]) (by kernel_rfl) ?_ ?_ rfl hS ⟨eX, (bR gl)⟩ ?_ ?_
   ·exact bs2
   ·exact .v (.v (.v (.v (.v (.v (.v (.v (.nil))))))))
   ·refine .ms 2 rfl rfl rfl ?_
    refine .ms 3 rfl rfl rfl ?_
    refine .on rfl (fun a w hS hI hp => does_val (x_bin rfl (hp.V 1 rfl rfl) (rfl) (b_add _ _ _ _ _)) rfl) ?_
    refine .on rfl (fun a w hS hI hp => does_call (by kernel_rfl) (ar3 (hp.V 0 rfl rfl) (hp.V 2 rfl rfl) (rfl)) ((octets_Get.calls k _ _ ac (wrap64 (ab + 8)) 1 aF cb _ (Kd.C_below aE hI.1) bW gN).mono fun _ _ h => ⟨_, h.1, h.2.below, rfl⟩)) ?_
    refine .mv 3 rfl rfl rfl ?_
    iterate 2 refine .on rfl (fun a w hS hI hp => does_val (x_extract rfl (hp.V 4 rfl rfl) rfl) rfl) ?_
    refine .on rfl (fun a w hS hI hp => does_val (x_fieldE (b := 0) rfl (hS.get 4 rfl) Try.underlying28 rfl rfl (by kernel_rfl)) rfl) ?_
    exact .nil
   clear hS
   intro ju kC hS ct hp
   replace hS := ((((((hS.nil).cons (hS.get 7 rfl)).cons (hS.get 6 rfl)).cons (hS.get 5 rfl)).cons (hS.get 4 rfl)).cons (hS.get 3 rfl)).cons (hS.get 2 rfl)
   have hD : sl _ 97 = .int .i64 aF := hp 5 (by decide)
   have hE : sl _ 99 = .pointer (some ⟨aa, 16, none⟩) := hp 7 (by decide)
   have hS := hS.cons hD
   have hS := hS.cons hE
   clear hp hD hE
   show wpList _ _ _ [_] _ _
   refine list_step rfl (does_store (g := aa) (off := 16) (v := .int .i64 aF) (new := (body_Get.c1 ad al am an ao ap aq ar au av ag ai aw az aA aB aF aC ax aj aD ay ak)) rfl (hS.get 0 rfl) (hS.get 1 rfl) ((ct.2.block aa (blk_lt dJ)).trans dJ) (by kernel_rfl) (by kernel_rfl) (by kernel_rfl) (by kernel_rfl)) ?_
   rintro ka gm ⟨rfl, dK, hT⟩
   have fc := hT.blk ((ct.2.block ah (blk_lt fb)).trans fb) af
   have eY := hT.below ct.1 ae (ct.1).size
   clear hT
   refine wpList_nil ?_
   refine hf _ _ ?_
   refine wp_seq_k (fun kn hg => ?_)
   refine reg_seq_tail 8 (I := I2_ w gm) (ps := [IsV (.slice aM ac.length aN), VI ab, VI (wrap64 (ab + 9)), IsV (.tuple #[.int .u64 aI, .bool cc]), IsV (.tuple #[.int .u64 aI, .bool cc]), IsV (.int .u64 aI), VB cc, VP aa 17]) (by kernel_rfl) ?_ ?_ rfl hS ⟨eY, (bR gm)⟩ ?_ ?_
   ·exact bs2
   ·exact .v (.v (.v (.v (.v (.v (.v (.v (.nil))))))))
   ·refine .ms 2 rfl rfl rfl ?_
    refine .ms 3 rfl rfl rfl ?_
    refine .on rfl (fun a w hS hI hp => does_val (x_bin rfl (hp.V 1 rfl rfl) (rfl) (b_add _ _ _ _ _)) rfl) ?_
    refine .on rfl (fun a w hS hI hp => does_call (by kernel_rfl) (ar2 (hp.V 0 rfl rfl) (hp.V 2 rfl rfl)) ((octets_GetId.calls k _ _ ac (wrap64 (ab + 9)) aI cc _ (Kd.C_below aE hI.1) bW gO).mono fun _ _ h => ⟨_, h.1, h.2.below, rfl⟩)) ?_
    refine .mv 3 rfl rfl rfl ?_
    iterate 2 refine .on rfl (fun a w hS hI hp => does_val (x_extract rfl (hp.V 4 rfl rfl) rfl) rfl) ?_
    refine .on rfl (fun a w hS hI hp => does_val (x_fieldE (b := 0) rfl (hS.get 4 rfl) Try.underlying28 rfl rfl (by kernel_rfl)) rfl) ?_
    exact .nil
   clear hS
   intro jv kD hS cu hp
   replace hS := ((((((hS.nil).cons (hS.get 7 rfl)).cons (hS.get 6 rfl)).cons (hS.get 5 rfl)).cons (hS.get 4 rfl)).cons (hS.get 3 rfl)).cons (hS.get 2 rfl)
   have f4 : sl _ 105 = .int .u64 aI := hp 5 (by decide)
   have f5 : sl _ 107 = .pointer (some ⟨aa, 17, none⟩) := hp 7 (by decide)
   have hS := hS.cons f4
   have hS := hS.cons f5
   clear hp f4 f5
   show wpList _ _ _ [_] _ _
   refine list_step rfl (does_store (g := aa) (off := 17) (v := .int .u64 aI) (new := (body_Get.c1 ad al am an ao ap aq ar au av ag ai aw az aA aB aF aI ax aj aD ay ak)) rfl (hS.get 0 rfl) (hS.get 1 rfl) ((cu.2.block aa (blk_lt dK)).trans dK) (by kernel_rfl) (by kernel_rfl) (by kernel_rfl) (by kernel_rfl)) ?_
   rintro kb gn ⟨rfl, dL, hT⟩
   have fd := hT.blk ((cu.2.block ah (blk_lt fc)).trans fc) af
   have eZ := hT.below cu.1 ae (cu.1).size
   clear hT
   refine wpList_nil ?_
   refine hg _ _ ?_
   refine wp_seq_k (fun ko hh => ?_)
   refine reg_seq_tail 8 (I := I2_ w gn) (ps := [IsV (.slice aM ac.length aN), VI ab, VI (wrap64 (ab + 17)), IsV (.tuple #[.int .i64 aO, .bool cd]), IsV (.tuple #[.int .i64 aO, .bool cd]), VI aO, VB cd, VP aa 18]) (by kernel_rfl) ?_ ?_ rfl hS ⟨eZ, (bR gn)⟩ ?_ ?_
   ·exact bs2
   ·exact .v (.v (.v (.v (.v (.v (.v (.v (.nil))))))))
   ·refine .ms 2 rfl rfl rfl ?_
    refine .ms 3 rfl rfl rfl ?_
    refine .on rfl (fun a w hS hI hp => does_val (x_bin rfl (hp.V 1 rfl rfl) (rfl) (b_add _ _ _ _ _)) rfl) ?_
    refine .on rfl (fun a w hS hI hp => does_call (by kernel_rfl) (ar3 (hp.V 0 rfl rfl) (hp.V 2 rfl rfl) (rfl)) ((octets_Get.calls k _ _ ac (wrap64 (ab + 17)) 2 aO cd _ (Kd.C_below aE hI.1) bW gP).mono fun _ _ h => ⟨_, h.1, h.2.below, rfl⟩)) ?_
    refine .mv 3 rfl rfl rfl ?_
    iterate 2 refine .on rfl (fun a w hS hI hp => does_val (x_extract rfl (hp.V 4 rfl rfl) rfl) rfl) ?_
    refine .on rfl (fun a w hS hI hp => does_val (x_fieldE (b := 0) rfl (hS.get 4 rfl) Try.underlying28 rfl rfl (by kernel_rfl)) rfl) ?_
    exact .nil
   clear hS
   intro jw kE hS cv hp
   replace hS := ((((((hS.nil).cons (hS.get 7 rfl)).cons (hS.get 6 rfl)).cons (hS.get 5 rfl)).cons (hS.get 4 rfl)).cons (hS.get 3 rfl)).cons (hS.get 2 rfl)
   have f6 : sl _ 113 = .int .i64 aO := hp 5 (by decide)
   have f7 : sl _ 115 = .pointer (some ⟨aa, 18, none⟩) := hp 7 (by decide)
   have hS := hS.cons f6
   have hS := hS.cons f7
   clear hp f6 f7
   show wpList _ _ _ [_] _ _
   refine list_step rfl (does_store (g := aa) (off := 18) (v := .int .i64 aO) (new := (body_Get.c1 ad al am an ao ap aq ar au av ag ai aw az aA aB aF aI aO aj aD ay ak)) rfl (hS.get 0 rfl) (hS.get 1 rfl) ((cv.2.block aa (blk_lt dL)).trans dL) (by kernel_rfl) (by kernel_rfl) (by kernel_rfl) (by kernel_rfl)) ?_
   rintro kc go ⟨rfl, dM, hT⟩
   have fe := hT.blk ((cv.2.block ah (blk_lt fd)).trans fd) af
   have e0 := hT.below cv.1 ae (cv.1).size
   clear hT
   refine wpList_nil ?_
   refine hh _ _ ?_
   refine reg_seq_tail 8 (I := I2_ w go) (ps := [IsV (.slice aM ac.length aN), VI ab, VI (wrap64 (ab + 19)), IsV (.tuple #[.int .i64 aR, .bool ce]), IsV (.tuple #[.int .i64 aR, .bool ce]), VI aR, VB ce, VP aa 19]) (by kernel_rfl) ?_ ?_ rfl hS ⟨e0, (bR go)⟩ ?_ ?_
   ·exact bs2
   ·exact .v (.v (.v (.v (.v (.v (.v (.v (.nil))))))))
   ·refine .ms 2 rfl rfl rfl ?_
    refine .ms 3 rfl rfl rfl ?_
    refine .on rfl (fun a w hS hI hp => does_val (x_bin rfl (hp.V 1 rfl rfl) (rfl) (b_add _ _ _ _ _)) rfl) ?_
    refine .on rfl (fun a w hS hI hp => does_call (by kernel_rfl) (ar3 (hp.V 0 rfl rfl) (hp.V 2 rfl rfl) (rfl)) ((octets_Get.calls k _ _ ac (wrap64 (ab + 19)) 1 aR ce _ (Kd.C_below aE hI.1) bW gQ).mono fun _ _ h => ⟨_, h.1, h.2.below, rfl⟩)) ?_
    refine .mv 3 rfl rfl rfl ?_
    iterate 2 refine .on rfl (fun a w hS hI hp => does_val (x_extract rfl (hp.V 4 rfl rfl) rfl) rfl) ?_
    refine .on rfl (fun a w hS hI hp => does_val (x_fieldE (b := 0) rfl (hS.get 4 rfl) Try.underlying28 rfl rfl (by kernel_rfl)) rfl) ?_
    exact .nil
   clear hS
   intro jx kF hS cw hp
   replace hS := ((((hS.nil).cons (hS.get 7 rfl)).cons (hS.get 6 rfl)).cons (hS.get 5 rfl)).cons (hS.get 4 rfl)
   have f8 : sl _ 121 = .int .i64 aR := hp 5 (by decide)
   have f9 : sl _ 123 = .pointer (some ⟨aa, 19, none⟩) := hp 7 (by decide)
   have hS := hS.cons f8
   have hS := hS.cons f9
   clear hp f8 f9
   show wpList _ _ _ [_] _ _
   refine list_step rfl (does_store (g := aa) (off := 19) (v := .int .i64 aR) (new := (body_Get.c1 ad al am an ao ap aq ar au av ag ai aw az aA aB aF aI aO aR aD ay ak)) rfl (hS.get 0 rfl) (hS.get 1 rfl) ((cw.2.block aa (blk_lt dM)).trans dM) (by kernel_rfl) (by kernel_rfl) (by kernel_rfl) (by kernel_rfl)) ?_
   rintro kd gp ⟨rfl, dN, hT⟩
   have ff := hT.blk ((cw.2.block ah (blk_lt fe)).trans fe) af
   have e1 := hT.below cw.1 ae (cw.1).size
   clear hT
   refine wpList_nil ?_
   replace hS := ((((hS.nil).cons (hS.get 5 rfl)).cons (hS.get 4 rfl)).cons (hS.get 3 rfl)).cons (hS.get 2 rfl)
   (try simp only [Exit.then, Exit.inBlock])
   exact J4 _ _ ad al am an ao ap aq ar au av ag ai aw az aA aB aF aI aO aR aD ay ak aa bH bI bJ bK bL bM bN bO bP bQ bl bm bn bo bp bq br bs bt bu bv bw bx ah cN cf H hS e1 ae (((bR gp).block aa (blk_lt dN)).trans dN) b3 (((bR gp).block ah (blk_lt ff)).trans ff) af
  obtain ⟨gH, jd, H⟩ := Option.bind_eq_some_iff.mp H
  refine wp_seq_k (fun lm jL => ?_)
  refine reg_seq (I := I3_ w fN gJ) (ps := [VP bj 0, VI cz, VB gH]) (by kernel_rfl) ?_ ?_ rfl hS ⟨eV, gB, (bR gJ)⟩ ?_ ?_
  ·exact bs3
  ·exact .v (.v (.v (.nil)))
  ·refine .on rfl (fun a w hS hI hp => does_val (x_fieldE (b := 0) rfl (hS.get 3 rfl) Try.underlying28 rfl rfl (by kernel_rfl)) rfl) ?_
   refine .on rfl (fun a w hS hI hp => does_val (x_load1 (d := .int .i64) rfl (hp.V 0 rfl rfl) (by kernel_rfl) rfl ((blk_cell (((hI.2.1).block bj (blk_lt b2)).trans b2) 0).trans rfl)) rfl) ?_
   refine .on rfl (fun a w hS hI hp => does_call (by kernel_rfl) (ar1 (hp.V 1 rfl rfl)) ((body_targeted.calls cz gH _  jd).mono fun _ _ h => ⟨_, h.1, h.2.below, rfl⟩)) ?_
   exact .nil
  clear hS
  intro k6 iY hS fl hp
  replace hS := ((((((hS.nil).cons (hS.get 6 rfl)).cons (hS.get 5 rfl)).cons (hS.get 4 rfl)).cons (hS.get 3 rfl)).cons (hS.get 2 rfl)).cons (hS.get 0 rfl)
  have ho : sl _ 55 = .bool gH := hp 2 (by decide)
  have hS := hS.cons ho
  clear hp ho
  refine jL _ _ ?_
  by_cases c5 : gH = true
  rotate_left
  ·rw [if_neg c5] at H
   refine wp_cond_false ((hS.get 0 rfl).trans (bF (Bool.eq_false_iff.2 c5))) ?_
   refine wp_skip ?_
   replace hS := ((((((hS.nil).cons (hS.get 6 rfl)).cons (hS.get 5 rfl)).cons (hS.get 4 rfl)).cons (hS.get 3 rfl)).cons (hS.get 1 rfl)).cons (hS.get 2 rfl)
   (try simp only [Exit.then, Exit.inBlock])
   exact J3 _ _ dm eO eP (wrap64 (bD + 10)) cz dR dS dT dU dV dW dX bZ fy eA cB cC cD cE cF cG cH cI cJ cK cL cM bj fz fA fB fC fD fE fF fG fH fI eB eC eD eE eF eG eH eI eJ eK eL eM eN bU hU gs H hS fl.1 gF (f3) d9 ((fl.2.1.block bj (blk_lt b2)).trans b2) e6 ((fl.2.1.block bU (blk_lt ee)).trans ee) di
  rw [if_pos c5] at H
  obtain ⟨ks, je, H⟩ := Option.bind_eq_some_iff.mp H
  obtain ⟨cl, cm, fM⟩ := ks
  (try dsimp only at H)
  refine wp_cond_true ((hS.get 0 rfl).trans (bT c5)) ?_
  refine wp_seq_k (fun ln jM => ?_)
  refine reg_seq_tail 7 (I := I3_ w fN iY) (ps := [IsV (.slice eO dm.length eP), VI (wrap64 (bD + 10)), IsV (.tuple #[.agg #[.int .u64 cl, .int .i64 cm], .bool fM]), IsV (.tuple #[.agg #[.int .u64 cl, .int .i64 cm], .bool fM]), IsV (.agg #[.int .u64 cl, .int .i64 cm]), VB fM, VP bj 9]) (by kernel_rfl) ?_ ?_ rfl hS ⟨fl.1, fl.2.1, (bR iY)⟩ ?_ ?_
  ·exact bs3
  ·exact .v (.v (.v (.v (.v (.v (.v (.nil)))))))
  ·refine .ms 2 rfl rfl rfl ?_
   refine .ms 1 rfl rfl rfl ?_
   refine .on rfl (fun a w hS hI hp => does_call (by kernel_rfl) (ar2 (hp.V 0 rfl rfl) (hp.V 1 rfl rfl)) ((ident_Get.calls k _ _ dm (wrap64 (bD + 10)) cl cm fM _ (Kd.C_below f3 hI.1) gF je).mono fun _ _ h => ⟨_, h.1, h.2, rfl⟩)) ?_
   refine .mv 2 rfl rfl rfl ?_
   iterate 2 refine .on rfl (fun a w hS hI hp => does_val (x_extract rfl (hp.V 3 rfl rfl) rfl) rfl) ?_
   refine .on rfl (fun a w hS hI hp => does_val (x_fieldE (b := 0) rfl (hS.get 3 rfl) Try.underlying28 rfl rfl (by kernel_rfl)) rfl) ?_
   exact .nil
  clear hS
  intro k7 ls hS gg hp
  replace hS := ((((((hS.nil).cons (hS.get 6 rfl)).cons (hS.get 5 rfl)).cons (hS.get 4 rfl)).cons (hS.get 3 rfl)).cons (hS.get 2 rfl)).cons (hS.get 1 rfl)
  have hq : sl _ 60 = .agg #[.int .u64 cl, .int .i64 cm] := hp 4 (by decide)
  have hr : sl _ 62 = .pointer (some ⟨bj, 9, none⟩) := hp 6 (by decide)
  have hS := hS.cons hq
  have hS := hS.cons hr
  clear hp hq hr
  show wpList _ _ _ [_] _ _
  refine list_step rfl (does_store (g := bj) (off := 9) (v := .agg #[.int .u64 cl, .int .i64 cm]) (new := (body_Get.c1 cz dR dS dT dU dV dW dX bZ cl cm cB cC cD cE cF cG cH cI cJ cK cL cM)) rfl (hS.get 0 rfl) (hS.get 1 rfl) ((gg.2.1.block bj (blk_lt b2)).trans b2) (by kernel_rfl) (by kernel_rfl) (by kernel_rfl) (by kernel_rfl)) ?_
  rintro le iZ ⟨rfl, hl, hT⟩
  have ir := hT.blk ((gg.2.1.block bU (blk_lt ee)).trans ee) di
  have im := hT.below gg.1 d9 (gg.1).size
  clear hT
  refine wpList_nil ?_
  refine jM _ _ ?_
  refine reg_seq_tail 2 (I := I2_ w iZ) (ps := [VI (wrap64 (bD + 10)), VI (wrap64 ((wrap64 (bD + 10)) + 10))]) (by kernel_rfl) ?_ ?_ rfl hS ⟨im, (bR iZ)⟩ ?_ ?_
  ·exact bs2
  ·exact .v (.v (.nil))
  ·refine .ms 2 rfl rfl rfl ?_
   refine .on rfl (fun a w hS hI hp => does_val (x_bin rfl (hp.V 0 rfl rfl) (rfl) (b_add _ _ _ _ _)) rfl) ?_
   exact .nil
  clear hS
  intro k8 kv hS iu hp
  replace hS := ((((((hS.nil).cons (hS.get 7 rfl)).cons (hS.get 6 rfl)).cons (hS.get 5 rfl)).cons (hS.get 4 rfl)).cons (hS.get 3 rfl)).cons (hS.get 2 rfl)
  have hs : sl _ 64 = .int .i64 (wrap64 ((wrap64 (bD + 10)) + 10)) := hp 1 (by decide)
  have hS := hS.cons hs
  clear hp hs
  show wpList _ _ _ [_] _ _
  refine list_step rfl (R := fun v w' => Below _ _ w' ∧ (VI (wrap64 ((wrap64 (bD + 10)) + 10))) v w') (does_val (x_assign rfl (hS.get 0 rfl)) rfl) ?_
  rintro j0 lt ⟨hb, he⟩
  have io := below_step iu.1 hb
  have eT := below_step iu.2 hb
  have i9 := below_step (bR kv) hb
  obtain rfl : j0 = .int .i64 (wrap64 ((wrap64 (bD + 10)) + 10)) := he
  replace hS := ((((((hS.nil).cons (hS.get 6 rfl)).cons (hS.get 5 rfl)).cons (hS.get 4 rfl)).cons (hS.get 3 rfl)).cons (hS.get 2 rfl)).cons (hS.get 0 rfl)
  refine hS.next (v := .int .i64 (wrap64 ((wrap64 (bD + 10)) + 10))) (d := 2) rfl (by decide) (by rfl) ?_
  clear hS
  intro k9 hS
  refine wpList_nil ?_
  replace hS := ((((((hS.nil).cons (hS.get 6 rfl)).cons (hS.get 5 rfl)).cons (hS.get 4 rfl)).cons (hS.get 3 rfl)).cons (hS.get 0 rfl)).cons (hS.get 2 rfl)
  (try simp only [Exit.then, Exit.inBlock])
  exact J3 _ _ dm eO eP (wrap64 ((wrap64 (bD + 10)) + 10)) cz dR dS dT dU dV dW dX bZ cl cm cB cC cD cE cF cG cH cI cJ cK cL cM bj fz fA fB fC fD fE fF fG fH fI eB eC eD eE eF eG eH eI eJ eK eL eM eN bU hU gs H hS io gF (f3) d9 ((eT.block bj (blk_lt hl)).trans hl) e6 ((eT.block bU (blk_lt ir)).trans ir) di
 refine wp_seq_k (fun lB jN => ?_)
 by_cases c4 : cy = 0
 ·rw [if_pos c4] at H
  refine reg_seq (I := I4_ w w3 w5 eU) (ps := [VI cy, VB (decide (cy = 0)), VB (decide (cy = 0)), VU, VU, VU, VU, VB true]) (by kernel_rfl) ?_ ?_ rfl hS ⟨b5.1, b5.2.1, b5.2.2.1, (bR eU)⟩ ?_ ?_
  ·exact bs4
  ·exact .v (.v (.v (.v (.v (.v (.v (.v (.nil))))))))
  ·refine .ms 1 rfl rfl rfl ?_
   refine .on rfl (fun a w hS hI hp => does_val (x_bin rfl (hp.V 0 rfl rfl) (rfl) (b_eql _ _ _ _ _ _)) rfl) ?_
   refine .mv 1 rfl rfl rfl ?_
   iterate 4 refine .sn 2 35 rfl rfl ((decide_eq_true c4)) ?_
   refine .on rfl (fun a w hS hI hp => does_val (x_pickT rfl ((hp.V 2 rfl rfl).trans (bT (decide_eq_true c4))) (rfl)) rfl) ?_
   exact .nil
  clear hS
  intro lx hX hS iP hp
  replace hS := ((((((hS.nil).cons (hS.get 6 rfl)).cons (hS.get 5 rfl)).cons (hS.get 4 rfl)).cons (hS.get 3 rfl)).cons (hS.get 2 rfl)).cons (hS.get 1 rfl)
  have hn : sl _ 40 = .bool true := hp 7 (by decide)
  have hS := hS.cons hn
  clear hp hn
  refine jN _ _ ?_
  refine wp_cond_true ((hS.get 0 rfl).trans (bT rfl)) ?_
  refine wp_goto ?_
  (try simp only [Exit.then, Exit.inBlock])
  replace hS := ((((((hS.nil).cons (hS.get 1 rfl)).cons (hS.get 2 rfl)).cons (hS.get 3 rfl)).cons (hS.get 4 rfl)).cons (hS.get 6 rfl)).cons (hS.get 5 rfl)
  exact ⟨rfl, l1, A1, g2, a2, eQ, gR, gS, gT, gU, gV, gW, gX, gY, gZ, fQ, fR, fS, fT, fU, fV, fW, fX, fY, fZ, f0, f1, f2, g4, 0, 0, 0, 0, 0, 0, 0, 0, 0, 0, 0, 0, 0, 0, 0, 0, 0, 0, 0, 0, 0, 0, 0, g6, a2, cy, H, hS, iP.1, HC1, (HR1), h2, ((iP.2.1.block g4 (blk_lt cg)).trans cg), (Nat.le_trans (hF).size db), ((iP.2.2.1.block g6 (blk_lt ch)).trans ch), iO⟩
 rw [if_neg c4] at H
 obtain ⟨hV, kP, H⟩ := Option.bind_eq_some_iff.mp H
 refine reg_seq (I := I4_ w w3 w5 eU) (ps := [VI cy, VB (decide (cy = 0)), VB (decide (cy = 0)), VP g4 0, VI eQ, VB hV, VB (!hV), VB (!hV)]) (by kernel_rfl) ?_ ?_ rfl hS ⟨b5.1, b5.2.1, b5.2.2.1, (bR eU)⟩ ?_ ?_
 ·exact bs4
 ·exact .v (.v (.v (.v (.v (.v (.v (.v (.nil))))))))
 ·refine .ms 1 rfl rfl rfl ?_
  refine .on rfl (fun a w hS hI hp => does_val (x_bin rfl (hp.V 0 rfl rfl) (rfl) (b_eql _ _ _ _ _ _)) rfl) ?_
  refine .mv 1 rfl rfl rfl ?_
  refine .oy 2 35 rfl rfl ((decide_eq_false c4)) (fun a w hS hI hp => does_val (x_fieldE (b := 0) rfl (hS.get 4 rfl) Try.underlying28 rfl rfl (by kernel_rfl)) rfl) ?_
  refine .oy 2 35 rfl rfl ((decide_eq_false c4)) (fun a w hS hI hp => does_val (x_load1 (d := .int .i64) rfl (hp.V 3 rfl rfl) (by kernel_rfl) rfl ((blk_cell (((hI.2.1).block g4 (blk_lt cg)).trans cg) 0).trans rfl)) rfl) ?_
  refine .oy 2 35 rfl rfl ((decide_eq_false c4)) (fun a w hS hI hp => does_call (by kernel_rfl) (ar1 (hp.V 4 rfl rfl)) ((body_stamped.calls eQ hV _  kP).mono fun _ _ h => ⟨_, h.1, h.2.below, rfl⟩)) ?_
  refine .oy 2 35 rfl rfl ((decide_eq_false c4)) (fun a w hS hI hp => does_val (x_not rfl (hp.V 5 rfl rfl)) rfl) ?_
  refine .on rfl (fun a w hS hI hp => does_val (x_pickF rfl ((hp.V 2 rfl rfl).trans (bF (decide_eq_false c4))) (hp.V 6 rfl rfl)) rfl) ?_
  exact .nil
 clear hS
 intro ly hY hS gv hp
 replace hS := ((((((hS.nil).cons (hS.get 6 rfl)).cons (hS.get 5 rfl)).cons (hS.get 4 rfl)).cons (hS.get 3 rfl)).cons (hS.get 2 rfl)).cons (hS.get 1 rfl)
 have hn : sl _ 40 = .bool (!hV) := hp 7 (by decide)
 have hS := hS.cons hn
 clear hp hn
 refine jN _ _ ?_
 by_cases c5 : hV = true
 ·rw [if_pos c5] at H
  refine wp_cond_false ((hS.get 0 rfl).trans (bF (congrArg (!·) c5))) ?_
  refine wp_skip ?_
  replace hS := ((((((hS.nil).cons (hS.get 1 rfl)).cons (hS.get 2 rfl)).cons (hS.get 3 rfl)).cons (hS.get 4 rfl)).cons (hS.get 6 rfl)).cons (hS.get 5 rfl)
  (try simp only [Exit.then, Exit.inBlock])
  exact J2 _ _ l1 A1 g2 a2 eQ gR gS gT gU gV gW gX gY gZ fQ fR fS fT fU fV fW fX fY fZ f0 f1 f2 g4 0 0 0 0 0 0 0 0 0 0 0 0 0 0 0 0 0 0 0 0 0 0 0 g6 a2 cy H hS gv.1 HC1 (HR1) h2 ((gv.2.1.block g4 (blk_lt cg)).trans cg) (Nat.le_trans (hF).size db) ((gv.2.2.1.block g6 (blk_lt ch)).trans ch) iO
 rw [if_neg c5] at H
 refine wp_cond_true ((hS.get 0 rfl).trans (bT (congrArg (!·) (Bool.eq_false_iff.2 c5)))) ?_
 refine wp_goto ?_
 (try simp only [Exit.then, Exit.inBlock])
 replace hS := ((((((hS.nil).cons (hS.get 1 rfl)).cons (hS.get 2 rfl)).cons (hS.get 3 rfl)).cons (hS.get 4 rfl)).cons (hS.get 6 rfl)).cons (hS.get 5 rfl)
 exact ⟨rfl, l1, A1, g2, a2, eQ, gR, gS, gT, gU, gV, gW, gX, gY, gZ, fQ, fR, fS, fT, fU, fV, fW, fX, fY, fZ, f0, f1, f2, g4, 0, 0, 0, 0, 0, 0, 0, 0, 0, 0, 0, 0, 0, 0, 0, 0, 0, 0, 0, 0, 0, 0, 0, g6, a2, cy, H, hS, gv.1, HC1, (HR1), h2, ((gv.2.1.block g4 (blk_lt cg)).trans cg), (Nat.le_trans (hF).size db), ((gv.2.2.1.block g6 (blk_lt ch)).trans ch), iO⟩
end Go.Proofs.Ytiomlbkakiienaa.P
