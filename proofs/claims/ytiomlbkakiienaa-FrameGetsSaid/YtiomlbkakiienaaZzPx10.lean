/- Functions and loops of the given program as Lean functions, and that the code comes to what they say: written by this session's own program; Lean checks it. -/
import Derived.Test.YtiomlbkakiienaaZzPx0
import Derived.Test.YtiomlbkakiienaaZzPx8
import Derived.Test.YtiomlbkakiienaaZzPx9
namespace Go.Proofs.Ytiomlbkakiienaa.P
open Go.RowKit Go.Proofs.YtiomlbkakiienaaW.PrintWords Go.Proofs.YtiomlbkakiienaaW.PrintLast Go.Proofs.YtiomlbkakiienaaW.PrintMore
attribute [local go_sem] max2_int min2_int max_two min_two max_three min_three max_four min_four   -- for this text's walks alone
set_option linter.unusedVariables false
set_option linter.unusedSimpArgs false
def carillonref07_Get.j3 (k : Nat) (x3_3_0 x3_3_1 x3_3_2 x3_3_3 x3_3_4 x3_3_5 x3_3_6 x3_3_7 x3_3_8 x3_3_9 x3_3_10 x3_3_11 x3_3_12 x3_3_13 x3_3_14 x3_3_15 x3_3_16 x3_3_17 x3_3_18 x3_3_19 x3_3_20 x3_3_21 x3_3_22 x3_6_0 x3_6_1 x3_6_2 x3_6_3 x3_6_4 x3_6_5 x3_6_6 x3_6_7 x3_6_8 x3_6_9 x3_6_10 x3_6_11 x3_6_12 x3_6_13 x3_6_14 x3_6_15 x3_6_16 x3_6_17 x3_6_18 x3_6_19 x3_6_20 x3_6_21 x3_6_22 x3_9 : Int) : Option (Int × Int × Int × Int × Int × Int × Int × Int × Int × Int × Int × Int × Int × Int × Int × Int × Int × Int × Int × Int × Int × Int × Int × Int × Int) := some (x3_3_0, x3_3_1, x3_3_2, x3_3_3, x3_3_4, x3_3_5, x3_3_6, x3_3_7, x3_3_8, x3_3_9, x3_3_10, x3_3_11, x3_3_12, x3_3_13, x3_3_14, x3_3_15, x3_3_16, x3_3_17, x3_3_18, x3_3_19, x3_3_20, x3_3_21, x3_3_22, x3_9, 0)
def carillonref07_Get.j2 (k : Nat) (y2_1 : List Int) (x2_2 x2_3_0 x2_3_1 x2_3_2 x2_3_3 x2_3_4 x2_3_5 x2_3_6 x2_3_7 x2_3_8 x2_3_9 x2_3_10 x2_3_11 x2_3_12 x2_3_13 x2_3_14 x2_3_15 x2_3_16 x2_3_17 x2_3_18 x2_3_19 x2_3_20 x2_3_21 x2_3_22 x2_6_0 x2_6_1 x2_6_2 x2_6_3 x2_6_4 x2_6_5 x2_6_6 x2_6_7 x2_6_8 x2_6_9 x2_6_10 x2_6_11 x2_6_12 x2_6_13 x2_6_14 x2_6_15 x2_6_16 x2_6_17 x2_6_18 x2_6_19 x2_6_20 x2_6_21 x2_6_22 x2_9 : Int) : Option (Int × Int × Int × Int × Int × Int × Int × Int × Int × Int × Int × Int × Int × Int × Int × Int × Int × Int × Int × Int × Int × Int × Int × Int × Int) := if x2_3_0 = 11 then ((carillonref01_Signed.f k y2_1 x2_2 2).bind fun t2009 => (if 0 ≤ (wrap64 (x2_2 + 3)) then (if (wrap64 (x2_2 + 3)) < (y2_1.length : Int) then ((carillonref05_Get.f k y2_1 (wrap64 (x2_2 + 4))).bind fun t2020 => (if 0 ≤ (wrap64 (x2_2 + 8)) then (if (wrap64 (x2_2 + 8)) < (y2_1.length : Int) then ((carillonref01_Id.f k y2_1 (wrap64 (x2_2 + 9))).bind fun t2031 => ((carillonref01_Get.f k y2_1 (wrap64 (x2_2 + 17)) 2).bind fun t2037 => (if 0 ≤ (wrap64 (x2_2 + 19)) then (if (wrap64 (x2_2 + 19)) < (y2_1.length : Int) then (carillonref07_Get.j3 k x2_3_0 x2_3_1 x2_3_2 x2_3_3 x2_3_4 x2_3_5 x2_3_6 x2_3_7 x2_3_8 x2_3_9 x2_3_10 t2009.1 (wrap64 (rd y2_1 (wrap64 (x2_2 + 3)))) t2020.1 t2020.2.1 t2020.2.2.1 (wrap64 (rd y2_1 (wrap64 (x2_2 + 8)))) t2031.1 t2037.1 (wrap64 (rd y2_1 (wrap64 (x2_2 + 19)))) x2_3_20 x2_3_21 x2_3_22 x2_6_0 x2_6_1 x2_6_2 x2_6_3 x2_6_4 x2_6_5 x2_6_6 x2_6_7 x2_6_8 x2_6_9 x2_6_10 x2_6_11 x2_6_12 x2_6_13 x2_6_14 x2_6_15 x2_6_16 x2_6_17 x2_6_18 x2_6_19 x2_6_20 x2_6_21 x2_6_22 x2_9) else (none)) else (none)))) else (none)) else (none))) else (none)) else (none))) else (if x2_3_0 = 13 then (if 0 ≤ x2_2 then (if x2_2 < (y2_1.length : Int) then (if 0 ≤ (wrap64 (x2_2 + 1)) then (if (wrap64 (x2_2 + 1)) < (y2_1.length : Int) then (if 0 ≤ (wrap64 (x2_2 + 2)) then (if (wrap64 (x2_2 + 2)) < (y2_1.length : Int) then (carillonref07_Get.j3 k x2_3_0 x2_3_1 x2_3_2 x2_3_3 x2_3_4 x2_3_5 x2_3_6 x2_3_7 x2_3_8 x2_3_9 x2_3_10 x2_3_11 x2_3_12 x2_3_13 x2_3_14 x2_3_15 x2_3_16 x2_3_17 x2_3_18 x2_3_19 (wrap64 (rd y2_1 x2_2)) (wrap64 (rd y2_1 (wrap64 (x2_2 + 1)))) (wrap64 (Int.tmod (rd y2_1 (wrap64 (x2_2 + 2))) 16)) x2_6_0 x2_6_1 x2_6_2 x2_6_3 x2_6_4 x2_6_5 x2_6_6 x2_6_7 x2_6_8 x2_6_9 x2_6_10 x2_6_11 x2_6_12 x2_6_13 x2_6_14 x2_6_15 x2_6_16 x2_6_17 x2_6_18 x2_6_19 x2_6_20 x2_6_21 x2_6_22 x2_9) else (none)) else (none)) else (none)) else (none)) else (none)) else (none)) else (carillonref07_Get.j3 k x2_3_0 x2_3_1 x2_3_2 x2_3_3 x2_3_4 x2_3_5 x2_3_6 x2_3_7 x2_3_8 x2_3_9 x2_3_10 x2_3_11 x2_3_12 x2_3_13 x2_3_14 x2_3_15 x2_3_16 x2_3_17 x2_3_18 x2_3_19 x2_3_20 x2_3_21 x2_3_22 x2_6_0 x2_6_1 x2_6_2 x2_6_3 x2_6_4 x2_6_5 x2_6_6 x2_6_7 x2_6_8 x2_6_9 x2_6_10 x2_6_11 x2_6_12 x2_6_13 x2_6_14 x2_6_15 x2_6_16 x2_6_17 x2_6_18 x2_6_19 x2_6_20 x2_6_21 x2_6_22 x2_9))
def carillonref07_Get.j1 (k : Nat) (y1_1 : List Int) (x1_2 x1_3_0 x1_3_1 x1_3_2 x1_3_3 x1_3_4 x1_3_5 x1_3_6 x1_3_7 x1_3_8 x1_3_9 x1_3_10 x1_3_11 x1_3_12 x1_3_13 x1_3_14 x1_3_15 x1_3_16 x1_3_17 x1_3_18 x1_3_19 x1_3_20 x1_3_21 x1_3_22 x1_6_0 x1_6_1 x1_6_2 x1_6_3 x1_6_4 x1_6_5 x1_6_6 x1_6_7 x1_6_8 x1_6_9 x1_6_10 x1_6_11 x1_6_12 x1_6_13 x1_6_14 x1_6_15 x1_6_16 x1_6_17 x1_6_18 x1_6_19 x1_6_20 x1_6_21 x1_6_22 x1_9 : Int) : Option (Int × Int × Int × Int × Int × Int × Int × Int × Int × Int × Int × Int × Int × Int × Int × Int × Int × Int × Int × Int × Int × Int × Int × Int × Int) := (carillonref07_targeted.f x1_3_0).bind fun t1003 => (if t1003 = true then ((carillonref04_Get.f k y1_1 x1_2).bind fun t1007 => (carillonref07_Get.j2 k y1_1 (wrap64 (x1_2 + 10)) x1_3_0 x1_3_1 x1_3_2 x1_3_3 x1_3_4 x1_3_5 x1_3_6 x1_3_7 x1_3_8 t1007.1 t1007.2.1 x1_3_11 x1_3_12 x1_3_13 x1_3_14 x1_3_15 x1_3_16 x1_3_17 x1_3_18 x1_3_19 x1_3_20 x1_3_21 x1_3_22 x1_6_0 x1_6_1 x1_6_2 x1_6_3 x1_6_4 x1_6_5 x1_6_6 x1_6_7 x1_6_8 x1_6_9 x1_6_10 x1_6_11 x1_6_12 x1_6_13 x1_6_14 x1_6_15 x1_6_16 x1_6_17 x1_6_18 x1_6_19 x1_6_20 x1_6_21 x1_6_22 x1_9)) else (carillonref07_Get.j2 k y1_1 x1_2 x1_3_0 x1_3_1 x1_3_2 x1_3_3 x1_3_4 x1_3_5 x1_3_6 x1_3_7 x1_3_8 x1_3_9 x1_3_10 x1_3_11 x1_3_12 x1_3_13 x1_3_14 x1_3_15 x1_3_16 x1_3_17 x1_3_18 x1_3_19 x1_3_20 x1_3_21 x1_3_22 x1_6_0 x1_6_1 x1_6_2 x1_6_3 x1_6_4 x1_6_5 x1_6_6 x1_6_7 x1_6_8 x1_6_9 x1_6_10 x1_6_11 x1_6_12 x1_6_13 x1_6_14 x1_6_15 x1_6_16 x1_6_17 x1_6_18 x1_6_19 x1_6_20 x1_6_21 x1_6_22 x1_9))
def carillonref07_Get.f (k : Nat) (a0_0 a0_1 a0_2 a0_3 a0_4 a0_5 a0_6 a0_7 a0_8 a0_9 a0_10 a0_11 a0_12 a0_13 a0_14 a0_15 a0_16 a0_17 a0_18 a0_19 a0_20 a0_21 a0_22 : Int) (l1 : List Int) (a2 : Int) : Option (Int × Int × Int × Int × Int × Int × Int × Int × Int × Int × Int × Int × Int × Int × Int × Int × Int × Int × Int × Int × Int × Int × Int × Int × Int) := if a2 < 0 then (some (0, 0, 0, 0, 0, 0, 0, 0, 0, 0, 0, 0, 0, 0, 0, 0, 0, 0, 0, 0, 0, 0, 0, 0, 2)) else (if a2 > (l1.length : Int) then (some (0, 0, 0, 0, 0, 0, 0, 0, 0, 0, 0, 0, 0, 0, 0, 0, 0, 0, 0, 0, 0, 0, 0, 0, 2)) else ((carillonref07_Len.f k a0_0).bind fun t15 => (if t15 > (wrap64 ((l1.length : Int) - a2)) then (some (0, 0, 0, 0, 0, 0, 0, 0, 0, 0, 0, 0, 0, 0, 0, 0, 0, 0, 0, 0, 0, 0, 0, 0, 2)) else ((carillonref07_Len.f k a0_0).bind fun t19 => ((carillonref06_Known.f a0_0).bind fun t24 => (if t24 = true then ((carillonref07_stamped.f a0_0).bind fun t29 => (if t29 = true then ((carillonref02_Get.f k l1 a2).bind fun t33 => (if t33.2 = true then (carillonref07_Get.j1 k l1 (wrap64 (a2 + 10)) a0_0 a0_1 a0_2 a0_3 a0_4 a0_5 a0_6 a0_7 t33.1 a0_9 a0_10 a0_11 a0_12 a0_13 a0_14 a0_15 a0_16 a0_17 a0_18 a0_19 a0_20 a0_21 a0_22 0 0 0 0 0 0 0 0 0 0 0 0 0 0 0 0 0 0 0 0 0 0 0 (wrap64 (a2 + t19))) else (some (0, 0, 0, 0, 0, 0, 0, 0, 0, 0, 0, 0, 0, 0, 0, 0, 0, 0, 0, 0, 0, 0, 0, 0, 10)))) else (carillonref07_Get.j1 k l1 a2 a0_0 a0_1 a0_2 a0_3 a0_4 a0_5 a0_6 a0_7 a0_8 a0_9 a0_10 a0_11 a0_12 a0_13 a0_14 a0_15 a0_16 a0_17 a0_18 a0_19 a0_20 a0_21 a0_22 0 0 0 0 0 0 0 0 0 0 0 0 0 0 0 0 0 0 0 0 0 0 0 (wrap64 (a2 + t19))))) else (some (a0_0, a0_1, a0_2, a0_3, a0_4, a0_5, a0_6, a0_7, a0_8, a0_9, a0_10, a0_11, a0_12, a0_13, a0_14, a0_15, a0_16, a0_17, a0_18, a0_19, a0_20, a0_21, a0_22, a2, 0))))))))
abbrev carillonref07_Get.v0 (x0 x1 x2 x3 x4 x5 x6 x7 x8 x9 x10 x11 x12 x13 x14 x15 x16 x17 x18 x19 x20 x21 x22 : Int) : Value := .agg #[.int .i64 x0, .int .i64 x1, .int .i64 x2, .int .i64 x3, .int .u64 x4, .int .i64 x5, .int .i64 x6, .int .i64 x7, .int .i64 x8, .int .u64 x9, .int .i64 x10, .int .i64 x11, .int .i64 x12, .int .i64 x13, .int .i64 x14, .int .i64 x15, .int .i64 x16, .int .u64 x17, .int .i64 x18, .int .i64 x19, .int .i64 x20, .int .i64 x21, .int .i64 x22]
abbrev carillonref07_Get.c1 (x0 x1 x2 x3 x4 x5 x6 x7 x8 x9 x10 x11 x12 x13 x14 x15 x16 x17 x18 x19 x20 x21 x22 : Int) : Array Value := #[.int .i64 x0, .int .i64 x1, .int .i64 x2, .int .i64 x3, .int .u64 x4, .int .i64 x5, .int .i64 x6, .int .i64 x7, .int .i64 x8, .int .u64 x9, .int .i64 x10, .int .i64 x11, .int .i64 x12, .int .i64 x13, .int .i64 x14, .int .i64 x15, .int .i64 x16, .int .u64 x17, .int .i64 x18, .int .i64 x19, .int .i64 x20, .int .i64 x21, .int .i64 x22]
open Go.Proofs.Ytiomlbkakiienaa.E in
set_option maxHeartbeats 60000000 in
set_option maxRecDepth 100000 in
theorem carillonref07_Get.calls (k : Nat) (aL ce cf cg ch ci cj ck cY cl bf bg bh bi bj bk bl bm bn bo bp bq br : Int) (A1 : Option Addr) (ev : Nat) (l1 : List Int) (a2 r1 r2 r3 r4 r5 r6 r7 r8 r9 h7 h8 h9 ia ib ic ie ig ih ii ij ik il im io ip : Int) (w : World) (HR1 : Kd.C (Kd.int .u8) w A1 l1.length l1) (HC1 : l1.length ≤ ev) (h : carillonref07_Get.f k aL ce cf cg ch ci cj ck cY cl bf bg bh bi bj bk bl bm bn bo bp bq br l1 a2 = some (r1, r2, r3, r4, r5, r6, r7, r8, r9, h7, h8, h9, ia, ib, ic, ie, ig, ih, ii, ij, ik, il, im, io, ip)) :
    Calls Try.prog 32 #[.agg #[.int .i64 aL, .int .i64 ce, .int .i64 cf, .int .i64 cg, .int .u64 ch, .int .i64 ci, .int .i64 cj, .int .i64 ck, .int .i64 cY, .int .u64 cl, .int .i64 bf, .int .i64 bg, .int .i64 bh, .int .i64 bi, .int .i64 bj, .int .i64 bk, .int .i64 bl, .int .u64 bm, .int .i64 bn, .int .i64 bo, .int .i64 bp, .int .i64 bq, .int .i64 br], .slice A1 l1.length ev, .int .i64 a2] w fun e w' => e = .returned (.tuple #[.agg #[.int .i64 r1, .int .i64 r2, .int .i64 r3, .int .i64 r4, .int .u64 r5, .int .i64 r6, .int .i64 r7, .int .i64 r8, .int .i64 r9, .int .u64 h7, .int .i64 h8, .int .i64 h9, .int .i64 ia, .int .i64 ib, .int .i64 ic, .int .i64 ie, .int .i64 ig, .int .u64 ih, .int .i64 ii, .int .i64 ij, .int .i64 ik, .int .i64 il, .int .i64 im], .int .i64 io, .int .i64 ip]) ∧ Below w.heap.size w w' := by
 have H := h
 clear h
 unfold carillonref07_Get.f at H
 refine calls_of_wp (fn := Try.f32) (by kernel_rfl) rfl ?_
 have hS := St.enter #[(carillonref07_Get.v0 aL ce cf cg ch ci cj ck cY cl bf bg bh bi bj bk bl bm bn bo bp bq br), .slice A1 l1.length ev, .int .i64 a2] 151 (by simp) [(0, (carillonref07_Get.v0 aL ce cf cg ch ci cj ck cY cl bf bg bh bi bj bk bl bm bn bo bp bq br)), (1, .slice A1 l1.length ev), (2, .int .i64 a2)] (by simp)
 have i1 := Below.refl w.heap.size w
 refine wp_seq_k (fun K1 jo => ?_)
 refine reg_seq_tail 1 (I := I1_ w) (ps := [IsB (carillonref07_Get.c1 aL ce cf cg ch ci cj ck cY cl bf bg bh bi bj bk bl bm bn bo bp bq br) 28 w.heap.size]) (by kernel_rfl) ?_ ?_ rfl hS i1 ?_ ?_
 ·exact bs1
 ·exact .cons (Stays.b _ _ _) (.nil)
 ·refine .on rfl (fun a w hS hI hp => does_var (x_box rfl (congrArg Value.cells (hS.get 0 rfl))) (hI).size) ?_
  exact .nil
 clear hS
 intro kt w3 hS en hp
 replace hS := ((hS.nil).cons (hS.get 2 rfl)).cons (hS.get 1 rfl)
 obtain ⟨g4, h5, e0, aD⟩ := (show IsB _ 28 _ (sl _ 3) _ from hp 0 (by decide))
 have hS := hS.cons h5
 clear hp h5
 show wpList _ _ _ [_, _, _] _ _
 refine list_step rfl (R := fun v w' => Below _ _ w' ∧ (IsB (carillonref07_Get.c1 0 0 0 0 0 0 0 0 0 0 0 0 0 0 0 0 0 0 0 0 0 0 0) 28 w3.heap.size) v w') (does_var (x_alloc rfl (by kernel_rfl)) ((bR w3)).size) ?_
 rintro kv w5 ⟨hb, he⟩
 have gU := below_step en hb
 have gC := below_step (bR w3) hb
 obtain ⟨g6, rfl, aP, aM⟩ := he
 have fP : g6 ≠ g4 := Nat.ne_of_gt (Nat.lt_of_lt_of_le (blk_lt (((bR w3).block g4 (blk_lt aD)).trans aD)) aP)
 refine hS.next (v := .pointer (some ⟨g6, 0, none⟩)) (d := 6) rfl (by decide) (by rfl) ?_
 clear hS
 intro ku hS
 refine list_step rfl (R := fun v w' => Below _ _ w' ∧ (VI 0) v w') (does_val (x_assign rfl (rfl)) rfl) ?_
 rintro jB w9 ⟨hb, he⟩
 have gV := below_step gU hb
 have gD := below_step gC hb
 have gE := below_step (bR w5) hb
 obtain rfl : jB = .int .i64 0 := he
 refine hS.next (v := .int .i64 0) (d := 7) rfl (by decide) (by rfl) ?_
 clear hS
 intro j9 hS
 refine list_step rfl (R := fun v w' => Below _ _ w' ∧ (VI 0) v w') (does_val (x_assign rfl (rfl)) rfl) ?_
 rintro iR eY ⟨hb, he⟩
 have dW := below_step gV hb
 have dF := below_step gD hb
 have dG := below_step gE hb
 have iG := below_step (bR w9) hb
 obtain rfl : iR = .int .i64 0 := he
 refine hS.next (v := .int .i64 0) (d := 8) rfl (by decide) (by rfl) ?_
 clear hS
 intro ka hS
 refine wpList_nil ?_
 refine jo _ _ ?_
 refine wp_seq_k (fun km iK => ?_)
 by_cases c1 : a2 < 0
 ·rw [if_pos c1] at H
  simp only [Option.some.injEq, Prod.mk.injEq] at H
  obtain ⟨rfl, rfl, rfl, rfl, rfl, rfl, rfl, rfl, rfl, rfl, rfl, rfl, rfl, rfl, rfl, rfl, rfl, rfl, rfl, rfl, rfl, rfl, rfl, rfl, rfl⟩ := H
  refine wp_seq_k (fun i2 eZ => ?_)
  refine reg_seq (I := I4_ w w3 w5 eY) (ps := [VI a2, VB (decide (a2 < 0)), VB (decide (a2 < 0)), VU, VU, VU, VU, VB true, VB true, VU, VU, VU, VU, VU, VU, VU, VU, VB true]) (by kernel_rfl) ?_ ?_ rfl hS ⟨dW, dF, dG, (bR eY)⟩ ?_ ?_
  ·exact bs4
  ·exact .v (.v (.v (.v (.v (.v (.v (.v (.v (.v (.v (.v (.v (.v (.v (.v (.v (.v (.nil))))))))))))))))))
  ·refine .ms 5 rfl rfl rfl ?_
   refine .on rfl (fun a w hS hI hp => does_val (x_bin rfl (hp.V 0 rfl rfl) (rfl) (b_lss _ _ _ _ _ _)) rfl) ?_
   refine .mv 1 rfl rfl rfl ?_
   iterate 4 refine .sn 2 14 rfl rfl ((decide_eq_true c1)) ?_
   refine .on rfl (fun a w hS hI hp => does_val (x_pickT rfl ((hp.V 2 rfl rfl).trans (bT (decide_eq_true c1))) (rfl)) rfl) ?_
   refine .mv 7 rfl rfl rfl ?_
   iterate 8 refine .sn 8 20 rfl rfl rfl ?_
   refine .on rfl (fun a w hS hI hp => does_val (x_pickT rfl ((hp.V 8 rfl rfl).trans (bT rfl)) (rfl)) rfl) ?_
   exact .nil
  clear hS
  intro iy fE hS dI hp
  replace hS := ((((hS.nil).cons (hS.get 5 rfl)).cons (hS.get 4 rfl)).cons (hS.get 3 rfl)).cons (hS.get 2 rfl)
  have dh : sl _ 29 = .bool true := hp 17 (by decide)
  have hS := hS.cons dh
  clear hp dh
  refine eZ _ _ ?_
  refine wp_cond_true ((hS.get 0 rfl).trans (bT rfl)) ?_
  refine wp_seq_k (fun i3 fL => ?_)
  refine reg_seq_tail 1 (I := I4_ w w3 w5 fE) (ps := [IsV ((carillonref07_Get.v0 0 0 0 0 0 0 0 0 0 0 0 0 0 0 0 0 0 0 0 0 0 0 0))]) (by kernel_rfl) ?_ ?_ rfl hS ⟨dI.1, dI.2.1, dI.2.2.1, (bR fE)⟩ ?_ ?_
  ·exact bs4
  ·exact .v (.nil)
  ·refine .on rfl (fun a w hS hI hp => does_val (x_build (vs := []) rfl (by rw [Array.toList_map]; exact (show [] = _ from rfl)) (by kernel_rfl)) rfl) ?_
   exact .nil
  clear hS
  intro iz jC hS cb hp
  replace hS := (hS.nil).cons (hS.get 1 rfl)
  have di : sl _ 30 = (carillonref07_Get.v0 0 0 0 0 0 0 0 0 0 0 0 0 0 0 0 0 0 0 0 0 0 0 0) := hp 0 (by decide)
  have hS := hS.cons di
  clear hp di
  show wpList _ _ _ [_, _, _] _ _
  refine list_step rfl (does_storeAll (g := g6) (cs := (carillonref07_Get.c1 0 0 0 0 0 0 0 0 0 0 0 0 0 0 0 0 0 0 0 0 0 0 0)) rfl (hS.get 1 rfl) (hS.get 0 rfl) ((cb.2.2.1.block g6 (blk_lt aM)).trans aM) (by kernel_rfl) (by kernel_rfl) (by kernel_rfl)) ?_
  rintro iS gf ⟨rfl, db, hT⟩
  have dX := hT.below cb.1 (Nat.le_trans (en).size aP) (cb.1).size
  have dH := hT.below cb.2.1 aP (cb.2.1).size
  clear hT
  refine list_step rfl (R := fun v w' => Below _ _ w' ∧ (VI 0) v w') (does_val (x_assign rfl (rfl)) rfl) ?_
  rintro e2 eo ⟨hb, he⟩
  have co := below_step dX hb
  have b9 := below_step dH hb
  have c0 := below_step (bR gf) hb
  obtain rfl : e2 = .int .i64 0 := he
  refine hS.next (v := .int .i64 0) (d := 7) rfl (by decide) (by rfl) ?_
  clear hS
  intro iA hS
  refine list_step rfl (R := fun v w' => Below _ _ w' ∧ (VI 2) v w') (does_val (x_assign rfl (rfl)) rfl) ?_
  rintro fS jE ⟨hb, he⟩
  have dY := below_step co hb
  have fG := below_step b9 hb
  have da := below_step c0 hb
  have fe := below_step (bR eo) hb
  obtain rfl : fS = .int .i64 2 := he
  refine hS.next (v := .int .i64 2) (d := 8) rfl (by decide) (by rfl) ?_
  clear hS
  intro iB hS
  refine wpList_nil ?_
  refine fL _ _ ?_
  refine wp_ret ?_
  (try simp only [Exit.then, Exit.inBlock, Exit.jump, Exit.noGoto])
  exact bodyPost_ret (v := .tuple #[(carillonref07_Get.v0 0 0 0 0 0 0 0 0 0 0 0 0 0 0 0 0 0 0 0 0 0 0 0), .int .i64 0, .int .i64 2]) (results_list (rs := [.cell 6 28, .tmp 7, .tmp 8]) rfl (by simp) (Vals.cell g6 28 (carillonref07_Get.c1 0 0 0 0 0 0 0 0 0 0 0 0 0 0 0 0 0 0 0 0 0 0 0) (0, 0) _ (hS.get 3 rfl) ((da.block g6 (blk_lt db)).trans db) Try.underlying28 rfl (by kernel_rfl) (Vals.at (hS.get 1 rfl) (Vals.at (hS.get 0 rfl) .nil)))) hS.nodef ⟨rfl, dY⟩
 rw [if_neg c1] at H
 refine wp_seq_k (fun i2 eZ => ?_)
 by_cases c2 : a2 > (l1.length : Int)
 ·rw [if_pos c2] at H
  simp only [Option.some.injEq, Prod.mk.injEq] at H
  obtain ⟨rfl, rfl, rfl, rfl, rfl, rfl, rfl, rfl, rfl, rfl, rfl, rfl, rfl, rfl, rfl, rfl, rfl, rfl, rfl, rfl, rfl, rfl, rfl, rfl, rfl⟩ := H
  refine reg_seq (I := I4_ w w3 w5 eY) (ps := [VI a2, VB (decide (a2 < 0)), VB (decide (a2 < 0)), VI a2, IsV (.slice A1 l1.length ev), VI (l1.length : Int), VB (decide (a2 > (l1.length : Int))), VB (decide (a2 > (l1.length : Int))), VB (decide (a2 > (l1.length : Int))), VU, VU, VU, VU, VU, VU, VU, VU, VB true]) (by kernel_rfl) ?_ ?_ rfl hS ⟨dW, dF, dG, (bR eY)⟩ ?_ ?_
  ·exact bs4
  ·exact .v (.v (.v (.v (.v (.v (.v (.v (.v (.v (.v (.v (.v (.v (.v (.v (.v (.v (.nil))))))))))))))))))
  ·refine .ms 5 rfl rfl rfl ?_
   refine .on rfl (fun a w hS hI hp => does_val (x_bin rfl (hp.V 0 rfl rfl) (rfl) (b_lss _ _ _ _ _ _)) rfl) ?_
   refine .mv 1 rfl rfl rfl ?_
   refine .oy 2 14 rfl rfl ((decide_eq_false c1)) (fun a w hS hI hp => does_val (x_move rfl (hS.get 5 rfl)) rfl) ?_
   refine .oy 2 14 rfl rfl ((decide_eq_false c1)) (fun a w hS hI hp => does_val (x_move rfl (hS.get 4 rfl)) rfl) ?_
   refine .oy 2 14 rfl rfl ((decide_eq_false c1)) (fun a w hS hI hp => does_val (x_len (e := 5) rfl (by kernel_rfl) (hp.V 4 rfl rfl)) rfl) ?_
   refine .oy 2 14 rfl rfl ((decide_eq_false c1)) (fun a w hS hI hp => does_val (x_bin rfl (hp.V 3 rfl rfl) (hp.V 5 rfl rfl) (b_gtr _ _ _ _ _ _)) rfl) ?_
   refine .on rfl (fun a w hS hI hp => does_val (x_pickF rfl ((hp.V 2 rfl rfl).trans (bF (decide_eq_false c1))) (hp.V 6 rfl rfl)) rfl) ?_
   refine .mv 7 rfl rfl rfl ?_
   iterate 8 refine .sn 8 20 rfl rfl ((decide_eq_true c2)) ?_
   refine .on rfl (fun a w hS hI hp => does_val (x_pickT rfl ((hp.V 8 rfl rfl).trans (bT (decide_eq_true c2))) (rfl)) rfl) ?_
   exact .nil
  clear hS
  intro iy fE hS dI hp
  replace hS := ((((hS.nil).cons (hS.get 5 rfl)).cons (hS.get 4 rfl)).cons (hS.get 3 rfl)).cons (hS.get 2 rfl)
  have dh : sl _ 29 = .bool true := hp 17 (by decide)
  have hS := hS.cons dh
  clear hp dh
  refine eZ _ _ ?_
  refine wp_cond_true ((hS.get 0 rfl).trans (bT rfl)) ?_
  refine wp_seq_k (fun i3 fL => ?_)
  refine reg_seq_tail 1 (I := I4_ w w3 w5 fE) (ps := [IsV ((carillonref07_Get.v0 0 0 0 0 0 0 0 0 0 0 0 0 0 0 0 0 0 0 0 0 0 0 0))]) (by kernel_rfl) ?_ ?_ rfl hS ⟨dI.1, dI.2.1, dI.2.2.1, (bR fE)⟩ ?_ ?_
  ·exact bs4
  ·exact .v (.nil)
  ·refine .on rfl (fun a w hS hI hp => does_val (x_build (vs := []) rfl (by rw [Array.toList_map]; exact (show [] = _ from rfl)) (by kernel_rfl)) rfl) ?_
   exact .nil
  clear hS
  intro iz jC hS cb hp
  replace hS := (hS.nil).cons (hS.get 1 rfl)
  have di : sl _ 30 = (carillonref07_Get.v0 0 0 0 0 0 0 0 0 0 0 0 0 0 0 0 0 0 0 0 0 0 0 0) := hp 0 (by decide)
  have hS := hS.cons di
  clear hp di
  show wpList _ _ _ [_, _, _] _ _
  refine list_step rfl (does_storeAll (g := g6) (cs := (carillonref07_Get.c1 0 0 0 0 0 0 0 0 0 0 0 0 0 0 0 0 0 0 0 0 0 0 0)) rfl (hS.get 1 rfl) (hS.get 0 rfl) ((cb.2.2.1.block g6 (blk_lt aM)).trans aM) (by kernel_rfl) (by kernel_rfl) (by kernel_rfl)) ?_
  rintro iS gf ⟨rfl, db, hT⟩
  have dX := hT.below cb.1 (Nat.le_trans (en).size aP) (cb.1).size
  have dH := hT.below cb.2.1 aP (cb.2.1).size
  clear hT
  refine list_step rfl (R := fun v w' => Below _ _ w' ∧ (VI 0) v w') (does_val (x_assign rfl (rfl)) rfl) ?_
  rintro e2 eo ⟨hb, he⟩
  have co := below_step dX hb
  have b9 := below_step dH hb
  have c0 := below_step (bR gf) hb
  obtain rfl : e2 = .int .i64 0 := he
  refine hS.next (v := .int .i64 0) (d := 7) rfl (by decide) (by rfl) ?_
  clear hS
  intro iA hS
  refine list_step rfl (R := fun v w' => Below _ _ w' ∧ (VI 2) v w') (does_val (x_assign rfl (rfl)) rfl) ?_
  rintro fS jE ⟨hb, he⟩
  have dY := below_step co hb
  have fG := below_step b9 hb
  have da := below_step c0 hb
  have fe := below_step (bR eo) hb
  obtain rfl : fS = .int .i64 2 := he
  refine hS.next (v := .int .i64 2) (d := 8) rfl (by decide) (by rfl) ?_
  clear hS
  intro iB hS
  refine wpList_nil ?_
  refine fL _ _ ?_
  refine wp_ret ?_
  (try simp only [Exit.then, Exit.inBlock, Exit.jump, Exit.noGoto])
  exact bodyPost_ret (v := .tuple #[(carillonref07_Get.v0 0 0 0 0 0 0 0 0 0 0 0 0 0 0 0 0 0 0 0 0 0 0 0), .int .i64 0, .int .i64 2]) (results_list (rs := [.cell 6 28, .tmp 7, .tmp 8]) rfl (by simp) (Vals.cell g6 28 (carillonref07_Get.c1 0 0 0 0 0 0 0 0 0 0 0 0 0 0 0 0 0 0 0 0 0 0 0) (0, 0) _ (hS.get 3 rfl) ((da.block g6 (blk_lt db)).trans db) Try.underlying28 rfl (by kernel_rfl) (Vals.at (hS.get 1 rfl) (Vals.at (hS.get 0 rfl) .nil)))) hS.nodef ⟨rfl, dY⟩
 rw [if_neg c2] at H
 obtain ⟨eX, it, H⟩ := Option.bind_eq_some_iff.mp H
 refine reg_seq (I := I4_ w w3 w5 eY) (ps := [VI a2, VB (decide (a2 < 0)), VB (decide (a2 < 0)), VI a2, IsV (.slice A1 l1.length ev), VI (l1.length : Int), VB (decide (a2 > (l1.length : Int))), VB (decide (a2 > (l1.length : Int))), VB (decide (a2 > (l1.length : Int))), VP g4 0, VI aL, VI eX, IsV (.slice A1 l1.length ev), VI (l1.length : Int), VI a2, VI (wrap64 ((l1.length : Int) - a2)), VB (decide (eX > (wrap64 ((l1.length : Int) - a2)))), VB (decide (eX > (wrap64 ((l1.length : Int) - a2))))]) (by kernel_rfl) ?_ ?_ rfl hS ⟨dW, dF, dG, (bR eY)⟩ ?_ ?_
 ·exact bs4
 ·exact .v (.v (.v (.v (.v (.v (.v (.v (.v (.v (.v (.v (.v (.v (.v (.v (.v (.v (.nil))))))))))))))))))
 ·refine .ms 5 rfl rfl rfl ?_
  refine .on rfl (fun a w hS hI hp => does_val (x_bin rfl (hp.V 0 rfl rfl) (rfl) (b_lss _ _ _ _ _ _)) rfl) ?_
  refine .mv 1 rfl rfl rfl ?_
  refine .oy 2 14 rfl rfl ((decide_eq_false c1)) (fun a w hS hI hp => does_val (x_move rfl (hS.get 5 rfl)) rfl) ?_
  refine .oy 2 14 rfl rfl ((decide_eq_false c1)) (fun a w hS hI hp => does_val (x_move rfl (hS.get 4 rfl)) rfl) ?_
  refine .oy 2 14 rfl rfl ((decide_eq_false c1)) (fun a w hS hI hp => does_val (x_len (e := 5) rfl (by kernel_rfl) (hp.V 4 rfl rfl)) rfl) ?_
  refine .oy 2 14 rfl rfl ((decide_eq_false c1)) (fun a w hS hI hp => does_val (x_bin rfl (hp.V 3 rfl rfl) (hp.V 5 rfl rfl) (b_gtr _ _ _ _ _ _)) rfl) ?_
  refine .on rfl (fun a w hS hI hp => does_val (x_pickF rfl ((hp.V 2 rfl rfl).trans (bF (decide_eq_false c1))) (hp.V 6 rfl rfl)) rfl) ?_
  refine .mv 7 rfl rfl rfl ?_
  refine .oy 8 20 rfl rfl ((decide_eq_false c2)) (fun a w hS hI hp => does_val (x_fieldE (b := 0) rfl (hS.get 3 rfl) Try.underlying28 rfl rfl (by kernel_rfl)) rfl) ?_
  refine .oy 8 20 rfl rfl ((decide_eq_false c2)) (fun a w hS hI hp => does_val (x_load1 (d := .int .i64) rfl (hp.V 9 rfl rfl) (by kernel_rfl) rfl ((blk_cell (((hI.2.1).block g4 (blk_lt aD)).trans aD) 0).trans rfl)) rfl) ?_
  refine .oy 8 20 rfl rfl ((decide_eq_false c2)) (fun a w hS hI hp => does_call (by kernel_rfl) (ar1 (hp.V 10 rfl rfl)) ((carillonref07_Len.calls k aL eX _  it).mono fun _ _ h => ⟨_, h.1, h.2.below, rfl⟩)) ?_
  refine .oy 8 20 rfl rfl ((decide_eq_false c2)) (fun a w hS hI hp => does_val (x_move rfl (hS.get 4 rfl)) rfl) ?_
  refine .oy 8 20 rfl rfl ((decide_eq_false c2)) (fun a w hS hI hp => does_val (x_len (e := 5) rfl (by kernel_rfl) (hp.V 12 rfl rfl)) rfl) ?_
  refine .oy 8 20 rfl rfl ((decide_eq_false c2)) (fun a w hS hI hp => does_val (x_move rfl (hS.get 5 rfl)) rfl) ?_
  refine .oy 8 20 rfl rfl ((decide_eq_false c2)) (fun a w hS hI hp => does_val (x_bin rfl (hp.V 13 rfl rfl) (hp.V 14 rfl rfl) (b_sub _ _ _ _ _)) rfl) ?_
  refine .oy 8 20 rfl rfl ((decide_eq_false c2)) (fun a w hS hI hp => does_val (x_bin rfl (hp.V 11 rfl rfl) (hp.V 15 rfl rfl) (b_gtr _ _ _ _ _ _)) rfl) ?_
  refine .on rfl (fun a w hS hI hp => does_val (x_pickF rfl ((hp.V 8 rfl rfl).trans (bF (decide_eq_false c2))) (hp.V 16 rfl rfl)) rfl) ?_
  exact .nil
 clear hS
 intro kb ge hS d0 hp
 replace hS := ((((hS.nil).cons (hS.get 5 rfl)).cons (hS.get 4 rfl)).cons (hS.get 3 rfl)).cons (hS.get 2 rfl)
 have dh : sl _ 29 = .bool (decide (eX > (wrap64 ((l1.length : Int) - a2)))) := hp 17 (by decide)
 have hS := hS.cons dh
 clear hp dh
 refine eZ _ _ ?_
 by_cases c3 : eX > (wrap64 ((l1.length : Int) - a2))
 ·rw [if_pos c3] at H
  simp only [Option.some.injEq, Prod.mk.injEq] at H
  obtain ⟨rfl, rfl, rfl, rfl, rfl, rfl, rfl, rfl, rfl, rfl, rfl, rfl, rfl, rfl, rfl, rfl, rfl, rfl, rfl, rfl, rfl, rfl, rfl, rfl, rfl⟩ := H
  refine wp_cond_true ((hS.get 0 rfl).trans (bT (decide_eq_true c3))) ?_
  refine wp_seq_k (fun i4 fM => ?_)
  refine reg_seq_tail 1 (I := I4_ w w3 w5 ge) (ps := [IsV ((carillonref07_Get.v0 0 0 0 0 0 0 0 0 0 0 0 0 0 0 0 0 0 0 0 0 0 0 0))]) (by kernel_rfl) ?_ ?_ rfl hS ⟨d0.1, d0.2.1, d0.2.2.1, (bR ge)⟩ ?_ ?_
  ·exact bs4
  ·exact .v (.nil)
  ·refine .on rfl (fun a w hS hI hp => does_val (x_build (vs := []) rfl (by rw [Array.toList_map]; exact (show [] = _ from rfl)) (by kernel_rfl)) rfl) ?_
   exact .nil
  clear hS
  intro kc gf hS eI hp
  replace hS := (hS.nil).cons (hS.get 1 rfl)
  have di : sl _ 30 = (carillonref07_Get.v0 0 0 0 0 0 0 0 0 0 0 0 0 0 0 0 0 0 0 0 0 0 0 0) := hp 0 (by decide)
  have hS := hS.cons di
  clear hp di
  show wpList _ _ _ [_, _, _] _ _
  refine list_step rfl (does_storeAll (g := g6) (cs := (carillonref07_Get.c1 0 0 0 0 0 0 0 0 0 0 0 0 0 0 0 0 0 0 0 0 0 0 0)) rfl (hS.get 1 rfl) (hS.get 0 rfl) ((eI.2.2.1.block g6 (blk_lt aM)).trans aM) (by kernel_rfl) (by kernel_rfl) (by kernel_rfl)) ?_
  rintro e2 eo ⟨rfl, fo, hT⟩
  have co := hT.below eI.1 (Nat.le_trans (en).size aP) (eI.1).size
  have b9 := hT.below eI.2.1 aP (eI.2.1).size
  clear hT
  refine list_step rfl (R := fun v w' => Below _ _ w' ∧ (VI 0) v w') (does_val (x_assign rfl (rfl)) rfl) ?_
  rintro iT jD ⟨hb, he⟩
  have gu := below_step co hb
  have fF := below_step b9 hb
  have fd := below_step (bR eo) hb
  obtain rfl : iT = .int .i64 0 := he
  refine hS.next (v := .int .i64 0) (d := 7) rfl (by decide) (by rfl) ?_
  clear hS
  intro ke hS
  refine list_step rfl (R := fun v w' => Below _ _ w' ∧ (VI 2) v w') (does_val (x_assign rfl (rfl)) rfl) ?_
  rintro iU kw ⟨hb, he⟩
  have gv := below_step gu hb
  have iH := below_step fF hb
  have ff := below_step fd hb
  have h0 := below_step (bR jD) hb
  obtain rfl : iU = .int .i64 2 := he
  refine hS.next (v := .int .i64 2) (d := 8) rfl (by decide) (by rfl) ?_
  clear hS
  intro iC hS
  refine wpList_nil ?_
  refine fM _ _ ?_
  refine wp_ret ?_
  (try simp only [Exit.then, Exit.inBlock, Exit.jump, Exit.noGoto])
  exact bodyPost_ret (v := .tuple #[(carillonref07_Get.v0 0 0 0 0 0 0 0 0 0 0 0 0 0 0 0 0 0 0 0 0 0 0 0), .int .i64 0, .int .i64 2]) (results_list (rs := [.cell 6 28, .tmp 7, .tmp 8]) rfl (by simp) (Vals.cell g6 28 (carillonref07_Get.c1 0 0 0 0 0 0 0 0 0 0 0 0 0 0 0 0 0 0 0 0 0 0 0) (0, 0) _ (hS.get 3 rfl) ((ff.block g6 (blk_lt fo)).trans fo) Try.underlying28 rfl (by kernel_rfl) (Vals.at (hS.get 1 rfl) (Vals.at (hS.get 0 rfl) .nil)))) hS.nodef ⟨rfl, gv⟩
 rw [if_neg c3] at H
 obtain ⟨eK, iu, H⟩ := Option.bind_eq_some_iff.mp H
 obtain ⟨fD, iv, H⟩ := Option.bind_eq_some_iff.mp H
 refine wp_cond_false ((hS.get 0 rfl).trans (bF (decide_eq_false c3))) ?_
 refine wp_skip ?_
 refine iK _ _ ?_
 refine wp_seq_k (fun i4 fM => ?_)
 refine reg_seq (I := I4_ w w3 w5 ge) (ps := [VI a2, VP g4 0, VI aL, VI eK, VI (wrap64 (a2 + eK)), VI (wrap64 (a2 + eK))]) (by kernel_rfl) ?_ ?_ rfl hS ⟨d0.1, d0.2.1, d0.2.2.1, (bR ge)⟩ ?_ ?_
 ·exact bs4
 ·exact .v (.v (.v (.v (.v (.v (.nil))))))
 ·refine .ms 4 rfl rfl rfl ?_
  refine .on rfl (fun a w hS hI hp => does_val (x_fieldE (b := 0) rfl (hS.get 2 rfl) Try.underlying28 rfl rfl (by kernel_rfl)) rfl) ?_
  refine .on rfl (fun a w hS hI hp => does_val (x_load1 (d := .int .i64) rfl (hp.V 1 rfl rfl) (by kernel_rfl) rfl ((blk_cell (((hI.2.1).block g4 (blk_lt aD)).trans aD) 0).trans rfl)) rfl) ?_
  refine .on rfl (fun a w hS hI hp => does_call (by kernel_rfl) (ar1 (hp.V 2 rfl rfl)) ((carillonref07_Len.calls k aL eK _  iu).mono fun _ _ h => ⟨_, h.1, h.2.below, rfl⟩)) ?_
  refine .on rfl (fun a w hS hI hp => does_val (x_bin rfl (hp.V 0 rfl rfl) (hp.V 3 rfl rfl) (b_add _ _ _ _ _)) rfl) ?_
  refine .asg 4 rfl rfl rfl ?_
  exact .nil
 clear hS
 intro kd eo hS fQ hp
 replace hS := ((((hS.nil).cons (hS.get 4 rfl)).cons (hS.get 3 rfl)).cons (hS.get 2 rfl)).cons (hS.get 1 rfl)
 have h6 : sl _ 9 = .int .i64 (wrap64 (a2 + eK)) := hp 5 (by decide)
 have hS := hS.cons h6
 clear hp h6
 refine fM _ _ ?_
 refine wp_seq_k (fun kn iL => ?_)
 refine wp_seq_k (fun ko iM => ?_)
 refine reg_seq (I := I4_ w w3 w5 eo) (ps := [VP g4 0, VI aL, VB fD, VB (!fD)]) (by kernel_rfl) ?_ ?_ rfl hS ⟨fQ.1, fQ.2.1, fQ.2.2.1, (bR eo)⟩ ?_ ?_
 ·exact bs4
 ·exact .v (.v (.v (.v (.nil))))
 ·refine .on rfl (fun a w hS hI hp => does_val (x_fieldE (b := 0) rfl (hS.get 2 rfl) Try.underlying28 rfl rfl (by kernel_rfl)) rfl) ?_
  refine .on rfl (fun a w hS hI hp => does_val (x_load1 (d := .int .i64) rfl (hp.V 0 rfl rfl) (by kernel_rfl) rfl ((blk_cell (((hI.2.1).block g4 (blk_lt aD)).trans aD) 0).trans rfl)) rfl) ?_
  refine .on rfl (fun a w hS hI hp => does_call (by kernel_rfl) (ar1 (hp.V 1 rfl rfl)) ((carillonref06_Known.calls aL fD _  iv).mono fun _ _ h => ⟨_, h.1, h.2.below, rfl⟩)) ?_
  refine .on rfl (fun a w hS hI hp => does_val (x_not rfl (hp.V 2 rfl rfl)) rfl) ?_
  exact .nil
 clear hS
 intro iC gq hS d1 hp
 have hi : sl _ 39 = .bool (!fD) := hp 3 (by decide)
 have hS := hS.cons hi
 clear hp hi
 refine iM _ _ ?_
 by_cases c4 : fD = true
 rotate_left
 ·rw [if_neg c4] at H
  simp only [Option.some.injEq, Prod.mk.injEq] at H
  obtain ⟨rfl, rfl, rfl, rfl, rfl, rfl, rfl, rfl, rfl, rfl, rfl, rfl, rfl, rfl, rfl, rfl, rfl, rfl, rfl, rfl, rfl, rfl, rfl, rfl, rfl⟩ := H
  refine wp_cond_true ((hS.get 0 rfl).trans (bT (congrArg (!·) (Bool.eq_false_iff.2 c4)))) ?_
  refine wp_seq_k (fun hZ fN => ?_)
  refine reg_seq_tail 2 (I := I4_ w w3 w5 gq) (ps := [IsV ((carillonref07_Get.v0 aL ce cf cg ch ci cj ck cY cl bf bg bh bi bj bk bl bm bn bo bp bq br)), VI a2]) (by kernel_rfl) ?_ ?_ rfl hS ⟨d1.1, d1.2.1, d1.2.2.1, (bR gq)⟩ ?_ ?_
  ·exact bs4
  ·exact .v (.v (.nil))
  ·refine .on rfl (fun a w hS hI hp => does_loadrow rfl (hS.get 3 rfl) (((hI.2.1).block g4 (blk_lt aD)).trans aD) Try.underlying28 rfl (by kernel_rfl) rfl) ?_
   refine .ms 5 rfl rfl rfl ?_
   exact .nil
  clear hS
  intro kf kx hS eJ hp
  replace hS := (hS.nil).cons (hS.get 2 rfl)
  have hj : sl _ 40 = (carillonref07_Get.v0 aL ce cf cg ch ci cj ck cY cl bf bg bh bi bj bk bl bm bn bo bp bq br) := hp 0 (by decide)
  have hk : sl _ 41 = .int .i64 a2 := hp 1 (by decide)
  have hS := hS.cons hj
  have hS := hS.cons hk
  clear hp hj hk
  show wpList _ _ _ [_, _, _] _ _
  refine list_step rfl (does_storeAll (g := g6) (cs := (carillonref07_Get.c1 aL ce cf cg ch ci cj ck cY cl bf bg bh bi bj bk bl bm bn bo bp bq br)) rfl (hS.get 2 rfl) (hS.get 1 rfl) ((eJ.2.2.1.block g6 (blk_lt aM)).trans aM) (by kernel_rfl) (by kernel_rfl) (by kernel_rfl)) ?_
  rintro kl jF ⟨rfl, fp, hT⟩
  have gw := hT.below eJ.1 (Nat.le_trans (en).size aP) (eJ.1).size
  have fH := hT.below eJ.2.1 aP (eJ.2.1).size
  clear hT
  refine list_step rfl (R := fun v w' => Below _ _ w' ∧ (VI a2) v w') (does_val (x_assign rfl (hS.get 0 rfl)) rfl) ?_
  rintro iV gr ⟨hb, he⟩
  have gx := below_step gw hb
  have fI := below_step fH hb
  have fj := below_step (bR jF) hb
  obtain rfl : iV = .int .i64 a2 := he
  refine hS.next (v := .int .i64 a2) (d := 7) rfl (by decide) (by rfl) ?_
  clear hS
  intro kh hS
  refine list_step rfl (R := fun v w' => Below _ _ w' ∧ (VI 0) v w') (does_val (x_assign rfl (rfl)) rfl) ?_
  rintro iW ky ⟨hb, he⟩
  have gy := below_step gx hb
  have iI := below_step fI hb
  have fk := below_step fj hb
  have h1 := below_step (bR gr) hb
  obtain rfl : iW = .int .i64 0 := he
  refine hS.next (v := .int .i64 0) (d := 8) rfl (by decide) (by rfl) ?_
  clear hS
  intro iD hS
  refine wpList_nil ?_
  refine fN _ _ ?_
  refine wp_ret ?_
  (try simp only [Exit.then, Exit.inBlock, Exit.jump, Exit.noGoto])
  exact bodyPost_ret (v := .tuple #[(carillonref07_Get.v0 aL ce cf cg ch ci cj ck cY cl bf bg bh bi bj bk bl bm bn bo bp bq br), .int .i64 a2, .int .i64 0]) (results_list (rs := [.cell 6 28, .tmp 7, .tmp 8]) rfl (by simp) (Vals.cell g6 28 (carillonref07_Get.c1 aL ce cf cg ch ci cj ck cY cl bf bg bh bi bj bk bl bm bn bo bp bq br) (0, 0) _ (hS.get 4 rfl) ((fk.block g6 (blk_lt fp)).trans fp) Try.underlying28 rfl (by kernel_rfl) (Vals.at (hS.get 1 rfl) (Vals.at (hS.get 0 rfl) .nil)))) hS.nodef ⟨rfl, gy⟩
 rw [if_pos c4] at H
 refine wp_cond_false ((hS.get 0 rfl).trans (bF (congrArg (!·) c4))) ?_
 refine wp_skip ?_
 refine iL _ _ ?_
 refine wp_seq_k (fun hZ fN => ?_)
 have J1 : ∀ (gQ : Act) (ep : World) (cn : List Int) (dx : Option Addr) (dy : Nat) (be bu cp cq cr ct cu cv cw cx dV dE bI bJ bK bL bM bN bO bP bQ bS bU bV : Int) (aG : Nat) (dm dn dp dq dr ds dt du dv dw cy cz cA cB cC cD cE cF cG cH cI cJ cK : Int) (bs : Nat) (eM : Int), carillonref07_Get.j1 k cn be bu cp cq cr ct cu cv cw cx dV dE bI bJ bK bL bM bN bO bP bQ bS bU bV dm dn dp dq dr ds dt du dv dw cy cz cA cB cC cD cE cF cG cH cI cJ cK eM = some (r1, r2, r3, r4, r5, r6, r7, r8, r9, h7, h8, h9, ia, ib, ic, ie, ig, ih, ii, ij, ik, il, im, io, ip) → St 151 [(1, .slice dx cn.length dy), (2, .int .i64 be), (3, .pointer (some ⟨aG, 0, none⟩)), (6, .pointer (some ⟨bs, 0, none⟩)), (9, .int .i64 eM)] gQ → Below w.heap.size w ep → cn.length ≤ dy → Kd.C (Kd.int .u8) w dx cn.length cn → w.heap.size ≤ aG → ep.heap[aG]? = some (.cells (carillonref07_Get.c1 bu cp cq cr ct cu cv cw cx dV dE bI bJ bK bL bM bN bO bP bQ bS bU bV) 28 (0, 0)) → w.heap.size ≤ bs → ep.heap[bs]? = some (.cells (carillonref07_Get.c1 dm dn dp dq dr ds dt du dv dw cy cz cA cB cC cD cE cF cG cH cI cJ cK) 28 (0, 0)) → bs ≠ aG → hZ gQ ep := by
  intro gQ ep cn dx dy be bu cp cq cr ct cu cv cw cx dV dE bI bJ bK bL bM bN bO bP bQ bS bU bV aG dm dn dp dq dr ds dt du dv dw cy cz cA cB cC cD cE cF cG cH cI cJ cK bs eM H hS gF e1 eH dd aT em cc dg
  unfold carillonref07_Get.j1 at H
  (try dsimp only at H)
  refine fN _ _ ?_
  refine wp_seq_k (fun hL gW => ?_)
  have J2 : ∀ (gR : Act) (dl : World) (ab : List Int) (aN : Option Addr) (aO : Nat) (aa ad al am an ao ap aq ar au av ag aX aR aI aJ aK aE aB aw aj aC ax ak : Int) (ac : Nat) (cL cM cN cO cP cQ cR cS cT cU bW bX bY bZ b0 b1 b2 b3 b4 b5 b6 b7 b8 : Int) (ah : Nat) (d4 : Int), carillonref07_Get.j2 k ab aa ad al am an ao ap aq ar au av ag aX aR aI aJ aK aE aB aw aj aC ax ak cL cM cN cO cP cQ cR cS cT cU bW bX bY bZ b0 b1 b2 b3 b4 b5 b6 b7 b8 d4 = some (r1, r2, r3, r4, r5, r6, r7, r8, r9, h7, h8, h9, ia, ib, ic, ie, ig, ih, ii, ij, ik, il, im, io, ip) → St 151 [(1, .slice aN ab.length aO), (2, .int .i64 aa), (3, .pointer (some ⟨ac, 0, none⟩)), (6, .pointer (some ⟨ah, 0, none⟩)), (9, .int .i64 d4)] gR → Below w.heap.size w dl → ab.length ≤ aO → Kd.C (Kd.int .u8) w aN ab.length ab → w.heap.size ≤ ac → dl.heap[ac]? = some (.cells (carillonref07_Get.c1 ad al am an ao ap aq ar au av ag aX aR aI aJ aK aE aB aw aj aC ax ak) 28 (0, 0)) → w.heap.size ≤ ah → dl.heap[ah]? = some (.cells (carillonref07_Get.c1 cL cM cN cO cP cQ cR cS cT cU bW bX bY bZ b0 b1 b2 b3 b4 b5 b6 b7 b8) 28 (0, 0)) → ah ≠ ac → hL gR dl := by
   intro gR dl ab aN aO aa ad al am an ao ap aq ar au av ag aX aR aI aJ aK aE aB aw aj aC ax ak ac cL cM cN cO cP cQ cR cS cT cU bW bX bY bZ b0 b1 b2 b3 b4 b5 b6 b7 b8 ah d4 H hS gG es aS ae aF de aU af
   unfold carillonref07_Get.j2 at H
   (try dsimp only at H)
   refine gW _ _ ?_
   refine wp_seq_k (fun hM gZ => ?_)
   have J3 : ∀ (gS : Act) (eL : World) (bv bw bx bz bA bB bC bD bE bG aY aZ a0 a1 a3 a4 a5 a6 a7 a8 a9 ba bb : Int) (cV : Nat) (eN eO eP eQ eR eS eT eU eV eW d5 d6 d7 d8 d9 ea eb ec ed ee ef eg eh : Int) (bH : Nat) (cW : Int), carillonref07_Get.j3 k bv bw bx bz bA bB bC bD bE bG aY aZ a0 a1 a3 a4 a5 a6 a7 a8 a9 ba bb eN eO eP eQ eR eS eT eU eV eW d5 d6 d7 d8 d9 ea eb ec ed ee ef eg eh cW = some (r1, r2, r3, r4, r5, r6, r7, r8, r9, h7, h8, h9, ia, ib, ic, ie, ig, ih, ii, ij, ik, il, im, io, ip) → St 151 [(3, .pointer (some ⟨cV, 0, none⟩)), (6, .pointer (some ⟨bH, 0, none⟩)), (9, .int .i64 cW)] gS → Below w.heap.size w eL → w.heap.size ≤ cV → eL.heap[cV]? = some (.cells (carillonref07_Get.c1 bv bw bx bz bA bB bC bD bE bG aY aZ a0 a1 a3 a4 a5 a6 a7 a8 a9 ba bb) 28 (0, 0)) → w.heap.size ≤ bH → eL.heap[bH]? = some (.cells (carillonref07_Get.c1 eN eO eP eQ eR eS eT eU eV eW d5 d6 d7 d8 d9 ea eb ec ed ee ef eg eh) 28 (0, 0)) → bH ≠ cV → hM gS eL := by
    intro gS eL bv bw bx bz bA bB bC bD bE bG aY aZ a0 a1 a3 a4 a5 a6 a7 a8 a9 ba bb cV eN eO eP eQ eR eS eT eU eV eW d5 d6 d7 d8 d9 ea eb ec ed ee ef eg eh bH cW H hS gH h4 cd fq el fA
    unfold carillonref07_Get.j3 at H
    (try dsimp only at H)
    simp only [Option.some.injEq, Prod.mk.injEq] at H
    obtain ⟨rfl, rfl, rfl, rfl, rfl, rfl, rfl, rfl, rfl, rfl, rfl, rfl, rfl, rfl, rfl, rfl, rfl, rfl, rfl, rfl, rfl, rfl, rfl, rfl, rfl⟩ := H
    refine gZ _ _ ?_
    refine wp_seq_k (fun jT hd => ?_)
    refine reg_seq_tail 2 (I := I2_ w eL) (ps := [IsV ((carillonref07_Get.v0 bv bw bx bz bA bB bC bD bE bG aY aZ a0 a1 a3 a4 a5 a6 a7 a8 a9 ba bb)), VI cW]) (by kernel_rfl) ?_ ?_ rfl hS ⟨gH, (bR eL)⟩ ?_ ?_
    ·exact bs2
    ·exact .v (.v (.nil))
    ·refine .on rfl (fun a w hS hI hp => does_loadrow rfl (hS.get 0 rfl) (((hI.2).block cV (blk_lt cd)).trans cd) Try.underlying28 rfl (by kernel_rfl) rfl) ?_
     refine .ms 2 rfl rfl rfl ?_
     exact .nil
    clear hS
    intro jl j7 hS dT hp
    replace hS := (hS.nil).cons (hS.get 1 rfl)
    have f9 : sl _ 149 = (carillonref07_Get.v0 bv bw bx bz bA bB bC bD bE bG aY aZ a0 a1 a3 a4 a5 a6 a7 a8 a9 ba bb) := hp 0 (by decide)
    have ga : sl _ 150 = .int .i64 cW := hp 1 (by decide)
    have hS := hS.cons f9
    have hS := hS.cons ga
    clear hp f9 ga
    show wpList _ _ _ [_, _, _] _ _
    refine list_step rfl (does_storeAll (g := bH) (cs := (carillonref07_Get.c1 bv bw bx bz bA bB bC bD bE bG aY aZ a0 a1 a3 a4 a5 a6 a7 a8 a9 ba bb)) rfl (hS.get 2 rfl) (hS.get 1 rfl) ((dT.2.block bH (blk_lt el)).trans el) (by kernel_rfl) (by kernel_rfl) (by kernel_rfl)) ?_
    rintro jA hX ⟨rfl, eG, hT⟩
    have jp := hT.blk ((dT.2.block cV (blk_lt cd)).trans cd) (Ne.symm fA)
    have fg := hT.below dT.1 fq (dT.1).size
    clear hT
    refine list_step rfl (R := fun v w' => Below _ _ w' ∧ (VI cW) v w') (does_val (x_assign rfl (hS.get 0 rfl)) rfl) ?_
    rintro hJ hY ⟨hb, he⟩
    have fh := below_step fg hb
    have eq := below_step (bR hX) hb
    obtain rfl : hJ = .int .i64 cW := he
    refine hS.next (v := .int .i64 cW) (d := 7) rfl (by decide) (by rfl) ?_
    clear hS
    intro jm hS
    refine list_step rfl (R := fun v w' => Below _ _ w' ∧ (VI 0) v w') (does_val (x_assign rfl (rfl)) rfl) ?_
    rintro hK j8 ⟨hb, he⟩
    have fi := below_step fh hb
    have er := below_step eq hb
    have gJ := below_step (bR hY) hb
    obtain rfl : hK = .int .i64 0 := he
    refine hS.next (v := .int .i64 0) (d := 8) rfl (by decide) (by rfl) ?_
    clear hS
    intro jn hS
    refine wpList_nil ?_
    refine hd _ _ ?_
    refine wp_ret ?_
    (try simp only [Exit.then, Exit.inBlock, Exit.jump, Exit.noGoto])
    exact bodyPost_ret (v := .tuple #[(carillonref07_Get.v0 bv bw bx bz bA bB bC bD bE bG aY aZ a0 a1 a3 a4 a5 a6 a7 a8 a9 ba bb), .int .i64 cW, .int .i64 0]) (results_list (rs := [.cell 6 28, .tmp 7, .tmp 8]) rfl (by simp) (Vals.cell bH 28 (carillonref07_Get.c1 bv bw bx bz bA bB bC bD bE bG aY aZ a0 a1 a3 a4 a5 a6 a7 a8 a9 ba bb) (0, 0) _ (hS.get 4 rfl) ((er.block bH (blk_lt eG)).trans eG) Try.underlying28 rfl (by kernel_rfl) (Vals.at (hS.get 1 rfl) (Vals.at (hS.get 0 rfl) .nil)))) hS.nodef ⟨rfl, fi⟩
   refine wp_seq_k (fun jK g0 => ?_)
   refine reg_seq (I := I2_ w dl) (ps := [VP ac 0, VI ad]) (by kernel_rfl) ?_ ?_ rfl hS ⟨gG, (bR dl)⟩ ?_ ?_
   ·exact bs2
   ·exact .v (.v (.nil))
   ·refine .on rfl (fun a w hS hI hp => does_val (x_fieldE (b := 0) rfl (hS.get 2 rfl) Try.underlying28 rfl rfl (by kernel_rfl)) rfl) ?_
    refine .on rfl (fun a w hS hI hp => does_val (x_load1 (d := .int .i64) rfl (hp.V 0 rfl rfl) (by kernel_rfl) rfl ((blk_cell (((hI.2).block ac (blk_lt aF)).trans aF) 0).trans rfl)) rfl) ?_
    exact .nil
   clear hS
   intro ja gg hS fC hp
   have hx : sl _ 71 = .int .i64 ad := hp 1 (by decide)
   have hS := hS.cons hx
   clear hp hx
   refine g0 _ _ ?_
   refine wp_block ?_
   refine wp_seq_k (fun jL g1 => ?_)
   refine reg_seq (I := I3_ w dl gg) (ps := [VB (decide (ad = 11)), VB (decide (ad = 11))]) (by kernel_rfl) ?_ ?_ rfl hS ⟨fC.1, fC.2, (bR gg)⟩ ?_ ?_
   ·exact bs3
   ·exact .v (.v (.nil))
   ·refine .on rfl (fun a w hS hI hp => does_val (x_bin rfl (hS.get 0 rfl) (rfl) (b_eql _ _ _ _ _ _)) rfl) ?_
    refine .asg 0 rfl rfl rfl ?_
    exact .nil
   clear hS
   intro jb eu hS dK hp
   have hy : sl _ 72 = .bool (decide (ad = 11)) := hp 1 (by decide)
   have hS := hS.cons hy
   clear hp hy
   refine g1 _ _ ?_
   by_cases c5 : ad = 11
   rotate_left
   ·rw [if_neg c5] at H
    refine wp_cond_false ((hS.get 0 rfl).trans (bF (decide_eq_false c5))) ?_
    refine wp_seq_k (fun hN ew => ?_)
    refine reg_seq (I := I3_ w dl eu) (ps := [VB (decide (ad = 13)), VB (decide (ad = 13))]) (by kernel_rfl) ?_ ?_ rfl hS ⟨dK.1, dK.2.1, (bR eu)⟩ ?_ ?_
    ·exact bs3
    ·exact .v (.v (.nil))
    ·refine .on rfl (fun a w hS hI hp => does_val (x_bin rfl (hS.get 1 rfl) (rfl) (b_eql _ _ _ _ _ _)) rfl) ?_
     refine .asg 0 rfl rfl rfl ?_
     exact .nil
    clear hS
    intro jc gh hS dk hp
    replace hS := (((((hS.nil).cons (hS.get 6 rfl)).cons (hS.get 5 rfl)).cons (hS.get 4 rfl)).cons (hS.get 3 rfl)).cons (hS.get 2 rfl)
    have f2 : sl _ 126 = .bool (decide (ad = 13)) := hp 1 (by decide)
    have hS := hS.cons f2
    clear hp f2
    refine ew _ _ ?_
    by_cases c6 : ad = 13
    rotate_left
    ·rw [if_neg c6] at H
     refine wp_cond_false ((hS.get 0 rfl).trans (bF (decide_eq_false c6))) ?_
     refine wp_skip ?_
     replace hS := (((hS.nil).cons (hS.get 5 rfl)).cons (hS.get 4 rfl)).cons (hS.get 3 rfl)
     (try simp only [Exit.then, Exit.inBlock])
     exact J3 _ _ ad al am an ao ap aq ar au av ag aX aR aI aJ aK aE aB aw aj aC ax ak ac cL cM cN cO cP cQ cR cS cT cU bW bX bY bZ b0 b1 b2 b3 b4 b5 b6 b7 b8 ah d4 H hS dk.1 ae ((dk.2.1.block ac (blk_lt aF)).trans aF) de ((dk.2.1.block ah (blk_lt aU)).trans aU) af
    rw [if_pos c6] at H
    by_cases c7 : 0 ≤ aa
    rotate_left
    ·rw [if_neg c7] at H
     exact absurd H (by simp)
    rw [if_pos c7] at H
    by_cases c8 : aa < (ab.length : Int)
    rotate_left
    ·rw [if_neg c8] at H
     exact absurd H (by simp)
    rw [if_pos c8] at H
    by_cases c9 : 0 ≤ (wrap64 (aa + 1))
    rotate_left
    ·rw [if_neg c9] at H
     exact absurd H (by simp)
    rw [if_pos c9] at H
    by_cases ei : (wrap64 (aa + 1)) < (ab.length : Int)
    rotate_left
    ·rw [if_neg ei] at H
     exact absurd H (by simp)
    rw [if_pos ei] at H
    by_cases ej : 0 ≤ (wrap64 (aa + 2))
    rotate_left
    ·rw [if_neg ej] at H
     exact absurd H (by simp)
    rw [if_pos ej] at H
    by_cases fT : (wrap64 (aa + 2)) < (ab.length : Int)
    rotate_left
    ·rw [if_neg fT] at H
     exact absurd H (by simp)
    rw [if_pos fT] at H
    refine wp_cond_true ((hS.get 0 rfl).trans (bT (decide_eq_true c6))) ?_
    refine wp_seq_k (fun jM g2 => ?_)
    refine reg_seq_tail 6 (I := I3_ w dl gh) (ps := [IsV (.slice aN ab.length aO), VI aa, IsA (.int .u8 (rd ab aa)), IsV (.int .u8 (rd ab aa)), VI (wrap64 (rd ab aa)), VP ac 20]) (by kernel_rfl) ?_ ?_ rfl hS ⟨dk.1, dk.2.1, (bR gh)⟩ ?_ ?_
    ·exact bs3
    ·exact .v (.v (.cons (Stays.a _) (.v (.v (.v (.nil))))))
    ·refine .ms 1 rfl rfl rfl ?_
     refine .ms 2 rfl rfl rfl ?_
     refine .on rfl (fun a w hS hI hp => does_index (e := 5) (xs := ab) rfl (hp.V 0 rfl rfl) (hp.V 1 rfl rfl) (by kernel_rfl) (by kernel_rfl) c7 c8 c8 ((Kd.C_below aS hI.1))) ?_
     refine .on rfl (fun a w hS hI hp => (hp.V 2 rfl rfl).elim fun _ h_ => does_val (x_load1 (d := .int .u8) rfl h_.1 (by kernel_rfl) rfl h_.2.2) rfl) ?_
     refine .on rfl (fun a w hS hI hp => does_val ((i64_w (rd ab aa)) ▸ x_convI rfl (by kernel_rfl) (by kernel_rfl) (hp.V 3 rfl rfl)) rfl) ?_
     refine .on rfl (fun a w hS hI hp => does_val (x_fieldE (b := 0) rfl (hS.get 3 rfl) Try.underlying28 rfl rfl (by kernel_rfl)) rfl) ?_
     exact .nil
    clear hS
    intro je jX hS dM hp
    replace hS := (((((hS.nil).cons (hS.get 5 rfl)).cons (hS.get 4 rfl)).cons (hS.get 3 rfl)).cons (hS.get 2 rfl)).cons (hS.get 1 rfl)
    have f3 : sl _ 132 = .int .i64 (wrap64 (rd ab aa)) := hp 4 (by decide)
    have f4 : sl _ 133 = .pointer (some ⟨ac, 20, none⟩) := hp 5 (by decide)
    have hS := hS.cons f3
    have hS := hS.cons f4
    clear hp f3 f4
    show wpList _ _ _ [_] _ _
    refine list_step rfl (does_store (g := ac) (off := 20) (v := .int .i64 (wrap64 (rd ab aa))) (new := (carillonref07_Get.c1 ad al am an ao ap aq ar au av ag aX aR aI aJ aK aE aB aw aj (wrap64 (rd ab aa)) ax ak)) rfl (hS.get 0 rfl) (hS.get 1 rfl) ((dM.2.1.block ac (blk_lt aF)).trans aF) (by kernel_rfl) (by kernel_rfl) (by kernel_rfl) (by kernel_rfl)) ?_
    rintro jt gj ⟨rfl, ez, hT⟩
    have ft := hT.blk ((dM.2.1.block ah (blk_lt aU)).trans aU) af
    have e6 := hT.below dM.1 ae (dM.1).size
    clear hT
    refine wpList_nil ?_
    refine g2 _ _ ?_
    refine wp_seq_k (fun jO g5 => ?_)
    refine reg_seq_tail 7 (I := I2_ w gj) (ps := [IsV (.slice aN ab.length aO), VI aa, VI (wrap64 (aa + 1)), IsA (.int .u8 (rd ab (wrap64 (aa + 1)))), IsV (.int .u8 (rd ab (wrap64 (aa + 1)))), VI (wrap64 (rd ab (wrap64 (aa + 1)))), VP ac 21]) (by kernel_rfl) ?_ ?_ rfl hS ⟨e6, (bR gj)⟩ ?_ ?_
    ·exact bs2
    ·exact .v (.v (.v (.cons (Stays.a _) (.v (.v (.v (.nil)))))))
    ·refine .ms 2 rfl rfl rfl ?_
     refine .ms 3 rfl rfl rfl ?_
     refine .on rfl (fun a w hS hI hp => does_val (x_bin rfl (hp.V 1 rfl rfl) (rfl) (b_add _ _ _ _ _)) rfl) ?_
     refine .on rfl (fun a w hS hI hp => does_index (e := 5) (xs := ab) rfl (hp.V 0 rfl rfl) (hp.V 2 rfl rfl) (by kernel_rfl) (by kernel_rfl) c9 ei ei ((Kd.C_below aS hI.1))) ?_
     refine .on rfl (fun a w hS hI hp => (hp.V 3 rfl rfl).elim fun _ h_ => does_val (x_load1 (d := .int .u8) rfl h_.1 (by kernel_rfl) rfl h_.2.2) rfl) ?_
     refine .on rfl (fun a w hS hI hp => does_val ((i64_w (rd ab (wrap64 (aa + 1)))) ▸ x_convI rfl (by kernel_rfl) (by kernel_rfl) (hp.V 4 rfl rfl)) rfl) ?_
     refine .on rfl (fun a w hS hI hp => does_val (x_fieldE (b := 0) rfl (hS.get 4 rfl) Try.underlying28 rfl rfl (by kernel_rfl)) rfl) ?_
     exact .nil
    clear hS
    intro jg jZ hS dO hp
    replace hS := (((((hS.nil).cons (hS.get 6 rfl)).cons (hS.get 5 rfl)).cons (hS.get 4 rfl)).cons (hS.get 3 rfl)).cons (hS.get 2 rfl)
    have f5 : sl _ 139 = .int .i64 (wrap64 (rd ab (wrap64 (aa + 1)))) := hp 5 (by decide)
    have f6 : sl _ 140 = .pointer (some ⟨ac, 21, none⟩) := hp 6 (by decide)
    have hS := hS.cons f5
    have hS := hS.cons f6
    clear hp f5 f6
    show wpList _ _ _ [_] _ _
    refine list_step rfl (does_store (g := ac) (off := 21) (v := .int .i64 (wrap64 (rd ab (wrap64 (aa + 1))))) (new := (carillonref07_Get.c1 ad al am an ao ap aq ar au av ag aX aR aI aJ aK aE aB aw aj (wrap64 (rd ab aa)) (wrap64 (rd ab (wrap64 (aa + 1)))) ak)) rfl (hS.get 0 rfl) (hS.get 1 rfl) ((dO.2.block ac (blk_lt ez)).trans ez) (by kernel_rfl) (by kernel_rfl) (by kernel_rfl) (by kernel_rfl)) ?_
    rintro jv gl ⟨rfl, eB, hT⟩
    have fv := hT.blk ((dO.2.block ah (blk_lt ft)).trans ft) af
    have e8 := hT.below dO.1 ae (dO.1).size
    clear hT
    refine wpList_nil ?_
    refine g5 _ _ ?_
    refine reg_seq_tail 8 (I := I2_ w gl) (ps := [IsV (.slice aN ab.length aO), VI aa, VI (wrap64 (aa + 2)), IsA (.int .u8 (rd ab (wrap64 (aa + 2)))), IsV (.int .u8 (rd ab (wrap64 (aa + 2)))), IsV (.int .u8 (Int.tmod (rd ab (wrap64 (aa + 2))) 16)), VI (wrap64 (Int.tmod (rd ab (wrap64 (aa + 2))) 16)), VP ac 22]) (by kernel_rfl) ?_ ?_ rfl hS ⟨e8, (bR gl)⟩ ?_ ?_
    ·exact bs2
    ·exact .v (.v (.v (.cons (Stays.a _) (.v (.v (.v (.v (.nil))))))))
    ·refine .ms 2 rfl rfl rfl ?_
     refine .ms 3 rfl rfl rfl ?_
     refine .on rfl (fun a w hS hI hp => does_val (x_bin rfl (hp.V 1 rfl rfl) (rfl) (b_add _ _ _ _ _)) rfl) ?_
     refine .on rfl (fun a w hS hI hp => does_index (e := 5) (xs := ab) rfl (hp.V 0 rfl rfl) (hp.V 2 rfl rfl) (by kernel_rfl) (by kernel_rfl) ej fT fT ((Kd.C_below aS hI.1))) ?_
     refine .on rfl (fun a w hS hI hp => (hp.V 3 rfl rfl).elim fun _ h_ => does_val (x_load1 (d := .int .u8) rfl h_.1 (by kernel_rfl) rfl h_.2.2) rfl) ?_
     refine .on rfl (fun a w hS hI hp => does_val (x_bin rfl (hp.V 4 rfl rfl) (rfl) (b_rem _ _ _ _ _ _ (by decide))) rfl) ?_
     refine .on rfl (fun a w hS hI hp => does_val ((i64_w (Int.tmod (rd ab (wrap64 (aa + 2))) 16)) ▸ x_convI rfl (by kernel_rfl) (by kernel_rfl) (hp.V 5 rfl rfl)) rfl) ?_
     refine .on rfl (fun a w hS hI hp => does_val (x_fieldE (b := 0) rfl (hS.get 4 rfl) Try.underlying28 rfl rfl (by kernel_rfl)) rfl) ?_
     exact .nil
    clear hS
    intro gT hW hS bc hp
    replace hS := (((hS.nil).cons (hS.get 6 rfl)).cons (hS.get 5 rfl)).cons (hS.get 4 rfl)
    have f7 : sl _ 147 = .int .i64 (wrap64 (Int.tmod (rd ab (wrap64 (aa + 2))) 16)) := hp 6 (by decide)
    have f8 : sl _ 148 = .pointer (some ⟨ac, 22, none⟩) := hp 7 (by decide)
    have hS := hS.cons f7
    have hS := hS.cons f8
    clear hp f7 f8
    show wpList _ _ _ [_] _ _
    refine list_step rfl (does_store (g := ac) (off := 22) (v := .int .i64 (wrap64 (Int.tmod (rd ab (wrap64 (aa + 2))) 16))) (new := (carillonref07_Get.c1 ad al am an ao ap aq ar au av ag aX aR aI aJ aK aE aB aw aj (wrap64 (rd ab aa)) (wrap64 (rd ab (wrap64 (aa + 1)))) (wrap64 (Int.tmod (rd ab (wrap64 (aa + 2))) 16)))) rfl (hS.get 0 rfl) (hS.get 1 rfl) ((bc.2.block ac (blk_lt eB)).trans eB) (by kernel_rfl) (by kernel_rfl) (by kernel_rfl) (by kernel_rfl)) ?_
    rintro hH dU ⟨rfl, ca, hT⟩
    have df := hT.blk ((bc.2.block ah (blk_lt fv)).trans fv) af
    have cZ := hT.below bc.1 ae (bc.1).size
    clear hT
    refine wpList_nil ?_
    replace hS := (((hS.nil).cons (hS.get 4 rfl)).cons (hS.get 3 rfl)).cons (hS.get 2 rfl)
    (try simp only [Exit.then, Exit.inBlock])
    exact J3 _ _ ad al am an ao ap aq ar au av ag aX aR aI aJ aK aE aB aw aj (wrap64 (rd ab aa)) (wrap64 (rd ab (wrap64 (aa + 1)))) (wrap64 (Int.tmod (rd ab (wrap64 (aa + 2))) 16)) ac cL cM cN cO cP cQ cR cS cT cU bW bX bY bZ b0 b1 b2 b3 b4 b5 b6 b7 b8 ah d4 H hS cZ ae (((bR dU).block ac (blk_lt ca)).trans ca) de (((bR dU).block ah (blk_lt df)).trans df) af
   rw [if_pos c5] at H
   obtain ⟨hP, gM, H⟩ := Option.bind_eq_some_iff.mp H
   obtain ⟨ai, dA⟩ := hP
   (try dsimp only at H)
   by_cases c6 : 0 ≤ (wrap64 (aa + 3))
   rotate_left
   ·rw [if_neg c6] at H
    exact absurd H (by simp)
   rw [if_pos c6] at H
   by_cases c7 : (wrap64 (aa + 3)) < (ab.length : Int)
   rotate_left
   ·rw [if_neg c7] at H
    exact absurd H (by simp)
   rw [if_pos c7] at H
   obtain ⟨hQ, gN, H⟩ := Option.bind_eq_some_iff.mp H
   obtain ⟨ay, az, aA, dB⟩ := hQ
   (try dsimp only at H)
   by_cases c8 : 0 ≤ (wrap64 (aa + 8))
   rotate_left
   ·rw [if_neg c8] at H
    exact absurd H (by simp)
   rw [if_pos c8] at H
   by_cases c9 : (wrap64 (aa + 8)) < (ab.length : Int)
   rotate_left
   ·rw [if_neg c9] at H
    exact absurd H (by simp)
   rw [if_pos c9] at H
   obtain ⟨hR, gO, H⟩ := Option.bind_eq_some_iff.mp H
   obtain ⟨aH, dC⟩ := hR
   (try dsimp only at H)
   obtain ⟨hU, gP, H⟩ := Option.bind_eq_some_iff.mp H
   obtain ⟨aQ, dD⟩ := hU
   (try dsimp only at H)
   by_cases ei : 0 ≤ (wrap64 (aa + 19))
   rotate_left
   ·rw [if_neg ei] at H
    exact absurd H (by simp)
   rw [if_pos ei] at H
   by_cases ej : (wrap64 (aa + 19)) < (ab.length : Int)
   rotate_left
   ·rw [if_neg ej] at H
    exact absurd H (by simp)
   rw [if_pos ej] at H
   refine wp_cond_true ((hS.get 0 rfl).trans (bT (decide_eq_true c5))) ?_
   refine wp_seq_k (fun hN ew => ?_)
   refine reg_seq_tail 7 (I := I3_ w dl eu) (ps := [IsV (.slice aN ab.length aO), VI aa, IsV (.tuple #[.int .i64 ai, .bool dA]), IsV (.tuple #[.int .i64 ai, .bool dA]), VI ai, VB dA, VP ac 11]) (by kernel_rfl) ?_ ?_ rfl hS ⟨dK.1, dK.2.1, (bR eu)⟩ ?_ ?_
   ·exact bs3
   ·exact .v (.v (.v (.v (.v (.v (.v (.nil)))))))
   ·refine .ms 2 rfl rfl rfl ?_
    refine .ms 3 rfl rfl rfl ?_
    refine .on rfl (fun a w hS hI hp => does_call (by kernel_rfl) (ar3 (hp.V 0 rfl rfl) (hp.V 1 rfl rfl) (rfl)) ((carillonref01_Signed.calls k _ _ ab aa 2 ai dA _ (Kd.C_below aS hI.1) es gM).mono fun _ _ h => ⟨_, h.1, h.2.below, rfl⟩)) ?_
    refine .mv 2 rfl rfl rfl ?_
    iterate 2 refine .on rfl (fun a w hS hI hp => does_val (x_extract rfl (hp.V 3 rfl rfl) rfl) rfl) ?_
    refine .on rfl (fun a w hS hI hp => does_val (x_fieldE (b := 0) rfl (hS.get 4 rfl) Try.underlying28 rfl rfl (by kernel_rfl)) rfl) ?_
    exact .nil
   clear hS
   intro jd jW hS dL hp
   replace hS := (((((hS.nil).cons (hS.get 6 rfl)).cons (hS.get 5 rfl)).cons (hS.get 4 rfl)).cons (hS.get 3 rfl)).cons (hS.get 2 rfl)
   have hz : sl _ 78 = .int .i64 ai := hp 4 (by decide)
   have hA : sl _ 80 = .pointer (some ⟨ac, 11, none⟩) := hp 6 (by decide)
   have hS := hS.cons hz
   have hS := hS.cons hA
   clear hp hz hA
   show wpList _ _ _ [_] _ _
   refine list_step rfl (does_store (g := ac) (off := 11) (v := .int .i64 ai) (new := (carillonref07_Get.c1 ad al am an ao ap aq ar au av ag ai aR aI aJ aK aE aB aw aj aC ax ak)) rfl (hS.get 0 rfl) (hS.get 1 rfl) ((dL.2.1.block ac (blk_lt aF)).trans aF) (by kernel_rfl) (by kernel_rfl) (by kernel_rfl) (by kernel_rfl)) ?_
   rintro js gi ⟨rfl, ey, hT⟩
   have fs := hT.blk ((dL.2.1.block ah (blk_lt aU)).trans aU) af
   have e5 := hT.below dL.1 ae (dL.1).size
   clear hT
   refine wpList_nil ?_
   refine ew _ _ ?_
   refine wp_seq_k (fun jN g3 => ?_)
   refine reg_seq_tail 7 (I := I2_ w gi) (ps := [IsV (.slice aN ab.length aO), VI aa, VI (wrap64 (aa + 3)), IsA (.int .u8 (rd ab (wrap64 (aa + 3)))), IsV (.int .u8 (rd ab (wrap64 (aa + 3)))), VI (wrap64 (rd ab (wrap64 (aa + 3)))), VP ac 12]) (by kernel_rfl) ?_ ?_ rfl hS ⟨e5, (bR gi)⟩ ?_ ?_
   ·exact bs2
   ·exact .v (.v (.v (.cons (Stays.a _) (.v (.v (.v (.nil)))))))
   ·refine .ms 2 rfl rfl rfl ?_
    refine .ms 3 rfl rfl rfl ?_
    refine .on rfl (fun a w hS hI hp => does_val (x_bin rfl (hp.V 1 rfl rfl) (rfl) (b_add _ _ _ _ _)) rfl) ?_
    refine .on rfl (fun a w hS hI hp => does_index (e := 5) (xs := ab) rfl (hp.V 0 rfl rfl) (hp.V 2 rfl rfl) (by kernel_rfl) (by kernel_rfl) c6 c7 c7 ((Kd.C_below aS hI.1))) ?_
    refine .on rfl (fun a w hS hI hp => (hp.V 3 rfl rfl).elim fun _ h_ => does_val (x_load1 (d := .int .u8) rfl h_.1 (by kernel_rfl) rfl h_.2.2) rfl) ?_
    refine .on rfl (fun a w hS hI hp => does_val ((i64_w (rd ab (wrap64 (aa + 3)))) ▸ x_convI rfl (by kernel_rfl) (by kernel_rfl) (hp.V 4 rfl rfl)) rfl) ?_
    refine .on rfl (fun a w hS hI hp => does_val (x_fieldE (b := 0) rfl (hS.get 4 rfl) Try.underlying28 rfl rfl (by kernel_rfl)) rfl) ?_
    exact .nil
   clear hS
   intro jf jY hS dN hp
   replace hS := (((((hS.nil).cons (hS.get 6 rfl)).cons (hS.get 5 rfl)).cons (hS.get 4 rfl)).cons (hS.get 3 rfl)).cons (hS.get 2 rfl)
   have hB : sl _ 86 = .int .i64 (wrap64 (rd ab (wrap64 (aa + 3)))) := hp 5 (by decide)
   have hC : sl _ 87 = .pointer (some ⟨ac, 12, none⟩) := hp 6 (by decide)
   have hS := hS.cons hB
   have hS := hS.cons hC
   clear hp hB hC
   show wpList _ _ _ [_] _ _
   refine list_step rfl (does_store (g := ac) (off := 12) (v := .int .i64 (wrap64 (rd ab (wrap64 (aa + 3))))) (new := (carillonref07_Get.c1 ad al am an ao ap aq ar au av ag ai (wrap64 (rd ab (wrap64 (aa + 3)))) aI aJ aK aE aB aw aj aC ax ak)) rfl (hS.get 0 rfl) (hS.get 1 rfl) ((dN.2.block ac (blk_lt ey)).trans ey) (by kernel_rfl) (by kernel_rfl) (by kernel_rfl) (by kernel_rfl)) ?_
   rintro ju gk ⟨rfl, eA, hT⟩
   have fu := hT.blk ((dN.2.block ah (blk_lt fs)).trans fs) af
   have e7 := hT.below dN.1 ae (dN.1).size
   clear hT
   refine wpList_nil ?_
   refine g3 _ _ ?_
   refine wp_seq_k (fun jP g7 => ?_)
   refine reg_seq_tail 8 (I := I2_ w gk) (ps := [IsV (.slice aN ab.length aO), VI aa, VI (wrap64 (aa + 4)), IsV (.tuple #[.agg #[.int .i64 ay, .int .i64 az, .int .i64 aA], .bool dB]), IsV (.tuple #[.agg #[.int .i64 ay, .int .i64 az, .int .i64 aA], .bool dB]), IsV (.agg #[.int .i64 ay, .int .i64 az, .int .i64 aA]), VB dB, VP ac 13]) (by kernel_rfl) ?_ ?_ rfl hS ⟨e7, (bR gk)⟩ ?_ ?_
   ·exact bs2
   ·exact .v (.v (.v (.v (.v (.v (.v (.v (.nil))))))))
   ·refine .ms 2 rfl rfl rfl ?_
    refine .ms 3 rfl rfl rfl ?_
    refine .on rfl (fun a w hS hI hp => does_val (x_bin rfl (hp.V 1 rfl rfl) (rfl) (b_add _ _ _ _ _)) rfl) ?_
    refine .on rfl (fun a w hS hI hp => does_call (by kernel_rfl) (ar2 (hp.V 0 rfl rfl) (hp.V 2 rfl rfl)) ((carillonref05_Get.calls k _ _ ab (wrap64 (aa + 4)) ay az aA dB _ (Kd.C_below aS hI.1) es gN).mono fun _ _ h => ⟨_, h.1, h.2, rfl⟩)) ?_
    refine .mv 3 rfl rfl rfl ?_
    iterate 2 refine .on rfl (fun a w hS hI hp => does_val (x_extract rfl (hp.V 4 rfl rfl) rfl) rfl) ?_
    refine .on rfl (fun a w hS hI hp => does_val (x_fieldE (b := 0) rfl (hS.get 4 rfl) Try.underlying28 rfl rfl (by kernel_rfl)) rfl) ?_
    exact .nil
   clear hS
   intro gT hW hS bc hp
   replace hS := (((((hS.nil).cons (hS.get 6 rfl)).cons (hS.get 5 rfl)).cons (hS.get 4 rfl)).cons (hS.get 3 rfl)).cons (hS.get 2 rfl)
   have hD : sl _ 93 = .agg #[.int .i64 ay, .int .i64 az, .int .i64 aA] := hp 5 (by decide)
   have hE : sl _ 95 = .pointer (some ⟨ac, 13, none⟩) := hp 7 (by decide)
   have hS := hS.cons hD
   have hS := hS.cons hE
   clear hp hD hE
   show wpList _ _ _ [_] _ _
   refine list_step rfl (does_store (g := ac) (off := 13) (v := .agg #[.int .i64 ay, .int .i64 az, .int .i64 aA]) (new := (carillonref07_Get.c1 ad al am an ao ap aq ar au av ag ai (wrap64 (rd ab (wrap64 (aa + 3)))) ay az aA aE aB aw aj aC ax ak)) rfl (hS.get 0 rfl) (hS.get 1 rfl) ((bc.2.block ac (blk_lt eA)).trans eA) (by kernel_rfl) (by kernel_rfl) (by kernel_rfl) (by kernel_rfl)) ?_
   rintro hH dU ⟨rfl, ca, hT⟩
   have df := hT.blk ((bc.2.block ah (blk_lt fu)).trans fu) af
   have cZ := hT.below bc.1 ae (bc.1).size
   clear hT
   refine wpList_nil ?_
   refine g7 _ _ ?_
   refine wp_seq_k (fun jQ g8 => ?_)
   refine reg_seq_tail 7 (I := I2_ w dU) (ps := [IsV (.slice aN ab.length aO), VI aa, VI (wrap64 (aa + 8)), IsA (.int .u8 (rd ab (wrap64 (aa + 8)))), IsV (.int .u8 (rd ab (wrap64 (aa + 8)))), VI (wrap64 (rd ab (wrap64 (aa + 8)))), VP ac 16]) (by kernel_rfl) ?_ ?_ rfl hS ⟨cZ, (bR dU)⟩ ?_ ?_
   ·exact bs2
   ·exact .v (.v (.v (.cons (Stays.a _) (.v (.v (.v (.nil)))))))
   ·refine .ms 2 rfl rfl rfl ?_
    refine .ms 3 rfl rfl rfl ?_
    refine .on rfl (fun a w hS hI hp => does_val (x_bin rfl (hp.V 1 rfl rfl) (rfl) (b_add _ _ _ _ _)) rfl) ?_
    refine .on rfl (fun a w hS hI hp => does_index (e := 5) (xs := ab) rfl (hp.V 0 rfl rfl) (hp.V 2 rfl rfl) (by kernel_rfl) (by kernel_rfl) c8 c9 c9 ((Kd.C_below aS hI.1))) ?_
    refine .on rfl (fun a w hS hI hp => (hp.V 3 rfl rfl).elim fun _ h_ => does_val (x_load1 (d := .int .u8) rfl h_.1 (by kernel_rfl) rfl h_.2.2) rfl) ?_
    refine .on rfl (fun a w hS hI hp => does_val ((i64_w (rd ab (wrap64 (aa + 8)))) ▸ x_convI rfl (by kernel_rfl) (by kernel_rfl) (hp.V 4 rfl rfl)) rfl) ?_
    refine .on rfl (fun a w hS hI hp => does_val (x_fieldE (b := 0) rfl (hS.get 4 rfl) Try.underlying28 rfl rfl (by kernel_rfl)) rfl) ?_
    exact .nil
   clear hS
   intro jh j0 hS dP hp
   replace hS := (((((hS.nil).cons (hS.get 6 rfl)).cons (hS.get 5 rfl)).cons (hS.get 4 rfl)).cons (hS.get 3 rfl)).cons (hS.get 2 rfl)
   have fU : sl _ 101 = .int .i64 (wrap64 (rd ab (wrap64 (aa + 8)))) := hp 5 (by decide)
   have fV : sl _ 102 = .pointer (some ⟨ac, 16, none⟩) := hp 6 (by decide)
   have hS := hS.cons fU
   have hS := hS.cons fV
   clear hp fU fV
   show wpList _ _ _ [_] _ _
   refine list_step rfl (does_store (g := ac) (off := 16) (v := .int .i64 (wrap64 (rd ab (wrap64 (aa + 8))))) (new := (carillonref07_Get.c1 ad al am an ao ap aq ar au av ag ai (wrap64 (rd ab (wrap64 (aa + 3)))) ay az aA (wrap64 (rd ab (wrap64 (aa + 8)))) aB aw aj aC ax ak)) rfl (hS.get 0 rfl) (hS.get 1 rfl) ((dP.2.block ac (blk_lt ca)).trans ca) (by kernel_rfl) (by kernel_rfl) (by kernel_rfl) (by kernel_rfl)) ?_
   rintro jw gm ⟨rfl, eC, hT⟩
   have fw := hT.blk ((dP.2.block ah (blk_lt df)).trans df) af
   have e9 := hT.below dP.1 ae (dP.1).size
   clear hT
   refine wpList_nil ?_
   refine g8 _ _ ?_
   refine wp_seq_k (fun jR g9 => ?_)
   refine reg_seq_tail 8 (I := I2_ w gm) (ps := [IsV (.slice aN ab.length aO), VI aa, VI (wrap64 (aa + 9)), IsV (.tuple #[.int .u64 aH, .bool dC]), IsV (.tuple #[.int .u64 aH, .bool dC]), IsV (.int .u64 aH), VB dC, VP ac 17]) (by kernel_rfl) ?_ ?_ rfl hS ⟨e9, (bR gm)⟩ ?_ ?_
   ·exact bs2
   ·exact .v (.v (.v (.v (.v (.v (.v (.v (.nil))))))))
   ·refine .ms 2 rfl rfl rfl ?_
    refine .ms 3 rfl rfl rfl ?_
    refine .on rfl (fun a w hS hI hp => does_val (x_bin rfl (hp.V 1 rfl rfl) (rfl) (b_add _ _ _ _ _)) rfl) ?_
    refine .on rfl (fun a w hS hI hp => does_call (by kernel_rfl) (ar2 (hp.V 0 rfl rfl) (hp.V 2 rfl rfl)) ((carillonref01_Id.calls k _ _ ab (wrap64 (aa + 9)) aH dC _ (Kd.C_below aS hI.1) es gO).mono fun _ _ h => ⟨_, h.1, h.2.below, rfl⟩)) ?_
    refine .mv 3 rfl rfl rfl ?_
    iterate 2 refine .on rfl (fun a w hS hI hp => does_val (x_extract rfl (hp.V 4 rfl rfl) rfl) rfl) ?_
    refine .on rfl (fun a w hS hI hp => does_val (x_fieldE (b := 0) rfl (hS.get 4 rfl) Try.underlying28 rfl rfl (by kernel_rfl)) rfl) ?_
    exact .nil
   clear hS
   intro ji j4 hS dQ hp
   replace hS := (((((hS.nil).cons (hS.get 6 rfl)).cons (hS.get 5 rfl)).cons (hS.get 4 rfl)).cons (hS.get 3 rfl)).cons (hS.get 2 rfl)
   have fW : sl _ 108 = .int .u64 aH := hp 5 (by decide)
   have fX : sl _ 110 = .pointer (some ⟨ac, 17, none⟩) := hp 7 (by decide)
   have hS := hS.cons fW
   have hS := hS.cons fX
   clear hp fW fX
   show wpList _ _ _ [_] _ _
   refine list_step rfl (does_store (g := ac) (off := 17) (v := .int .u64 aH) (new := (carillonref07_Get.c1 ad al am an ao ap aq ar au av ag ai (wrap64 (rd ab (wrap64 (aa + 3)))) ay az aA (wrap64 (rd ab (wrap64 (aa + 8)))) aH aw aj aC ax ak)) rfl (hS.get 0 rfl) (hS.get 1 rfl) ((dQ.2.block ac (blk_lt eC)).trans eC) (by kernel_rfl) (by kernel_rfl) (by kernel_rfl) (by kernel_rfl)) ?_
   rintro jx gn ⟨rfl, eD, hT⟩
   have fx := hT.blk ((dQ.2.block ah (blk_lt fw)).trans fw) af
   have fa := hT.below dQ.1 ae (dQ.1).size
   clear hT
   refine wpList_nil ?_
   refine g9 _ _ ?_
   refine wp_seq_k (fun jS ha => ?_)
   refine reg_seq_tail 8 (I := I2_ w gn) (ps := [IsV (.slice aN ab.length aO), VI aa, VI (wrap64 (aa + 17)), IsV (.tuple #[.int .i64 aQ, .bool dD]), IsV (.tuple #[.int .i64 aQ, .bool dD]), VI aQ, VB dD, VP ac 18]) (by kernel_rfl) ?_ ?_ rfl hS ⟨fa, (bR gn)⟩ ?_ ?_
   ·exact bs2
   ·exact .v (.v (.v (.v (.v (.v (.v (.v (.nil))))))))
   ·refine .ms 2 rfl rfl rfl ?_
    refine .ms 3 rfl rfl rfl ?_
    refine .on rfl (fun a w hS hI hp => does_val (x_bin rfl (hp.V 1 rfl rfl) (rfl) (b_add _ _ _ _ _)) rfl) ?_
    refine .on rfl (fun a w hS hI hp => does_call (by kernel_rfl) (ar3 (hp.V 0 rfl rfl) (hp.V 2 rfl rfl) (rfl)) ((carillonref01_Get.calls k _ _ ab (wrap64 (aa + 17)) 2 aQ dD _ (Kd.C_below aS hI.1) es gP).mono fun _ _ h => ⟨_, h.1, h.2.below, rfl⟩)) ?_
    refine .mv 3 rfl rfl rfl ?_
    iterate 2 refine .on rfl (fun a w hS hI hp => does_val (x_extract rfl (hp.V 4 rfl rfl) rfl) rfl) ?_
    refine .on rfl (fun a w hS hI hp => does_val (x_fieldE (b := 0) rfl (hS.get 4 rfl) Try.underlying28 rfl rfl (by kernel_rfl)) rfl) ?_
    exact .nil
   clear hS
   intro jj j5 hS dR hp
   replace hS := (((((hS.nil).cons (hS.get 6 rfl)).cons (hS.get 5 rfl)).cons (hS.get 4 rfl)).cons (hS.get 3 rfl)).cons (hS.get 2 rfl)
   have fY : sl _ 116 = .int .i64 aQ := hp 5 (by decide)
   have fZ : sl _ 118 = .pointer (some ⟨ac, 18, none⟩) := hp 7 (by decide)
   have hS := hS.cons fY
   have hS := hS.cons fZ
   clear hp fY fZ
   show wpList _ _ _ [_] _ _
   refine list_step rfl (does_store (g := ac) (off := 18) (v := .int .i64 aQ) (new := (carillonref07_Get.c1 ad al am an ao ap aq ar au av ag ai (wrap64 (rd ab (wrap64 (aa + 3)))) ay az aA (wrap64 (rd ab (wrap64 (aa + 8)))) aH aQ aj aC ax ak)) rfl (hS.get 0 rfl) (hS.get 1 rfl) ((dR.2.block ac (blk_lt eD)).trans eD) (by kernel_rfl) (by kernel_rfl) (by kernel_rfl) (by kernel_rfl)) ?_
   rintro jy go ⟨rfl, eE, hT⟩
   have fy := hT.blk ((dR.2.block ah (blk_lt fx)).trans fx) af
   have fb := hT.below dR.1 ae (dR.1).size
   clear hT
   refine wpList_nil ?_
   refine ha _ _ ?_
   refine reg_seq_tail 7 (I := I2_ w go) (ps := [IsV (.slice aN ab.length aO), VI aa, VI (wrap64 (aa + 19)), IsA (.int .u8 (rd ab (wrap64 (aa + 19)))), IsV (.int .u8 (rd ab (wrap64 (aa + 19)))), VI (wrap64 (rd ab (wrap64 (aa + 19)))), VP ac 19]) (by kernel_rfl) ?_ ?_ rfl hS ⟨fb, (bR go)⟩ ?_ ?_
   ·exact bs2
   ·exact .v (.v (.v (.cons (Stays.a _) (.v (.v (.v (.nil)))))))
   ·refine .ms 2 rfl rfl rfl ?_
    refine .ms 3 rfl rfl rfl ?_
    refine .on rfl (fun a w hS hI hp => does_val (x_bin rfl (hp.V 1 rfl rfl) (rfl) (b_add _ _ _ _ _)) rfl) ?_
    refine .on rfl (fun a w hS hI hp => does_index (e := 5) (xs := ab) rfl (hp.V 0 rfl rfl) (hp.V 2 rfl rfl) (by kernel_rfl) (by kernel_rfl) ei ej ej ((Kd.C_below aS hI.1))) ?_
    refine .on rfl (fun a w hS hI hp => (hp.V 3 rfl rfl).elim fun _ h_ => does_val (x_load1 (d := .int .u8) rfl h_.1 (by kernel_rfl) rfl h_.2.2) rfl) ?_
    refine .on rfl (fun a w hS hI hp => does_val ((i64_w (rd ab (wrap64 (aa + 19)))) ▸ x_convI rfl (by kernel_rfl) (by kernel_rfl) (hp.V 4 rfl rfl)) rfl) ?_
    refine .on rfl (fun a w hS hI hp => does_val (x_fieldE (b := 0) rfl (hS.get 4 rfl) Try.underlying28 rfl rfl (by kernel_rfl)) rfl) ?_
    exact .nil
   clear hS
   intro jk j6 hS dS hp
   replace hS := (((hS.nil).cons (hS.get 6 rfl)).cons (hS.get 5 rfl)).cons (hS.get 4 rfl)
   have f0 : sl _ 124 = .int .i64 (wrap64 (rd ab (wrap64 (aa + 19)))) := hp 5 (by decide)
   have f1 : sl _ 125 = .pointer (some ⟨ac, 19, none⟩) := hp 6 (by decide)
   have hS := hS.cons f0
   have hS := hS.cons f1
   clear hp f0 f1
   show wpList _ _ _ [_] _ _
   refine list_step rfl (does_store (g := ac) (off := 19) (v := .int .i64 (wrap64 (rd ab (wrap64 (aa + 19))))) (new := (carillonref07_Get.c1 ad al am an ao ap aq ar au av ag ai (wrap64 (rd ab (wrap64 (aa + 3)))) ay az aA (wrap64 (rd ab (wrap64 (aa + 8)))) aH aQ (wrap64 (rd ab (wrap64 (aa + 19)))) aC ax ak)) rfl (hS.get 0 rfl) (hS.get 1 rfl) ((dS.2.block ac (blk_lt eE)).trans eE) (by kernel_rfl) (by kernel_rfl) (by kernel_rfl) (by kernel_rfl)) ?_
   rintro jz gp ⟨rfl, eF, hT⟩
   have fz := hT.blk ((dS.2.block ah (blk_lt fy)).trans fy) af
   have fc := hT.below dS.1 ae (dS.1).size
   clear hT
   refine wpList_nil ?_
   replace hS := (((hS.nil).cons (hS.get 4 rfl)).cons (hS.get 3 rfl)).cons (hS.get 2 rfl)
   (try simp only [Exit.then, Exit.inBlock])
   exact J3 _ _ ad al am an ao ap aq ar au av ag ai (wrap64 (rd ab (wrap64 (aa + 3)))) ay az aA (wrap64 (rd ab (wrap64 (aa + 8)))) aH aQ (wrap64 (rd ab (wrap64 (aa + 19)))) aC ax ak ac cL cM cN cO cP cQ cR cS cT cU bW bX bY bZ b0 b1 b2 b3 b4 b5 b6 b7 b8 ah d4 H hS fc ae (((bR gp).block ac (blk_lt eF)).trans eF) de (((bR gp).block ah (blk_lt fz)).trans fz) af
  obtain ⟨et, gK, H⟩ := Option.bind_eq_some_iff.mp H
  refine wp_seq_k (fun jI gX => ?_)
  refine reg_seq (I := I2_ w ep) (ps := [VP aG 0, VI bu, VB et]) (by kernel_rfl) ?_ ?_ rfl hS ⟨gF, (bR ep)⟩ ?_ ?_
  ·exact bs2
  ·exact .v (.v (.v (.nil)))
  ·refine .on rfl (fun a w hS hI hp => does_val (x_fieldE (b := 0) rfl (hS.get 2 rfl) Try.underlying28 rfl rfl (by kernel_rfl)) rfl) ?_
   refine .on rfl (fun a w hS hI hp => does_val (x_load1 (d := .int .i64) rfl (hp.V 0 rfl rfl) (by kernel_rfl) rfl ((blk_cell (((hI.2).block aG (blk_lt aT)).trans aT) 0).trans rfl)) rfl) ?_
   refine .on rfl (fun a w hS hI hp => does_call (by kernel_rfl) (ar1 (hp.V 1 rfl rfl)) ((carillonref07_targeted.calls bu et _  gK).mono fun _ _ h => ⟨_, h.1, h.2.below, rfl⟩)) ?_
   exact .nil
  clear hS
  intro i6 gc hS dj hp
  have hs : sl _ 60 = .bool et := hp 2 (by decide)
  have hS := hS.cons hs
  clear hp hs
  refine gX _ _ ?_
  by_cases c5 : et = true
  rotate_left
  ·rw [if_neg c5] at H
   refine wp_cond_false ((hS.get 0 rfl).trans (bF (Bool.eq_false_iff.2 c5))) ?_
   refine wp_skip ?_
   replace hS := (((((hS.nil).cons (hS.get 5 rfl)).cons (hS.get 4 rfl)).cons (hS.get 3 rfl)).cons (hS.get 2 rfl)).cons (hS.get 1 rfl)
   (try simp only [Exit.then, Exit.inBlock])
   exact J2 _ _ cn dx dy be bu cp cq cr ct cu cv cw cx dV dE bI bJ bK bL bM bN bO bP bQ bS bU bV aG dm dn dp dq dr ds dt du dv dw cy cz cA cB cC cD cE cF cG cH cI cJ cK bs eM H hS dj.1 e1 (eH) dd ((dj.2.block aG (blk_lt aT)).trans aT) em ((dj.2.block bs (blk_lt cc)).trans cc) dg
  rw [if_pos c5] at H
  obtain ⟨hO, gL, H⟩ := Option.bind_eq_some_iff.mp H
  obtain ⟨aV, aW, dz⟩ := hO
  (try dsimp only at H)
  refine wp_cond_true ((hS.get 0 rfl).trans (bT c5)) ?_
  refine wp_seq_k (fun jJ gY => ?_)
  refine reg_seq_tail 7 (I := I3_ w ep gc) (ps := [IsV (.slice dx cn.length dy), VI be, IsV (.tuple #[.agg #[.int .u64 aV, .int .i64 aW], .bool dz]), IsV (.tuple #[.agg #[.int .u64 aV, .int .i64 aW], .bool dz]), IsV (.agg #[.int .u64 aV, .int .i64 aW]), VB dz, VP aG 9]) (by kernel_rfl) ?_ ?_ rfl hS ⟨dj.1, dj.2, (bR gc)⟩ ?_ ?_
  ·exact bs3
  ·exact .v (.v (.v (.v (.v (.v (.v (.nil)))))))
  ·refine .ms 1 rfl rfl rfl ?_
   refine .ms 2 rfl rfl rfl ?_
   refine .on rfl (fun a w hS hI hp => does_call (by kernel_rfl) (ar2 (hp.V 0 rfl rfl) (hp.V 1 rfl rfl)) ((carillonref04_Get.calls k _ _ cn be aV aW dz _ (Kd.C_below eH hI.1) e1 gL).mono fun _ _ h => ⟨_, h.1, h.2, rfl⟩)) ?_
   refine .mv 2 rfl rfl rfl ?_
   iterate 2 refine .on rfl (fun a w hS hI hp => does_val (x_extract rfl (hp.V 3 rfl rfl) rfl) rfl) ?_
   refine .on rfl (fun a w hS hI hp => does_val (x_fieldE (b := 0) rfl (hS.get 3 rfl) Try.underlying28 rfl rfl (by kernel_rfl)) rfl) ?_
   exact .nil
  clear hS
  intro i7 jU hS dJ hp
  replace hS := (((((hS.nil).cons (hS.get 5 rfl)).cons (hS.get 4 rfl)).cons (hS.get 3 rfl)).cons (hS.get 2 rfl)).cons (hS.get 1 rfl)
  have ht : sl _ 65 = .agg #[.int .u64 aV, .int .i64 aW] := hp 4 (by decide)
  have hu : sl _ 67 = .pointer (some ⟨aG, 9, none⟩) := hp 6 (by decide)
  have hS := hS.cons ht
  have hS := hS.cons hu
  clear hp ht hu
  show wpList _ _ _ [_] _ _
  refine list_step rfl (does_store (g := aG) (off := 9) (v := .agg #[.int .u64 aV, .int .i64 aW]) (new := (carillonref07_Get.c1 bu cp cq cr ct cu cv cw cx aV aW bI bJ bK bL bM bN bO bP bQ bS bU bV)) rfl (hS.get 0 rfl) (hS.get 1 rfl) ((dJ.2.1.block aG (blk_lt aT)).trans aT) (by kernel_rfl) (by kernel_rfl) (by kernel_rfl) (by kernel_rfl)) ?_
  rintro jr gd ⟨rfl, ex, hT⟩
  have fr := hT.blk ((dJ.2.1.block bs (blk_lt cc)).trans cc) dg
  have e3 := hT.below dJ.1 dd (dJ.1).size
  clear hT
  refine wpList_nil ?_
  refine gY _ _ ?_
  refine reg_seq_tail 2 (I := I2_ w gd) (ps := [VI be, VI (wrap64 (be + 10))]) (by kernel_rfl) ?_ ?_ rfl hS ⟨e3, (bR gd)⟩ ?_ ?_
  ·exact bs2
  ·exact .v (.v (.nil))
  ·refine .ms 3 rfl rfl rfl ?_
   refine .on rfl (fun a w hS hI hp => does_val (x_bin rfl (hp.V 0 rfl rfl) (rfl) (b_add _ _ _ _ _)) rfl) ?_
   exact .nil
  clear hS
  intro i8 hV hS fB hp
  replace hS := (((((hS.nil).cons (hS.get 6 rfl)).cons (hS.get 5 rfl)).cons (hS.get 4 rfl)).cons (hS.get 3 rfl)).cons (hS.get 2 rfl)
  have hw : sl _ 69 = .int .i64 (wrap64 (be + 10)) := hp 1 (by decide)
  have hS := hS.cons hw
  clear hp hw
  show wpList _ _ _ [_] _ _
  refine list_step rfl (R := fun v w' => Below _ _ w' ∧ (VI (wrap64 (be + 10))) v w') (does_val (x_assign rfl (hS.get 0 rfl)) rfl) ?_
  rintro hG jV ⟨hb, he⟩
  have e4 := below_step fB.1 hb
  have cX := below_step fB.2 hb
  have gI := below_step (bR hV) hb
  obtain rfl : hG = .int .i64 (wrap64 (be + 10)) := he
  replace hS := (((((hS.nil).cons (hS.get 5 rfl)).cons (hS.get 4 rfl)).cons (hS.get 3 rfl)).cons (hS.get 1 rfl)).cons (hS.get 0 rfl)
  refine hS.next (v := .int .i64 (wrap64 (be + 10))) (d := 2) rfl (by decide) (by rfl) ?_
  clear hS
  intro i9 hS
  refine wpList_nil ?_
  replace hS := (((((hS.nil).cons (hS.get 5 rfl)).cons (hS.get 4 rfl)).cons (hS.get 3 rfl)).cons (hS.get 0 rfl)).cons (hS.get 2 rfl)
  (try simp only [Exit.then, Exit.inBlock])
  exact J2 _ _ cn dx dy (wrap64 (be + 10)) bu cp cq cr ct cu cv cw cx aV aW bI bJ bK bL bM bN bO bP bQ bS bU bV aG dm dn dp dq dr ds dt du dv dw cy cz cA cB cC cD cE cF cG cH cI cJ cK bs eM H hS e4 e1 (eH) dd ((cX.block aG (blk_lt ex)).trans ex) em ((cX.block bs (blk_lt fr)).trans fr) dg
 obtain ⟨gb, iw, H⟩ := Option.bind_eq_some_iff.mp H
 refine wp_seq_k (fun kp iN => ?_)
 refine reg_seq (I := I4_ w w3 w5 gq) (ps := [VP g4 0, VI aL, VB gb]) (by kernel_rfl) ?_ ?_ rfl hS ⟨d1.1, d1.2.1, d1.2.2.1, (bR gq)⟩ ?_ ?_
 ·exact bs4
 ·exact .v (.v (.v (.nil)))
 ·refine .on rfl (fun a w hS hI hp => does_val (x_fieldE (b := 0) rfl (hS.get 3 rfl) Try.underlying28 rfl rfl (by kernel_rfl)) rfl) ?_
  refine .on rfl (fun a w hS hI hp => does_val (x_load1 (d := .int .i64) rfl (hp.V 0 rfl rfl) (by kernel_rfl) rfl ((blk_cell (((hI.2.1).block g4 (blk_lt aD)).trans aD) 0).trans rfl)) rfl) ?_
  refine .on rfl (fun a w hS hI hp => does_call (by kernel_rfl) (ar1 (hp.V 1 rfl rfl)) ((carillonref07_stamped.calls aL gb _  iw).mono fun _ _ h => ⟨_, h.1, h.2.below, rfl⟩)) ?_
  exact .nil
 clear hS
 intro kg gr hS d2 hp
 replace hS := (((((hS.nil).cons (hS.get 5 rfl)).cons (hS.get 4 rfl)).cons (hS.get 3 rfl)).cons (hS.get 2 rfl)).cons (hS.get 1 rfl)
 have hl : sl _ 44 = .bool gb := hp 2 (by decide)
 have hS := hS.cons hl
 clear hp hl
 refine iN _ _ ?_
 by_cases c5 : gb = true
 rotate_left
 ·rw [if_neg c5] at H
  refine wp_cond_false ((hS.get 0 rfl).trans (bF (Bool.eq_false_iff.2 c5))) ?_
  refine wp_skip ?_
  replace hS := (((((hS.nil).cons (hS.get 1 rfl)).cons (hS.get 2 rfl)).cons (hS.get 3 rfl)).cons (hS.get 5 rfl)).cons (hS.get 4 rfl)
  (try simp only [Exit.then, Exit.inBlock])
  exact J1 _ _ l1 A1 ev a2 aL ce cf cg ch ci cj ck cY cl bf bg bh bi bj bk bl bm bn bo bp bq br g4 0 0 0 0 0 0 0 0 0 0 0 0 0 0 0 0 0 0 0 0 0 0 0 g6 (wrap64 (a2 + eK)) H hS d2.1 HC1 (HR1) e0 ((d2.2.1.block g4 (blk_lt aD)).trans aD) (Nat.le_trans (en).size aP) ((d2.2.2.1.block g6 (blk_lt aM)).trans aM) fP
 rw [if_pos c5] at H
 obtain ⟨jq, ix, H⟩ := Option.bind_eq_some_iff.mp H
 obtain ⟨bd, bt⟩ := jq
 (try dsimp only at H)
 refine wp_cond_true ((hS.get 0 rfl).trans (bT c5)) ?_
 refine wp_seq_k (fun kq iO => ?_)
 refine reg_seq (I := I4_ w w3 w5 gr) (ps := [IsV (.slice A1 l1.length ev), VI a2, IsV (.tuple #[.int .i64 bd, .bool bt]), IsV (.tuple #[.int .i64 bd, .bool bt]), VI bd, VB bt, VI bd, VB bt]) (by kernel_rfl) ?_ ?_ rfl hS ⟨d2.1, d2.2.1, d2.2.2.1, (bR gr)⟩ ?_ ?_
 ·exact bs4
 ·exact .v (.v (.v (.v (.v (.v (.v (.v (.nil))))))))
 ·refine .ms 4 rfl rfl rfl ?_
  refine .ms 5 rfl rfl rfl ?_
  refine .on rfl (fun a w hS hI hp => does_call (by kernel_rfl) (ar2 (hp.V 0 rfl rfl) (hp.V 1 rfl rfl)) ((carillonref02_Get.calls k _ _ l1 a2 bd bt _ (Kd.C_below HR1 hI.1) HC1 ix).mono fun _ _ h => ⟨_, h.1, h.2.below, rfl⟩)) ?_
  refine .mv 2 rfl rfl rfl ?_
  iterate 2 refine .on rfl (fun a w hS hI hp => does_val (x_extract rfl (hp.V 3 rfl rfl) rfl) rfl) ?_
  refine .asg 4 rfl rfl rfl ?_
  refine .asg 5 rfl rfl rfl ?_
  exact .nil
 clear hS
 intro iD iq hS fR hp
 replace hS := (((((hS.nil).cons (hS.get 5 rfl)).cons (hS.get 4 rfl)).cons (hS.get 3 rfl)).cons (hS.get 2 rfl)).cons (hS.get 1 rfl)
 have hg : sl _ 10 = .int .i64 bd := hp 6 (by decide)
 have hh : sl _ 11 = .bool bt := hp 7 (by decide)
 have hS := hS.cons hg
 have hS := hS.cons hh
 clear hp hg hh
 refine iO _ _ ?_
 refine wp_seq_k (fun kr iP => ?_)
 refine wp_seq_k (fun ks iQ => ?_)
 refine reg_seq (I := I4_ w w3 w5 iq) (ps := [VB bt, VB (!bt)]) (by kernel_rfl) ?_ ?_ rfl hS ⟨fR.1, fR.2.1, fR.2.2.1, (bR iq)⟩ ?_ ?_
 ·exact bs4
 ·exact .v (.v (.nil))
 ·refine .ms 0 rfl rfl rfl ?_
  refine .on rfl (fun a w hS hI hp => does_val (x_not rfl (hp.V 0 rfl rfl)) rfl) ?_
  exact .nil
 clear hS
 intro ki gs hS d3 hp
 replace hS := ((((((hS.nil).cons (hS.get 6 rfl)).cons (hS.get 5 rfl)).cons (hS.get 4 rfl)).cons (hS.get 3 rfl)).cons (hS.get 2 rfl)).cons (hS.get 1 rfl)
 have hm : sl _ 52 = .bool (!bt) := hp 1 (by decide)
 have hS := hS.cons hm
 clear hp hm
 refine iQ _ _ ?_
 by_cases c6 : bt = true
 rotate_left
 ·rw [if_neg c6] at H
  simp only [Option.some.injEq, Prod.mk.injEq] at H
  obtain ⟨rfl, rfl, rfl, rfl, rfl, rfl, rfl, rfl, rfl, rfl, rfl, rfl, rfl, rfl, rfl, rfl, rfl, rfl, rfl, rfl, rfl, rfl, rfl, rfl, rfl⟩ := H
  refine wp_cond_true ((hS.get 0 rfl).trans (bT (congrArg (!·) (Bool.eq_false_iff.2 c6)))) ?_
  refine wp_seq_k (fun i5 fO => ?_)
  refine reg_seq_tail 1 (I := I4_ w w3 w5 gs) (ps := [IsV ((carillonref07_Get.v0 0 0 0 0 0 0 0 0 0 0 0 0 0 0 0 0 0 0 0 0 0 0 0))]) (by kernel_rfl) ?_ ?_ rfl hS ⟨d3.1, d3.2.1, d3.2.2.1, (bR gs)⟩ ?_ ?_
  ·exact bs4
  ·exact .v (.nil)
  ·refine .on rfl (fun a w hS hI hp => does_val (x_build (vs := []) rfl (by rw [Array.toList_map]; exact (show [] = _ from rfl)) (by kernel_rfl)) rfl) ?_
   exact .nil
  clear hS
  intro iE jG hS cm hp
  replace hS := (hS.nil).cons (hS.get 3 rfl)
  have hn : sl _ 53 = (carillonref07_Get.v0 0 0 0 0 0 0 0 0 0 0 0 0 0 0 0 0 0 0 0 0 0 0 0) := hp 0 (by decide)
  have hS := hS.cons hn
  clear hp hn
  show wpList _ _ _ [_, _, _] _ _
  refine list_step rfl (does_storeAll (g := g6) (cs := (carillonref07_Get.c1 0 0 0 0 0 0 0 0 0 0 0 0 0 0 0 0 0 0 0 0 0 0 0)) rfl (hS.get 1 rfl) (hS.get 0 rfl) ((cm.2.2.1.block g6 (blk_lt aM)).trans aM) (by kernel_rfl) (by kernel_rfl) (by kernel_rfl)) ?_
  rintro iX gt ⟨rfl, dc, hT⟩
  have dZ := hT.below cm.1 (Nat.le_trans (en).size aP) (cm.1).size
  have fJ := hT.below cm.2.1 aP (cm.2.1).size
  clear hT
  refine list_step rfl (R := fun v w' => Below _ _ w' ∧ (VI 0) v w') (does_val (x_assign rfl (rfl)) rfl) ?_
  rintro iY jH ⟨hb, he⟩
  have gz := below_step dZ hb
  have fK := below_step fJ hb
  have fl := below_step (bR gt) hb
  obtain rfl : iY = .int .i64 0 := he
  refine hS.next (v := .int .i64 0) (d := 7) rfl (by decide) (by rfl) ?_
  clear hS
  intro iF hS
  refine list_step rfl (R := fun v w' => Below _ _ w' ∧ (VI 10) v w') (does_val (x_assign rfl (rfl)) rfl) ?_
  rintro iZ ir ⟨hb, he⟩
  have gA := below_step gz hb
  have iJ := below_step fK hb
  have fm := below_step fl hb
  have h2 := below_step (bR jH) hb
  obtain rfl : iZ = .int .i64 10 := he
  refine hS.next (v := .int .i64 10) (d := 8) rfl (by decide) (by rfl) ?_
  clear hS
  intro kj hS
  refine wpList_nil ?_
  refine fO _ _ ?_
  refine wp_ret ?_
  (try simp only [Exit.then, Exit.inBlock, Exit.jump, Exit.noGoto])
  exact bodyPost_ret (v := .tuple #[(carillonref07_Get.v0 0 0 0 0 0 0 0 0 0 0 0 0 0 0 0 0 0 0 0 0 0 0 0), .int .i64 0, .int .i64 10]) (results_list (rs := [.cell 6 28, .tmp 7, .tmp 8]) rfl (by simp) (Vals.cell g6 28 (carillonref07_Get.c1 0 0 0 0 0 0 0 0 0 0 0 0 0 0 0 0 0 0 0 0 0 0 0) (0, 0) _ (hS.get 3 rfl) ((fm.block g6 (blk_lt dc)).trans dc) Try.underlying28 rfl (by kernel_rfl) (Vals.at (hS.get 1 rfl) (Vals.at (hS.get 0 rfl) .nil)))) hS.nodef ⟨rfl, gA⟩
 rw [if_pos c6] at H
 refine wp_cond_false ((hS.get 0 rfl).trans (bF (congrArg (!·) c6))) ?_
 refine wp_skip ?_
 refine iP _ _ ?_
 refine wp_seq_k (fun i5 fO => ?_)
 refine reg_seq_tail 2 (I := I4_ w w3 w5 gs) (ps := [VI bd, VP g4 8]) (by kernel_rfl) ?_ ?_ rfl hS ⟨d3.1, d3.2.1, d3.2.2.1, (bR gs)⟩ ?_ ?_
 ·exact bs4
 ·exact .v (.v (.nil))
 ·refine .ms 1 rfl rfl rfl ?_
  refine .on rfl (fun a w hS hI hp => does_val (x_fieldE (b := 0) rfl (hS.get 4 rfl) Try.underlying28 rfl rfl (by kernel_rfl)) rfl) ?_
  exact .nil
 clear hS
 intro iE jG hS cm hp
 replace hS := (((((hS.nil).cons (hS.get 6 rfl)).cons (hS.get 5 rfl)).cons (hS.get 4 rfl)).cons (hS.get 3 rfl)).cons (hS.get 2 rfl)
 have ho : sl _ 54 = .int .i64 bd := hp 0 (by decide)
 have hq : sl _ 55 = .pointer (some ⟨g4, 8, none⟩) := hp 1 (by decide)
 have hS := hS.cons ho
 have hS := hS.cons hq
 clear hp ho hq
 show wpList _ _ _ [_] _ _
 refine list_step rfl (does_store (g := g4) (off := 8) (v := .int .i64 bd) (new := (carillonref07_Get.c1 aL ce cf cg ch ci cj ck bd cl bf bg bh bi bj bk bl bm bn bo bp bq br)) rfl (hS.get 0 rfl) (hS.get 1 rfl) ((cm.2.1.block g4 (blk_lt aD)).trans aD) (by kernel_rfl) (by kernel_rfl) (by kernel_rfl) (by kernel_rfl)) ?_
 rintro iX gt ⟨rfl, dc, hT⟩
 have hf := hT.blk ((cm.2.2.1.block g6 (blk_lt aM)).trans aM) fP
 have dZ := hT.below cm.1 e0 (cm.1).size
 clear hT
 refine wpList_nil ?_
 refine fO _ _ ?_
 refine reg_seq_tail 2 (I := I2_ w gt) (ps := [VI a2, VI (wrap64 (a2 + 10))]) (by kernel_rfl) ?_ ?_ rfl hS ⟨dZ, (bR gt)⟩ ?_ ?_
 ·exact bs2
 ·exact .v (.v (.nil))
 ·refine .ms 6 rfl rfl rfl ?_
  refine .on rfl (fun a w hS hI hp => does_val (x_bin rfl (hp.V 0 rfl rfl) (rfl) (b_add _ _ _ _ _)) rfl) ?_
  exact .nil
 clear hS
 intro iF ir hS hF hp
 replace hS := (((((hS.nil).cons (hS.get 6 rfl)).cons (hS.get 5 rfl)).cons (hS.get 4 rfl)).cons (hS.get 3 rfl)).cons (hS.get 2 rfl)
 have hr : sl _ 57 = .int .i64 (wrap64 (a2 + 10)) := hp 1 (by decide)
 have hS := hS.cons hr
 clear hp hr
 show wpList _ _ _ [_] _ _
 refine list_step rfl (R := fun v w' => Below _ _ w' ∧ (VI (wrap64 (a2 + 10))) v w') (does_val (x_assign rfl (hS.get 0 rfl)) rfl) ?_
 rintro i0 kz ⟨hb, he⟩
 have gB := below_step hF.1 hb
 have ek := below_step hF.2 hb
 have h3 := below_step (bR ir) hb
 obtain rfl : i0 = .int .i64 (wrap64 (a2 + 10)) := he
 replace hS := (((((hS.nil).cons (hS.get 4 rfl)).cons (hS.get 3 rfl)).cons (hS.get 2 rfl)).cons (hS.get 1 rfl)).cons (hS.get 0 rfl)
 refine hS.next (v := .int .i64 (wrap64 (a2 + 10))) (d := 2) rfl (by decide) (by rfl) ?_
 clear hS
 intro kk hS
 refine wpList_nil ?_
 replace hS := (((((hS.nil).cons (hS.get 2 rfl)).cons (hS.get 3 rfl)).cons (hS.get 4 rfl)).cons (hS.get 0 rfl)).cons (hS.get 5 rfl)
 (try simp only [Exit.then, Exit.inBlock])
 exact J1 _ _ l1 A1 ev (wrap64 (a2 + 10)) aL ce cf cg ch ci cj ck bd cl bf bg bh bi bj bk bl bm bn bo bp bq br g4 0 0 0 0 0 0 0 0 0 0 0 0 0 0 0 0 0 0 0 0 0 0 0 g6 (wrap64 (a2 + eK)) H hS gB HC1 (HR1) e0 ((ek.block g4 (blk_lt dc)).trans dc) (Nat.le_trans (en).size aP) ((ek.block g6 (blk_lt hf)).trans hf) fP
end Go.Proofs.Ytiomlbkakiienaa.P
