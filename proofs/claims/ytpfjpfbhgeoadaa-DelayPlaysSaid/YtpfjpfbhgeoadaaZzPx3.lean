/- Functions and loops of the given program as Lean functions, and that the code comes to what they say: written by this session's own program; Lean checks it. -/
import Derived.Test.YtpfjpfbhgeoadaaZzPx0
import Derived.Test.YtpfjpfbhgeoadaaZzPx2
namespace Go.Proofs.Ytpfjpfbhgeoadaa.P
open Go.RowKit Go.Proofs.YtpfjpfbhgeoadaaW.PrintWords Go.Proofs.YtpfjpfbhgeoadaaW.PrintLast Go.Proofs.YtpfjpfbhgeoadaaW.PrintMore
attribute [local go_sem] max2_int min2_int max_two min_two max_three min_three max_four min_four   -- for this text's walks alone
set_option linter.unusedVariables false
set_option linter.unusedSimpArgs false
/-! ### carillonref17_X_Response: function 19: by our own printer -/
def carillonref17_X_Response.f (a0_0 a0_1 a0_2 : Int) (a0_3 a0_4 : Bool) (a0_5 a0_6 a1_0 a1_1 a1_2 a1_3 a1_4 a1_5 a1_6 a1_7 a1_8 a1_9 a1_10 a1_11 a1_12 a1_13 a1_14 a1_15 a1_16 a1_17 a1_18 a1_19 a1_20 a1_21 a1_22 : Int) : Option (Int × Bool × Int × Int × Int × Bool × Bool × Int × Int) := if a1_0 = 9 then (if ((a1_9 == a0_0) && (a1_10 == a0_1)) = true then (if a0_4 = true then (if a1_6 = a0_5 then ((carillonref02_Floor.f a1_3).bind fun t11 => ((carillonref17_X_Clear.f a0_0 a0_1 a0_2 a0_3 a0_4 a0_5 a0_6).bind fun t18 => (some (wrap64 ((wrap64 (a1_8 - a0_6)) - t11), true, t18.1, t18.2.1, t18.2.2.1, t18.2.2.2.1, t18.2.2.2.2.1, t18.2.2.2.2.2.1, t18.2.2.2.2.2.2)))) else (some (0, false, a0_0, a0_1, a0_2, a0_3, a0_4, a0_5, a0_6))) else (some (0, false, a0_0, a0_1, a0_2, a0_3, a0_4, a0_5, a0_6))) else (some (0, false, a0_0, a0_1, a0_2, a0_3, a0_4, a0_5, a0_6))) else (some (0, false, a0_0, a0_1, a0_2, a0_3, a0_4, a0_5, a0_6))
open Go.Proofs.Ytpfjpfbhgeoadaa.E in
set_option maxRecDepth 100000 in
theorem carillonref17_X_Response.neq24 (x y : Operand) (w : World) (a0 a1 b0 b1 : Int) : (do eqGuard .neq 24 x y (.agg #[.int .u64 a0, .int .i64 a1]) (.agg #[.int .u64 b0, .int .i64 b1]); binOp .neq 24 (.agg #[.int .u64 a0, .int .i64 a1]) (.agg #[.int .u64 b0, .int .i64 b1]) : Sem Value).run Try.prog w = .ok (.bool (!((a0 == b0) && (a1 == b1)))) w := by
  have hu3 := Try.underlying3
  have hu22 := Try.underlying22
  have hu24 := Try.underlying24
  conv => lhs; simp [eqGuard, go_sem, hu3, hu22, hu24]
  exact ite_nand (ite_nlast)
abbrev carillonref17_X_Response.v0 (x0 x1 x2 x3 x4 x5 x6 x7 x8 x9 x10 x11 x12 x13 x14 x15 x16 x17 x18 x19 x20 x21 x22 : Int) : Value := .agg #[.int .i64 x0, .int .i64 x1, .int .i64 x2, .int .i64 x3, .int .u64 x4, .int .i64 x5, .int .i64 x6, .int .i64 x7, .int .i64 x8, .int .u64 x9, .int .i64 x10, .int .i64 x11, .int .i64 x12, .int .i64 x13, .int .i64 x14, .int .i64 x15, .int .i64 x16, .int .u64 x17, .int .i64 x18, .int .i64 x19, .int .i64 x20, .int .i64 x21, .int .i64 x22]
abbrev carillonref17_X_Response.c1 (x0 x1 x2 x3 x4 x5 x6 x7 x8 x9 x10 x11 x12 x13 x14 x15 x16 x17 x18 x19 x20 x21 x22 : Int) : Array Value := #[.int .i64 x0, .int .i64 x1, .int .i64 x2, .int .i64 x3, .int .u64 x4, .int .i64 x5, .int .i64 x6, .int .i64 x7, .int .i64 x8, .int .u64 x9, .int .i64 x10, .int .i64 x11, .int .i64 x12, .int .i64 x13, .int .i64 x14, .int .i64 x15, .int .i64 x16, .int .u64 x17, .int .i64 x18, .int .i64 x19, .int .i64 x20, .int .i64 x21, .int .i64 x22]
abbrev carillonref17_X_Response.c2 (x0 x1 x2 : Int) (x3 x4 : Bool) (x5 x6 : Int) : Array Value := #[.int .u64 x0, .int .i64 x1, .int .i64 x2, .bool x3, .bool x4, .int .i64 x5, .int .i64 x6]
open Go.Proofs.Ytpfjpfbhgeoadaa.E in
set_option maxHeartbeats 60000000 in
set_option maxRecDepth 100000 in
theorem carillonref17_X_Response.calls (g0 : Nat) (a0_0 a0_1 a0_2 : Int) (a0_3 a0_4 : Bool) (a0_5 a0_6 a1_0 a1_1 a1_2 a1_3 a1_4 a1_5 a1_6 a1_7 a1_8 a1_9 a1_10 a1_11 a1_12 a1_13 a1_14 a1_15 a1_16 a1_17 a1_18 a1_19 a1_20 a1_21 a1_22 r1 : Int) (r2 : Bool) (r3 r4 r5 : Int) (r6 r7 : Bool) (r8 r9 : Int) (w : World) (HP0 : w.heap[g0]? = some (.cells #[.int .u64 a0_0, .int .i64 a0_1, .int .i64 a0_2, .bool a0_3, .bool a0_4, .int .i64 a0_5, .int .i64 a0_6] 30 (0, 0))) (h : carillonref17_X_Response.f a0_0 a0_1 a0_2 a0_3 a0_4 a0_5 a0_6 a1_0 a1_1 a1_2 a1_3 a1_4 a1_5 a1_6 a1_7 a1_8 a1_9 a1_10 a1_11 a1_12 a1_13 a1_14 a1_15 a1_16 a1_17 a1_18 a1_19 a1_20 a1_21 a1_22 = some (r1, r2, r3, r4, r5, r6, r7, r8, r9)) :
    Calls Try.prog 19 #[.pointer (some ⟨g0, 0, none⟩), .agg #[.int .i64 a1_0, .int .i64 a1_1, .int .i64 a1_2, .int .i64 a1_3, .int .u64 a1_4, .int .i64 a1_5, .int .i64 a1_6, .int .i64 a1_7, .int .i64 a1_8, .int .u64 a1_9, .int .i64 a1_10, .int .i64 a1_11, .int .i64 a1_12, .int .i64 a1_13, .int .i64 a1_14, .int .i64 a1_15, .int .i64 a1_16, .int .u64 a1_17, .int .i64 a1_18, .int .i64 a1_19, .int .i64 a1_20, .int .i64 a1_21, .int .i64 a1_22]] w fun e w' => e = .returned (.tuple #[.int .i64 r1, .bool r2]) ∧ w'.heap[g0]? = some (.cells #[.int .u64 r3, .int .i64 r4, .int .i64 r5, .bool r6, .bool r7, .int .i64 r8, .int .i64 r9] 30 (0, 0)) ∧ Tch g0 w w' := by
  have H := h
  clear h
  unfold carillonref17_X_Response.f at H
  by_cases c1 : a1_0 = 9
  rotate_left
  · rw [if_neg c1] at H
    simp only [Option.some.injEq, Prod.mk.injEq] at H
    obtain ⟨rfl, rfl, rfl, rfl, rfl, rfl, rfl, rfl, rfl⟩ := H
    refine calls_of_wp (fn := Try.f19) (by kernel_rfl) rfl ?_
    have hS := St.enter #[.pointer (some ⟨g0, 0, none⟩), (carillonref17_X_Response.v0 a1_0 a1_1 a1_2 a1_3 a1_4 a1_5 a1_6 a1_7 a1_8 a1_9 a1_10 a1_11 a1_12 a1_13 a1_14 a1_15 a1_16 a1_17 a1_18 a1_19 a1_20 a1_21 a1_22)] 49 (by simp) [(0, .pointer (some ⟨g0, 0, none⟩)), (1, (carillonref17_X_Response.v0 a1_0 a1_1 a1_2 a1_3 a1_4 a1_5 a1_6 a1_7 a1_8 a1_9 a1_10 a1_11 a1_12 a1_13 a1_14 a1_15 a1_16 a1_17 a1_18 a1_19 a1_20 a1_21 a1_22))] (by simp)
    have HB0 := Below.refl w.heap.size w
    refine wp_seq_k (fun K1 hK1 => ?_)
    refine reg_seq (N := 49) (bs := [(0, .pointer (some ⟨g0, 0, none⟩)), (1, (carillonref17_X_Response.v0 a1_0 a1_1 a1_2 a1_3 a1_4 a1_5 a1_6 a1_7 a1_8 a1_9 a1_10 a1_11 a1_12 a1_13 a1_14 a1_15 a1_16 a1_17 a1_18 a1_19 a1_20 a1_21 a1_22))]) (I := fun x => Below w.heap.size w x) (ps := [IsB (carillonref17_X_Response.c1 a1_0 a1_1 a1_2 a1_3 a1_4 a1_5 a1_6 a1_7 a1_8 a1_9 a1_10 a1_11 a1_12 a1_13 a1_14 a1_15 a1_16 a1_17 a1_18 a1_19 a1_20 a1_21 a1_22) 34 w.heap.size, VI 0, VB false]) (by kernel_rfl) ?_ ?_ rfl hS HB0 ?_ ?_
    · exact fun x y hI hb => below_step hI hb
    · exact .cons (Stays.b _ _ _) (.v (.v (.nil)))
    · refine .on rfl (fun a w hS hI hp => does_var (x_box rfl (congrArg Value.cells (hS.get 1 rfl))) (hI).size) ?_
      iterate 2 refine .on rfl (fun a w hS hI hp => does_val (x_assign rfl (rfl)) rfl) ?_
      exact .nil
    clear hS
    intro at2 w3 hS hI hp
    have hBw3_w := hI
    replace hS := (hS.nil).cons (hS.get 0 rfl)
    obtain ⟨g4, hv3, hgeg4, hbxg4⟩ := (show IsB _ 34 _ (sl _ 3) _ from hp 0 (by decide))
    have hne5 : g4 ≠ g0 := Nat.ne_of_gt (Nat.lt_of_lt_of_le (blk_lt ((HB0.block g0 (blk_lt HP0)).trans HP0)) hgeg4)
    have hBw3_w3 := Below.refl w3.heap.size w3
    have hS := hS.cons hv3
    clear hp hI hv3
    refine hK1 _ _ ?_
    (try clear hK1 K1)
    refine wp_seq_k (fun K6 hK6 => ?_)
    refine wp_seq_k (fun K7 hK7 => ?_)
    refine reg_any (N := 49) (bs := [(3, .pointer (some ⟨g4, 0, none⟩)), (0, .pointer (some ⟨g0, 0, none⟩))]) (I := fun x => Below w.heap.size w x ∧ Below w3.heap.size w3 x) (ps := [VP g4 0, VI a1_0, VB (!decide (a1_0 = 9)), VB (!decide (a1_0 = 9)), VU, VU, VU, VU, VU, VU, VU, VB true, VB true, VU, VU, VU, VU, VU, VB true, VB true, VU, VU, VU, VU, VU, VU, VU, VB true]) (by kernel_rfl) (by kernel_rfl) ?_ ?_ rfl hS ⟨hBw3_w, hBw3_w3⟩ ?_ ?_
    · exact fun x y hI hb => ⟨below_step hI.1 hb, below_step hI.2 hb⟩
    · exact .v (.v (.v (.v (.v (.v (.v (.v (.v (.v (.v (.v (.v (.v (.v (.v (.v (.v (.v (.v (.v (.v (.v (.v (.v (.v (.v (.v (.nil))))))))))))))))))))))))))))
    · refine .on rfl (fun a w hS hI hp => does_val (x_fieldE (b := 0) rfl (hS.get 0 rfl) Try.underlying34 rfl rfl (by kernel_rfl)) rfl) ?_
      refine .on rfl (fun a w hS hI hp => does_val (x_load1 (d := .int .i64) rfl (hp.V 0 rfl rfl) (by kernel_rfl) rfl ((blk_cell (((hI.2).block g4 (blk_lt hbxg4)).trans hbxg4) 0).trans rfl)) rfl) ?_
      refine .on rfl (fun a w hS hI hp => does_val (x_bin rfl (hp.V 1 rfl rfl) (rfl) (b_neq _ _ _ _ _ _)) rfl) ?_
      refine .mv 2 rfl rfl rfl rfl ?_
      iterate 7 refine .sn 3 10 rfl rfl rfl rfl rfl ((congrArg (!·) (decide_eq_false c1))) ?_
      refine .on rfl (fun a w hS hI hp => does_val (x_pickT rfl ((hp.V 3 rfl rfl).trans (bT (congrArg (!·) (decide_eq_false c1)))) (rfl)) rfl) ?_
      refine .mv 11 rfl rfl rfl rfl ?_
      iterate 5 refine .sn 12 19 rfl rfl rfl rfl rfl rfl ?_
      refine .on rfl (fun a w hS hI hp => does_val (x_pickT rfl ((hp.V 12 rfl rfl).trans (bT rfl)) (rfl)) rfl) ?_
      refine .mv 18 rfl rfl rfl rfl ?_
      iterate 7 refine .sn 19 26 rfl rfl rfl rfl rfl rfl ?_
      refine .on rfl (fun a w hS hI hp => does_val (x_pickT rfl ((hp.V 19 rfl rfl).trans (bT rfl)) (rfl)) rfl) ?_
      exact .nil
    clear hS
    intro at8 w9 hS hI hp
    have hBw9_w := hI.1
    have hBw9_w3 := hI.2
    have hv34 : sl _ 34 = .bool true := hp 27 (by decide)
    have hBw9_w9 := Below.refl w9.heap.size w9
    have hS := hS.cons hv34
    clear hp hI hv34
    refine hK7 _ _ ?_
    (try clear hK7 K7)
    refine wp_cond_true ((hS.get 0 rfl).trans (bT rfl)) ?_
    refine wp_seq_k (fun K10 hK10 => ?_)
    refine reg_seq (N := 49) (bs := [(34, .bool true), (3, .pointer (some ⟨g4, 0, none⟩)), (0, .pointer (some ⟨g0, 0, none⟩))]) (I := fun x => Below w.heap.size w x ∧ Below w3.heap.size w3 x ∧ Below w9.heap.size w9 x) (ps := [VI 0, VB false]) (by kernel_rfl) ?_ ?_ rfl hS ⟨hBw9_w, hBw9_w3, hBw9_w9⟩ ?_ ?_
    · exact fun x y hI hb => ⟨below_step hI.1 hb, below_step hI.2.1 hb, below_step hI.2.2 hb⟩
    · exact .v (.v (.nil))
    · refine .on rfl (fun a w hS hI hp => does_val (x_assign rfl (rfl)) rfl) ?_
      refine .on rfl (fun a w hS hI hp => does_val (x_assign rfl (rfl)) rfl) ?_
      exact .nil
    clear hS
    intro at11 w12 hS hI hp
    have hBw12_w := hI.1
    have hBw12_w3 := hI.2.1
    have hBw12_w9 := hI.2.2
    replace hS := hS.nil
    have hv4 : sl _ 4 = .int .i64 0 := hp 0 (by decide)
    have hv5 : sl _ 5 = .bool false := hp 1 (by decide)
    have hBw12_w12 := Below.refl w12.heap.size w12
    have hS := hS.cons hv4
    have hS := hS.cons hv5
    clear hp hI hv4 hv5
    refine hK10 _ _ ?_
    (try clear hK10 K10)
    refine wp_ret ?_
    (try simp only [Exit.then, Exit.inBlock, Exit.jump, Exit.noGoto])
    exact bodyPost_ret (v := .tuple #[.int .i64 0, .bool false]) (results_list (rs := [.tmp 4, .tmp 5]) rfl (by simp) (Vals.at (hS.get 1 rfl) (Vals.at (hS.get 0 rfl) .nil))) hS.nodef ⟨rfl, ((hBw12_w.block g0 (blk_lt HP0)).trans HP0), (Tch.more (Tch.refl _ _) hBw12_w)⟩
  rw [if_pos c1] at H
  by_cases c2 : ((a1_9 == a0_0) && (a1_10 == a0_1)) = true
  rotate_left
  · rw [if_neg c2] at H
    simp only [Option.some.injEq, Prod.mk.injEq] at H
    obtain ⟨rfl, rfl, rfl, rfl, rfl, rfl, rfl, rfl, rfl⟩ := H
    refine calls_of_wp (fn := Try.f19) (by kernel_rfl) rfl ?_
    have hS := St.enter #[.pointer (some ⟨g0, 0, none⟩), (carillonref17_X_Response.v0 a1_0 a1_1 a1_2 a1_3 a1_4 a1_5 a1_6 a1_7 a1_8 a1_9 a1_10 a1_11 a1_12 a1_13 a1_14 a1_15 a1_16 a1_17 a1_18 a1_19 a1_20 a1_21 a1_22)] 49 (by simp) [(0, .pointer (some ⟨g0, 0, none⟩)), (1, (carillonref17_X_Response.v0 a1_0 a1_1 a1_2 a1_3 a1_4 a1_5 a1_6 a1_7 a1_8 a1_9 a1_10 a1_11 a1_12 a1_13 a1_14 a1_15 a1_16 a1_17 a1_18 a1_19 a1_20 a1_21 a1_22))] (by simp)
    have HB0 := Below.refl w.heap.size w
    refine wp_seq_k (fun K1 hK1 => ?_)
    refine reg_seq (N := 49) (bs := [(0, .pointer (some ⟨g0, 0, none⟩)), (1, (carillonref17_X_Response.v0 a1_0 a1_1 a1_2 a1_3 a1_4 a1_5 a1_6 a1_7 a1_8 a1_9 a1_10 a1_11 a1_12 a1_13 a1_14 a1_15 a1_16 a1_17 a1_18 a1_19 a1_20 a1_21 a1_22))]) (I := fun x => Below w.heap.size w x) (ps := [IsB (carillonref17_X_Response.c1 a1_0 a1_1 a1_2 a1_3 a1_4 a1_5 a1_6 a1_7 a1_8 a1_9 a1_10 a1_11 a1_12 a1_13 a1_14 a1_15 a1_16 a1_17 a1_18 a1_19 a1_20 a1_21 a1_22) 34 w.heap.size, VI 0, VB false]) (by kernel_rfl) ?_ ?_ rfl hS HB0 ?_ ?_
    · exact fun x y hI hb => below_step hI hb
    · exact .cons (Stays.b _ _ _) (.v (.v (.nil)))
    · refine .on rfl (fun a w hS hI hp => does_var (x_box rfl (congrArg Value.cells (hS.get 1 rfl))) (hI).size) ?_
      iterate 2 refine .on rfl (fun a w hS hI hp => does_val (x_assign rfl (rfl)) rfl) ?_
      exact .nil
    clear hS
    intro at2 w3 hS hI hp
    have hBw3_w := hI
    replace hS := (hS.nil).cons (hS.get 0 rfl)
    obtain ⟨g4, hv3, hgeg4, hbxg4⟩ := (show IsB _ 34 _ (sl _ 3) _ from hp 0 (by decide))
    have hne5 : g4 ≠ g0 := Nat.ne_of_gt (Nat.lt_of_lt_of_le (blk_lt ((HB0.block g0 (blk_lt HP0)).trans HP0)) hgeg4)
    have hBw3_w3 := Below.refl w3.heap.size w3
    have hS := hS.cons hv3
    clear hp hI hv3
    refine hK1 _ _ ?_
    (try clear hK1 K1)
    refine wp_seq_k (fun K6 hK6 => ?_)
    refine wp_seq_k (fun K7 hK7 => ?_)
    refine reg_any (N := 49) (bs := [(3, .pointer (some ⟨g4, 0, none⟩)), (0, .pointer (some ⟨g0, 0, none⟩))]) (I := fun x => Below w.heap.size w x ∧ Below w3.heap.size w3 x) (ps := [VP g4 0, VI a1_0, VB (!decide (a1_0 = 9)), VB (!decide (a1_0 = 9)), VP g4 9, IsV (.agg #[.int .u64 a1_9, .int .i64 a1_10]), VP g0 0, VP g0 0, VP g0 0, IsV (.agg #[.int .u64 a0_0, .int .i64 a0_1]), VB (!((a1_9 == a0_0) && (a1_10 == a0_1))), VB (!((a1_9 == a0_0) && (a1_10 == a0_1))), VB (!((a1_9 == a0_0) && (a1_10 == a0_1))), VU, VU, VU, VU, VU, VB true, VB true, VU, VU, VU, VU, VU, VU, VU, VB true]) (by kernel_rfl) (by kernel_rfl) ?_ ?_ rfl hS ⟨hBw3_w, hBw3_w3⟩ ?_ ?_
    · exact fun x y hI hb => ⟨below_step hI.1 hb, below_step hI.2 hb⟩
    · exact .v (.v (.v (.v (.v (.v (.v (.v (.v (.v (.v (.v (.v (.v (.v (.v (.v (.v (.v (.v (.v (.v (.v (.v (.v (.v (.v (.v (.nil))))))))))))))))))))))))))))
    · refine .on rfl (fun a w hS hI hp => does_val (x_fieldE (b := 0) rfl (hS.get 0 rfl) Try.underlying34 rfl rfl (by kernel_rfl)) rfl) ?_
      refine .on rfl (fun a w hS hI hp => does_val (x_load1 (d := .int .i64) rfl (hp.V 0 rfl rfl) (by kernel_rfl) rfl ((blk_cell (((hI.2).block g4 (blk_lt hbxg4)).trans hbxg4) 0).trans rfl)) rfl) ?_
      refine .on rfl (fun a w hS hI hp => does_val (x_bin rfl (hp.V 1 rfl rfl) (rfl) (b_neq _ _ _ _ _ _)) rfl) ?_
      refine .mv 2 rfl rfl rfl rfl ?_
      refine .oy 3 10 rfl rfl rfl rfl rfl ((congrArg (!·) (decide_eq_true c1))) (fun a w hS hI hp => does_val (x_fieldE (b := 0) rfl (hS.get 0 rfl) Try.underlying34 rfl rfl (by kernel_rfl)) rfl) ?_
      refine .oy 3 10 rfl rfl rfl rfl rfl ((congrArg (!·) (decide_eq_true c1))) (fun a w hS hI hp => does_loadmid (cs := [.int .u64 a1_9, .int .i64 a1_10]) rfl (hp.V 4 rfl rfl) (((hI.2).block g4 (blk_lt hbxg4)).trans hbxg4) (by kernel_rfl) Try.underlying24 rfl (by kernel_rfl) rfl) ?_
      refine .oy 3 10 rfl rfl rfl rfl rfl ((congrArg (!·) (decide_eq_true c1))) (fun a w hS hI hp => does_val (x_move rfl (hS.get 1 rfl)) rfl) ?_
      refine .oy 3 10 rfl rfl rfl rfl rfl ((congrArg (!·) (decide_eq_true c1))) (fun a w hS hI hp => does_val (x_nilck rfl (hp.V 6 rfl rfl)) rfl) ?_
      refine .oy 3 10 rfl rfl rfl rfl rfl ((congrArg (!·) (decide_eq_true c1))) (fun a w hS hI hp => does_val (x_fieldE (b := 0) rfl (hp.V 7 rfl rfl) Try.underlying30 rfl rfl (by kernel_rfl)) rfl) ?_
      refine .oy 3 10 rfl rfl rfl rfl rfl ((congrArg (!·) (decide_eq_true c1))) (fun a w hS hI hp => does_loadmid (cs := [.int .u64 a0_0, .int .i64 a0_1]) rfl (hp.V 8 rfl rfl) (((hI.1).block g0 (blk_lt HP0)).trans HP0) (by kernel_rfl) Try.underlying24 rfl (by kernel_rfl) rfl) ?_
      refine .oy 3 10 rfl rfl rfl rfl rfl ((congrArg (!·) (decide_eq_true c1))) (fun a w hS hI hp => does_val (x_bin rfl (hp.V 5 rfl rfl) (hp.V 9 rfl rfl) (carillonref17_X_Response.neq24 _ _ _ a1_9 a1_10 a0_0 a0_1)) rfl) ?_
      refine .on rfl (fun a w hS hI hp => does_val (x_pickF rfl ((hp.V 3 rfl rfl).trans (bF (congrArg (!·) (decide_eq_true c1)))) (hp.V 10 rfl rfl)) rfl) ?_
      refine .mv 11 rfl rfl rfl rfl ?_
      iterate 5 refine .sn 12 19 rfl rfl rfl rfl rfl ((congrArg (!·) (Bool.eq_false_iff.2 c2))) ?_
      refine .on rfl (fun a w hS hI hp => does_val (x_pickT rfl ((hp.V 12 rfl rfl).trans (bT (congrArg (!·) (Bool.eq_false_iff.2 c2)))) (rfl)) rfl) ?_
      refine .mv 18 rfl rfl rfl rfl ?_
      iterate 7 refine .sn 19 26 rfl rfl rfl rfl rfl rfl ?_
      refine .on rfl (fun a w hS hI hp => does_val (x_pickT rfl ((hp.V 19 rfl rfl).trans (bT rfl)) (rfl)) rfl) ?_
      exact .nil
    clear hS
    intro at8 w9 hS hI hp
    have hBw9_w := hI.1
    have hBw9_w3 := hI.2
    have hv34 : sl _ 34 = .bool true := hp 27 (by decide)
    have hBw9_w9 := Below.refl w9.heap.size w9
    have hS := hS.cons hv34
    clear hp hI hv34
    refine hK7 _ _ ?_
    (try clear hK7 K7)
    refine wp_cond_true ((hS.get 0 rfl).trans (bT rfl)) ?_
    refine wp_seq_k (fun K10 hK10 => ?_)
    refine reg_seq (N := 49) (bs := [(34, .bool true), (3, .pointer (some ⟨g4, 0, none⟩)), (0, .pointer (some ⟨g0, 0, none⟩))]) (I := fun x => Below w.heap.size w x ∧ Below w3.heap.size w3 x ∧ Below w9.heap.size w9 x) (ps := [VI 0, VB false]) (by kernel_rfl) ?_ ?_ rfl hS ⟨hBw9_w, hBw9_w3, hBw9_w9⟩ ?_ ?_
    · exact fun x y hI hb => ⟨below_step hI.1 hb, below_step hI.2.1 hb, below_step hI.2.2 hb⟩
    · exact .v (.v (.nil))
    · refine .on rfl (fun a w hS hI hp => does_val (x_assign rfl (rfl)) rfl) ?_
      refine .on rfl (fun a w hS hI hp => does_val (x_assign rfl (rfl)) rfl) ?_
      exact .nil
    clear hS
    intro at11 w12 hS hI hp
    have hBw12_w := hI.1
    have hBw12_w3 := hI.2.1
    have hBw12_w9 := hI.2.2
    replace hS := hS.nil
    have hv4 : sl _ 4 = .int .i64 0 := hp 0 (by decide)
    have hv5 : sl _ 5 = .bool false := hp 1 (by decide)
    have hBw12_w12 := Below.refl w12.heap.size w12
    have hS := hS.cons hv4
    have hS := hS.cons hv5
    clear hp hI hv4 hv5
    refine hK10 _ _ ?_
    (try clear hK10 K10)
    refine wp_ret ?_
    (try simp only [Exit.then, Exit.inBlock, Exit.jump, Exit.noGoto])
    exact bodyPost_ret (v := .tuple #[.int .i64 0, .bool false]) (results_list (rs := [.tmp 4, .tmp 5]) rfl (by simp) (Vals.at (hS.get 1 rfl) (Vals.at (hS.get 0 rfl) .nil))) hS.nodef ⟨rfl, ((hBw12_w.block g0 (blk_lt HP0)).trans HP0), (Tch.more (Tch.refl _ _) hBw12_w)⟩
  rw [if_pos c2] at H
  by_cases c3 : a0_4 = true
  rotate_left
  · rw [if_neg c3] at H
    simp only [Option.some.injEq, Prod.mk.injEq] at H
    obtain ⟨rfl, rfl, rfl, rfl, rfl, rfl, rfl, rfl, rfl⟩ := H
    refine calls_of_wp (fn := Try.f19) (by kernel_rfl) rfl ?_
    have hS := St.enter #[.pointer (some ⟨g0, 0, none⟩), (carillonref17_X_Response.v0 a1_0 a1_1 a1_2 a1_3 a1_4 a1_5 a1_6 a1_7 a1_8 a1_9 a1_10 a1_11 a1_12 a1_13 a1_14 a1_15 a1_16 a1_17 a1_18 a1_19 a1_20 a1_21 a1_22)] 49 (by simp) [(0, .pointer (some ⟨g0, 0, none⟩)), (1, (carillonref17_X_Response.v0 a1_0 a1_1 a1_2 a1_3 a1_4 a1_5 a1_6 a1_7 a1_8 a1_9 a1_10 a1_11 a1_12 a1_13 a1_14 a1_15 a1_16 a1_17 a1_18 a1_19 a1_20 a1_21 a1_22))] (by simp)
    have HB0 := Below.refl w.heap.size w
    refine wp_seq_k (fun K1 hK1 => ?_)
    refine reg_seq (N := 49) (bs := [(0, .pointer (some ⟨g0, 0, none⟩)), (1, (carillonref17_X_Response.v0 a1_0 a1_1 a1_2 a1_3 a1_4 a1_5 a1_6 a1_7 a1_8 a1_9 a1_10 a1_11 a1_12 a1_13 a1_14 a1_15 a1_16 a1_17 a1_18 a1_19 a1_20 a1_21 a1_22))]) (I := fun x => Below w.heap.size w x) (ps := [IsB (carillonref17_X_Response.c1 a1_0 a1_1 a1_2 a1_3 a1_4 a1_5 a1_6 a1_7 a1_8 a1_9 a1_10 a1_11 a1_12 a1_13 a1_14 a1_15 a1_16 a1_17 a1_18 a1_19 a1_20 a1_21 a1_22) 34 w.heap.size, VI 0, VB false]) (by kernel_rfl) ?_ ?_ rfl hS HB0 ?_ ?_
    · exact fun x y hI hb => below_step hI hb
    · exact .cons (Stays.b _ _ _) (.v (.v (.nil)))
    · refine .on rfl (fun a w hS hI hp => does_var (x_box rfl (congrArg Value.cells (hS.get 1 rfl))) (hI).size) ?_
      iterate 2 refine .on rfl (fun a w hS hI hp => does_val (x_assign rfl (rfl)) rfl) ?_
      exact .nil
    clear hS
    intro at2 w3 hS hI hp
    have hBw3_w := hI
    replace hS := (hS.nil).cons (hS.get 0 rfl)
    obtain ⟨g4, hv3, hgeg4, hbxg4⟩ := (show IsB _ 34 _ (sl _ 3) _ from hp 0 (by decide))
    have hne5 : g4 ≠ g0 := Nat.ne_of_gt (Nat.lt_of_lt_of_le (blk_lt ((HB0.block g0 (blk_lt HP0)).trans HP0)) hgeg4)
    have hBw3_w3 := Below.refl w3.heap.size w3
    have hS := hS.cons hv3
    clear hp hI hv3
    refine hK1 _ _ ?_
    (try clear hK1 K1)
    refine wp_seq_k (fun K6 hK6 => ?_)
    refine wp_seq_k (fun K7 hK7 => ?_)
    refine reg_any (N := 49) (bs := [(3, .pointer (some ⟨g4, 0, none⟩)), (0, .pointer (some ⟨g0, 0, none⟩))]) (I := fun x => Below w.heap.size w x ∧ Below w3.heap.size w3 x) (ps := [VP g4 0, VI a1_0, VB (!decide (a1_0 = 9)), VB (!decide (a1_0 = 9)), VP g4 9, IsV (.agg #[.int .u64 a1_9, .int .i64 a1_10]), VP g0 0, VP g0 0, VP g0 0, IsV (.agg #[.int .u64 a0_0, .int .i64 a0_1]), VB (!((a1_9 == a0_0) && (a1_10 == a0_1))), VB (!((a1_9 == a0_0) && (a1_10 == a0_1))), VB (!((a1_9 == a0_0) && (a1_10 == a0_1))), VP g0 0, VP g0 0, VP g0 4, VB a0_4, VB (!a0_4), VB (!a0_4), VB (!a0_4), VU, VU, VU, VU, VU, VU, VU, VB true]) (by kernel_rfl) (by kernel_rfl) ?_ ?_ rfl hS ⟨hBw3_w, hBw3_w3⟩ ?_ ?_
    · exact fun x y hI hb => ⟨below_step hI.1 hb, below_step hI.2 hb⟩
    · exact .v (.v (.v (.v (.v (.v (.v (.v (.v (.v (.v (.v (.v (.v (.v (.v (.v (.v (.v (.v (.v (.v (.v (.v (.v (.v (.v (.v (.nil))))))))))))))))))))))))))))
    · refine .on rfl (fun a w hS hI hp => does_val (x_fieldE (b := 0) rfl (hS.get 0 rfl) Try.underlying34 rfl rfl (by kernel_rfl)) rfl) ?_
      refine .on rfl (fun a w hS hI hp => does_val (x_load1 (d := .int .i64) rfl (hp.V 0 rfl rfl) (by kernel_rfl) rfl ((blk_cell (((hI.2).block g4 (blk_lt hbxg4)).trans hbxg4) 0).trans rfl)) rfl) ?_
      refine .on rfl (fun a w hS hI hp => does_val (x_bin rfl (hp.V 1 rfl rfl) (rfl) (b_neq _ _ _ _ _ _)) rfl) ?_
      refine .mv 2 rfl rfl rfl rfl ?_
      refine .oy 3 10 rfl rfl rfl rfl rfl ((congrArg (!·) (decide_eq_true c1))) (fun a w hS hI hp => does_val (x_fieldE (b := 0) rfl (hS.get 0 rfl) Try.underlying34 rfl rfl (by kernel_rfl)) rfl) ?_
      refine .oy 3 10 rfl rfl rfl rfl rfl ((congrArg (!·) (decide_eq_true c1))) (fun a w hS hI hp => does_loadmid (cs := [.int .u64 a1_9, .int .i64 a1_10]) rfl (hp.V 4 rfl rfl) (((hI.2).block g4 (blk_lt hbxg4)).trans hbxg4) (by kernel_rfl) Try.underlying24 rfl (by kernel_rfl) rfl) ?_
      refine .oy 3 10 rfl rfl rfl rfl rfl ((congrArg (!·) (decide_eq_true c1))) (fun a w hS hI hp => does_val (x_move rfl (hS.get 1 rfl)) rfl) ?_
      refine .oy 3 10 rfl rfl rfl rfl rfl ((congrArg (!·) (decide_eq_true c1))) (fun a w hS hI hp => does_val (x_nilck rfl (hp.V 6 rfl rfl)) rfl) ?_
      refine .oy 3 10 rfl rfl rfl rfl rfl ((congrArg (!·) (decide_eq_true c1))) (fun a w hS hI hp => does_val (x_fieldE (b := 0) rfl (hp.V 7 rfl rfl) Try.underlying30 rfl rfl (by kernel_rfl)) rfl) ?_
      refine .oy 3 10 rfl rfl rfl rfl rfl ((congrArg (!·) (decide_eq_true c1))) (fun a w hS hI hp => does_loadmid (cs := [.int .u64 a0_0, .int .i64 a0_1]) rfl (hp.V 8 rfl rfl) (((hI.1).block g0 (blk_lt HP0)).trans HP0) (by kernel_rfl) Try.underlying24 rfl (by kernel_rfl) rfl) ?_
      refine .oy 3 10 rfl rfl rfl rfl rfl ((congrArg (!·) (decide_eq_true c1))) (fun a w hS hI hp => does_val (x_bin rfl (hp.V 5 rfl rfl) (hp.V 9 rfl rfl) (carillonref17_X_Response.neq24 _ _ _ a1_9 a1_10 a0_0 a0_1)) rfl) ?_
      refine .on rfl (fun a w hS hI hp => does_val (x_pickF rfl ((hp.V 3 rfl rfl).trans (bF (congrArg (!·) (decide_eq_true c1)))) (hp.V 10 rfl rfl)) rfl) ?_
      refine .mv 11 rfl rfl rfl rfl ?_
      refine .oy 12 19 rfl rfl rfl rfl rfl ((congrArg (!·) c2)) (fun a w hS hI hp => does_val (x_move rfl (hS.get 1 rfl)) rfl) ?_
      refine .oy 12 19 rfl rfl rfl rfl rfl ((congrArg (!·) c2)) (fun a w hS hI hp => does_val (x_nilck rfl (hp.V 13 rfl rfl)) rfl) ?_
      refine .oy 12 19 rfl rfl rfl rfl rfl ((congrArg (!·) c2)) (fun a w hS hI hp => does_val (x_fieldE (b := 0) rfl (hp.V 14 rfl rfl) Try.underlying30 rfl rfl (by kernel_rfl)) rfl) ?_
      refine .oy 12 19 rfl rfl rfl rfl rfl ((congrArg (!·) c2)) (fun a w hS hI hp => does_val (x_load1 (d := .bool) rfl (hp.V 15 rfl rfl) (by kernel_rfl) rfl ((blk_cell (((hI.1).block g0 (blk_lt HP0)).trans HP0) 4).trans rfl)) rfl) ?_
      refine .oy 12 19 rfl rfl rfl rfl rfl ((congrArg (!·) c2)) (fun a w hS hI hp => does_val (x_not rfl (hp.V 16 rfl rfl)) rfl) ?_
      refine .on rfl (fun a w hS hI hp => does_val (x_pickF rfl ((hp.V 12 rfl rfl).trans (bF (congrArg (!·) c2))) (hp.V 17 rfl rfl)) rfl) ?_
      refine .mv 18 rfl rfl rfl rfl ?_
      iterate 7 refine .sn 19 26 rfl rfl rfl rfl rfl ((congrArg (!·) (Bool.eq_false_iff.2 c3))) ?_
      refine .on rfl (fun a w hS hI hp => does_val (x_pickT rfl ((hp.V 19 rfl rfl).trans (bT (congrArg (!·) (Bool.eq_false_iff.2 c3)))) (rfl)) rfl) ?_
      exact .nil
    clear hS
    intro at8 w9 hS hI hp
    have hBw9_w := hI.1
    have hBw9_w3 := hI.2
    have hv34 : sl _ 34 = .bool true := hp 27 (by decide)
    have hBw9_w9 := Below.refl w9.heap.size w9
    have hS := hS.cons hv34
    clear hp hI hv34
    refine hK7 _ _ ?_
    (try clear hK7 K7)
    refine wp_cond_true ((hS.get 0 rfl).trans (bT rfl)) ?_
    refine wp_seq_k (fun K10 hK10 => ?_)
    refine reg_seq (N := 49) (bs := [(34, .bool true), (3, .pointer (some ⟨g4, 0, none⟩)), (0, .pointer (some ⟨g0, 0, none⟩))]) (I := fun x => Below w.heap.size w x ∧ Below w3.heap.size w3 x ∧ Below w9.heap.size w9 x) (ps := [VI 0, VB false]) (by kernel_rfl) ?_ ?_ rfl hS ⟨hBw9_w, hBw9_w3, hBw9_w9⟩ ?_ ?_
    · exact fun x y hI hb => ⟨below_step hI.1 hb, below_step hI.2.1 hb, below_step hI.2.2 hb⟩
    · exact .v (.v (.nil))
    · refine .on rfl (fun a w hS hI hp => does_val (x_assign rfl (rfl)) rfl) ?_
      refine .on rfl (fun a w hS hI hp => does_val (x_assign rfl (rfl)) rfl) ?_
      exact .nil
    clear hS
    intro at11 w12 hS hI hp
    have hBw12_w := hI.1
    have hBw12_w3 := hI.2.1
    have hBw12_w9 := hI.2.2
    replace hS := hS.nil
    have hv4 : sl _ 4 = .int .i64 0 := hp 0 (by decide)
    have hv5 : sl _ 5 = .bool false := hp 1 (by decide)
    have hBw12_w12 := Below.refl w12.heap.size w12
    have hS := hS.cons hv4
    have hS := hS.cons hv5
    clear hp hI hv4 hv5
    refine hK10 _ _ ?_
    (try clear hK10 K10)
    refine wp_ret ?_
    (try simp only [Exit.then, Exit.inBlock, Exit.jump, Exit.noGoto])
    exact bodyPost_ret (v := .tuple #[.int .i64 0, .bool false]) (results_list (rs := [.tmp 4, .tmp 5]) rfl (by simp) (Vals.at (hS.get 1 rfl) (Vals.at (hS.get 0 rfl) .nil))) hS.nodef ⟨rfl, ((hBw12_w.block g0 (blk_lt HP0)).trans HP0), (Tch.more (Tch.refl _ _) hBw12_w)⟩
  rw [if_pos c3] at H
  by_cases c4 : a1_6 = a0_5
  rotate_left
  · rw [if_neg c4] at H
    simp only [Option.some.injEq, Prod.mk.injEq] at H
    obtain ⟨rfl, rfl, rfl, rfl, rfl, rfl, rfl, rfl, rfl⟩ := H
    refine calls_of_wp (fn := Try.f19) (by kernel_rfl) rfl ?_
    have hS := St.enter #[.pointer (some ⟨g0, 0, none⟩), (carillonref17_X_Response.v0 a1_0 a1_1 a1_2 a1_3 a1_4 a1_5 a1_6 a1_7 a1_8 a1_9 a1_10 a1_11 a1_12 a1_13 a1_14 a1_15 a1_16 a1_17 a1_18 a1_19 a1_20 a1_21 a1_22)] 49 (by simp) [(0, .pointer (some ⟨g0, 0, none⟩)), (1, (carillonref17_X_Response.v0 a1_0 a1_1 a1_2 a1_3 a1_4 a1_5 a1_6 a1_7 a1_8 a1_9 a1_10 a1_11 a1_12 a1_13 a1_14 a1_15 a1_16 a1_17 a1_18 a1_19 a1_20 a1_21 a1_22))] (by simp)
    have HB0 := Below.refl w.heap.size w
    refine wp_seq_k (fun K1 hK1 => ?_)
    refine reg_seq (N := 49) (bs := [(0, .pointer (some ⟨g0, 0, none⟩)), (1, (carillonref17_X_Response.v0 a1_0 a1_1 a1_2 a1_3 a1_4 a1_5 a1_6 a1_7 a1_8 a1_9 a1_10 a1_11 a1_12 a1_13 a1_14 a1_15 a1_16 a1_17 a1_18 a1_19 a1_20 a1_21 a1_22))]) (I := fun x => Below w.heap.size w x) (ps := [IsB (carillonref17_X_Response.c1 a1_0 a1_1 a1_2 a1_3 a1_4 a1_5 a1_6 a1_7 a1_8 a1_9 a1_10 a1_11 a1_12 a1_13 a1_14 a1_15 a1_16 a1_17 a1_18 a1_19 a1_20 a1_21 a1_22) 34 w.heap.size, VI 0, VB false]) (by kernel_rfl) ?_ ?_ rfl hS HB0 ?_ ?_
    · exact fun x y hI hb => below_step hI hb
    · exact .cons (Stays.b _ _ _) (.v (.v (.nil)))
    · refine .on rfl (fun a w hS hI hp => does_var (x_box rfl (congrArg Value.cells (hS.get 1 rfl))) (hI).size) ?_
      iterate 2 refine .on rfl (fun a w hS hI hp => does_val (x_assign rfl (rfl)) rfl) ?_
      exact .nil
    clear hS
    intro at2 w3 hS hI hp
    have hBw3_w := hI
    replace hS := (hS.nil).cons (hS.get 0 rfl)
    obtain ⟨g4, hv3, hgeg4, hbxg4⟩ := (show IsB _ 34 _ (sl _ 3) _ from hp 0 (by decide))
    have hne5 : g4 ≠ g0 := Nat.ne_of_gt (Nat.lt_of_lt_of_le (blk_lt ((HB0.block g0 (blk_lt HP0)).trans HP0)) hgeg4)
    have hBw3_w3 := Below.refl w3.heap.size w3
    have hS := hS.cons hv3
    clear hp hI hv3
    refine hK1 _ _ ?_
    (try clear hK1 K1)
    refine wp_seq_k (fun K6 hK6 => ?_)
    refine wp_seq_k (fun K7 hK7 => ?_)
    refine reg_any (N := 49) (bs := [(3, .pointer (some ⟨g4, 0, none⟩)), (0, .pointer (some ⟨g0, 0, none⟩))]) (I := fun x => Below w.heap.size w x ∧ Below w3.heap.size w3 x) (ps := [VP g4 0, VI a1_0, VB (!decide (a1_0 = 9)), VB (!decide (a1_0 = 9)), VP g4 9, IsV (.agg #[.int .u64 a1_9, .int .i64 a1_10]), VP g0 0, VP g0 0, VP g0 0, IsV (.agg #[.int .u64 a0_0, .int .i64 a0_1]), VB (!((a1_9 == a0_0) && (a1_10 == a0_1))), VB (!((a1_9 == a0_0) && (a1_10 == a0_1))), VB (!((a1_9 == a0_0) && (a1_10 == a0_1))), VP g0 0, VP g0 0, VP g0 4, VB a0_4, VB (!a0_4), VB (!a0_4), VB (!a0_4), VP g4 6, VI a1_6, VP g0 0, VP g0 0, VP g0 5, VI a0_5, VB (!decide (a1_6 = a0_5)), VB (!decide (a1_6 = a0_5))]) (by kernel_rfl) (by kernel_rfl) ?_ ?_ rfl hS ⟨hBw3_w, hBw3_w3⟩ ?_ ?_
    · exact fun x y hI hb => ⟨below_step hI.1 hb, below_step hI.2 hb⟩
    · exact .v (.v (.v (.v (.v (.v (.v (.v (.v (.v (.v (.v (.v (.v (.v (.v (.v (.v (.v (.v (.v (.v (.v (.v (.v (.v (.v (.v (.nil))))))))))))))))))))))))))))
    · refine .on rfl (fun a w hS hI hp => does_val (x_fieldE (b := 0) rfl (hS.get 0 rfl) Try.underlying34 rfl rfl (by kernel_rfl)) rfl) ?_
      refine .on rfl (fun a w hS hI hp => does_val (x_load1 (d := .int .i64) rfl (hp.V 0 rfl rfl) (by kernel_rfl) rfl ((blk_cell (((hI.2).block g4 (blk_lt hbxg4)).trans hbxg4) 0).trans rfl)) rfl) ?_
      refine .on rfl (fun a w hS hI hp => does_val (x_bin rfl (hp.V 1 rfl rfl) (rfl) (b_neq _ _ _ _ _ _)) rfl) ?_
      refine .mv 2 rfl rfl rfl rfl ?_
      refine .oy 3 10 rfl rfl rfl rfl rfl ((congrArg (!·) (decide_eq_true c1))) (fun a w hS hI hp => does_val (x_fieldE (b := 0) rfl (hS.get 0 rfl) Try.underlying34 rfl rfl (by kernel_rfl)) rfl) ?_
      refine .oy 3 10 rfl rfl rfl rfl rfl ((congrArg (!·) (decide_eq_true c1))) (fun a w hS hI hp => does_loadmid (cs := [.int .u64 a1_9, .int .i64 a1_10]) rfl (hp.V 4 rfl rfl) (((hI.2).block g4 (blk_lt hbxg4)).trans hbxg4) (by kernel_rfl) Try.underlying24 rfl (by kernel_rfl) rfl) ?_
      refine .oy 3 10 rfl rfl rfl rfl rfl ((congrArg (!·) (decide_eq_true c1))) (fun a w hS hI hp => does_val (x_move rfl (hS.get 1 rfl)) rfl) ?_
      refine .oy 3 10 rfl rfl rfl rfl rfl ((congrArg (!·) (decide_eq_true c1))) (fun a w hS hI hp => does_val (x_nilck rfl (hp.V 6 rfl rfl)) rfl) ?_
      refine .oy 3 10 rfl rfl rfl rfl rfl ((congrArg (!·) (decide_eq_true c1))) (fun a w hS hI hp => does_val (x_fieldE (b := 0) rfl (hp.V 7 rfl rfl) Try.underlying30 rfl rfl (by kernel_rfl)) rfl) ?_
      refine .oy 3 10 rfl rfl rfl rfl rfl ((congrArg (!·) (decide_eq_true c1))) (fun a w hS hI hp => does_loadmid (cs := [.int .u64 a0_0, .int .i64 a0_1]) rfl (hp.V 8 rfl rfl) (((hI.1).block g0 (blk_lt HP0)).trans HP0) (by kernel_rfl) Try.underlying24 rfl (by kernel_rfl) rfl) ?_
      refine .oy 3 10 rfl rfl rfl rfl rfl ((congrArg (!·) (decide_eq_true c1))) (fun a w hS hI hp => does_val (x_bin rfl (hp.V 5 rfl rfl) (hp.V 9 rfl rfl) (carillonref17_X_Response.neq24 _ _ _ a1_9 a1_10 a0_0 a0_1)) rfl) ?_
      refine .on rfl (fun a w hS hI hp => does_val (x_pickF rfl ((hp.V 3 rfl rfl).trans (bF (congrArg (!·) (decide_eq_true c1)))) (hp.V 10 rfl rfl)) rfl) ?_
      refine .mv 11 rfl rfl rfl rfl ?_
      refine .oy 12 19 rfl rfl rfl rfl rfl ((congrArg (!·) c2)) (fun a w hS hI hp => does_val (x_move rfl (hS.get 1 rfl)) rfl) ?_
      refine .oy 12 19 rfl rfl rfl rfl rfl ((congrArg (!·) c2)) (fun a w hS hI hp => does_val (x_nilck rfl (hp.V 13 rfl rfl)) rfl) ?_
      refine .oy 12 19 rfl rfl rfl rfl rfl ((congrArg (!·) c2)) (fun a w hS hI hp => does_val (x_fieldE (b := 0) rfl (hp.V 14 rfl rfl) Try.underlying30 rfl rfl (by kernel_rfl)) rfl) ?_
      refine .oy 12 19 rfl rfl rfl rfl rfl ((congrArg (!·) c2)) (fun a w hS hI hp => does_val (x_load1 (d := .bool) rfl (hp.V 15 rfl rfl) (by kernel_rfl) rfl ((blk_cell (((hI.1).block g0 (blk_lt HP0)).trans HP0) 4).trans rfl)) rfl) ?_
      refine .oy 12 19 rfl rfl rfl rfl rfl ((congrArg (!·) c2)) (fun a w hS hI hp => does_val (x_not rfl (hp.V 16 rfl rfl)) rfl) ?_
      refine .on rfl (fun a w hS hI hp => does_val (x_pickF rfl ((hp.V 12 rfl rfl).trans (bF (congrArg (!·) c2))) (hp.V 17 rfl rfl)) rfl) ?_
      refine .mv 18 rfl rfl rfl rfl ?_
      refine .oy 19 26 rfl rfl rfl rfl rfl ((congrArg (!·) c3)) (fun a w hS hI hp => does_val (x_fieldE (b := 0) rfl (hS.get 0 rfl) Try.underlying34 rfl rfl (by kernel_rfl)) rfl) ?_
      refine .oy 19 26 rfl rfl rfl rfl rfl ((congrArg (!·) c3)) (fun a w hS hI hp => does_val (x_load1 (d := .int .i64) rfl (hp.V 20 rfl rfl) (by kernel_rfl) rfl ((blk_cell (((hI.2).block g4 (blk_lt hbxg4)).trans hbxg4) 6).trans rfl)) rfl) ?_
      refine .oy 19 26 rfl rfl rfl rfl rfl ((congrArg (!·) c3)) (fun a w hS hI hp => does_val (x_move rfl (hS.get 1 rfl)) rfl) ?_
      refine .oy 19 26 rfl rfl rfl rfl rfl ((congrArg (!·) c3)) (fun a w hS hI hp => does_val (x_nilck rfl (hp.V 22 rfl rfl)) rfl) ?_
      refine .oy 19 26 rfl rfl rfl rfl rfl ((congrArg (!·) c3)) (fun a w hS hI hp => does_val (x_fieldE (b := 0) rfl (hp.V 23 rfl rfl) Try.underlying30 rfl rfl (by kernel_rfl)) rfl) ?_
      refine .oy 19 26 rfl rfl rfl rfl rfl ((congrArg (!·) c3)) (fun a w hS hI hp => does_val (x_load1 (d := .int .i64) rfl (hp.V 24 rfl rfl) (by kernel_rfl) rfl ((blk_cell (((hI.1).block g0 (blk_lt HP0)).trans HP0) 5).trans rfl)) rfl) ?_
      refine .oy 19 26 rfl rfl rfl rfl rfl ((congrArg (!·) c3)) (fun a w hS hI hp => does_val (x_bin rfl (hp.V 21 rfl rfl) (hp.V 25 rfl rfl) (b_neq _ _ _ _ _ _)) rfl) ?_
      refine .on rfl (fun a w hS hI hp => does_val (x_pickF rfl ((hp.V 19 rfl rfl).trans (bF (congrArg (!·) c3))) (hp.V 26 rfl rfl)) rfl) ?_
      exact .nil
    clear hS
    intro at8 w9 hS hI hp
    have hBw9_w := hI.1
    have hBw9_w3 := hI.2
    have hv34 : sl _ 34 = .bool (!decide (a1_6 = a0_5)) := hp 27 (by decide)
    have hBw9_w9 := Below.refl w9.heap.size w9
    have hS := hS.cons hv34
    clear hp hI hv34
    refine hK7 _ _ ?_
    (try clear hK7 K7)
    refine wp_cond_true ((hS.get 0 rfl).trans (bT (congrArg (!·) (decide_eq_false c4)))) ?_
    refine wp_seq_k (fun K10 hK10 => ?_)
    refine reg_seq (N := 49) (bs := [(34, .bool (!decide (a1_6 = a0_5))), (3, .pointer (some ⟨g4, 0, none⟩)), (0, .pointer (some ⟨g0, 0, none⟩))]) (I := fun x => Below w.heap.size w x ∧ Below w3.heap.size w3 x ∧ Below w9.heap.size w9 x) (ps := [VI 0, VB false]) (by kernel_rfl) ?_ ?_ rfl hS ⟨hBw9_w, hBw9_w3, hBw9_w9⟩ ?_ ?_
    · exact fun x y hI hb => ⟨below_step hI.1 hb, below_step hI.2.1 hb, below_step hI.2.2 hb⟩
    · exact .v (.v (.nil))
    · refine .on rfl (fun a w hS hI hp => does_val (x_assign rfl (rfl)) rfl) ?_
      refine .on rfl (fun a w hS hI hp => does_val (x_assign rfl (rfl)) rfl) ?_
      exact .nil
    clear hS
    intro at11 w12 hS hI hp
    have hBw12_w := hI.1
    have hBw12_w3 := hI.2.1
    have hBw12_w9 := hI.2.2
    replace hS := hS.nil
    have hv4 : sl _ 4 = .int .i64 0 := hp 0 (by decide)
    have hv5 : sl _ 5 = .bool false := hp 1 (by decide)
    have hBw12_w12 := Below.refl w12.heap.size w12
    have hS := hS.cons hv4
    have hS := hS.cons hv5
    clear hp hI hv4 hv5
    refine hK10 _ _ ?_
    (try clear hK10 K10)
    refine wp_ret ?_
    (try simp only [Exit.then, Exit.inBlock, Exit.jump, Exit.noGoto])
    exact bodyPost_ret (v := .tuple #[.int .i64 0, .bool false]) (results_list (rs := [.tmp 4, .tmp 5]) rfl (by simp) (Vals.at (hS.get 1 rfl) (Vals.at (hS.get 0 rfl) .nil))) hS.nodef ⟨rfl, ((hBw12_w.block g0 (blk_lt HP0)).trans HP0), (Tch.more (Tch.refl _ _) hBw12_w)⟩
  rw [if_pos c4] at H
  obtain ⟨t11, At11, H⟩ := Option.bind_eq_some_iff.mp H
  obtain ⟨t18, At18, H⟩ := Option.bind_eq_some_iff.mp H
  obtain ⟨t18_1, t18_2, t18_3, t18_4, t18_5, t18_6, t18_7⟩ := t18
  (try dsimp only at H)
  simp only [Option.some.injEq, Prod.mk.injEq] at H
  obtain ⟨rfl, rfl, rfl, rfl, rfl, rfl, rfl, rfl, rfl⟩ := H
  refine calls_of_wp (fn := Try.f19) (by kernel_rfl) rfl ?_
  have hS := St.enter #[.pointer (some ⟨g0, 0, none⟩), (carillonref17_X_Response.v0 a1_0 a1_1 a1_2 a1_3 a1_4 a1_5 a1_6 a1_7 a1_8 a1_9 a1_10 a1_11 a1_12 a1_13 a1_14 a1_15 a1_16 a1_17 a1_18 a1_19 a1_20 a1_21 a1_22)] 49 (by simp) [(0, .pointer (some ⟨g0, 0, none⟩)), (1, (carillonref17_X_Response.v0 a1_0 a1_1 a1_2 a1_3 a1_4 a1_5 a1_6 a1_7 a1_8 a1_9 a1_10 a1_11 a1_12 a1_13 a1_14 a1_15 a1_16 a1_17 a1_18 a1_19 a1_20 a1_21 a1_22))] (by simp)
  have HB0 := Below.refl w.heap.size w
  refine wp_seq_k (fun K1 hK1 => ?_)
  refine reg_seq (N := 49) (bs := [(0, .pointer (some ⟨g0, 0, none⟩)), (1, (carillonref17_X_Response.v0 a1_0 a1_1 a1_2 a1_3 a1_4 a1_5 a1_6 a1_7 a1_8 a1_9 a1_10 a1_11 a1_12 a1_13 a1_14 a1_15 a1_16 a1_17 a1_18 a1_19 a1_20 a1_21 a1_22))]) (I := fun x => Below w.heap.size w x) (ps := [IsB (carillonref17_X_Response.c1 a1_0 a1_1 a1_2 a1_3 a1_4 a1_5 a1_6 a1_7 a1_8 a1_9 a1_10 a1_11 a1_12 a1_13 a1_14 a1_15 a1_16 a1_17 a1_18 a1_19 a1_20 a1_21 a1_22) 34 w.heap.size, VI 0, VB false]) (by kernel_rfl) ?_ ?_ rfl hS HB0 ?_ ?_
  · exact fun x y hI hb => below_step hI hb
  · exact .cons (Stays.b _ _ _) (.v (.v (.nil)))
  · refine .on rfl (fun a w hS hI hp => does_var (x_box rfl (congrArg Value.cells (hS.get 1 rfl))) (hI).size) ?_
    iterate 2 refine .on rfl (fun a w hS hI hp => does_val (x_assign rfl (rfl)) rfl) ?_
    exact .nil
  clear hS
  intro at2 w3 hS hI hp
  have hBw3_w := hI
  replace hS := (hS.nil).cons (hS.get 0 rfl)
  obtain ⟨g4, hv3, hgeg4, hbxg4⟩ := (show IsB _ 34 _ (sl _ 3) _ from hp 0 (by decide))
  have hne5 : g4 ≠ g0 := Nat.ne_of_gt (Nat.lt_of_lt_of_le (blk_lt ((HB0.block g0 (blk_lt HP0)).trans HP0)) hgeg4)
  have hBw3_w3 := Below.refl w3.heap.size w3
  have hS := hS.cons hv3
  clear hp hI hv3
  refine hK1 _ _ ?_
  (try clear hK1 K1)
  refine wp_seq_k (fun K6 hK6 => ?_)
  refine wp_seq_k (fun K7 hK7 => ?_)
  refine reg_any (N := 49) (bs := [(3, .pointer (some ⟨g4, 0, none⟩)), (0, .pointer (some ⟨g0, 0, none⟩))]) (I := fun x => Below w.heap.size w x ∧ Below w3.heap.size w3 x) (ps := [VP g4 0, VI a1_0, VB (!decide (a1_0 = 9)), VB (!decide (a1_0 = 9)), VP g4 9, IsV (.agg #[.int .u64 a1_9, .int .i64 a1_10]), VP g0 0, VP g0 0, VP g0 0, IsV (.agg #[.int .u64 a0_0, .int .i64 a0_1]), VB (!((a1_9 == a0_0) && (a1_10 == a0_1))), VB (!((a1_9 == a0_0) && (a1_10 == a0_1))), VB (!((a1_9 == a0_0) && (a1_10 == a0_1))), VP g0 0, VP g0 0, VP g0 4, VB a0_4, VB (!a0_4), VB (!a0_4), VB (!a0_4), VP g4 6, VI a1_6, VP g0 0, VP g0 0, VP g0 5, VI a0_5, VB (!decide (a1_6 = a0_5)), VB (!decide (a1_6 = a0_5))]) (by kernel_rfl) (by kernel_rfl) ?_ ?_ rfl hS ⟨hBw3_w, hBw3_w3⟩ ?_ ?_
  · exact fun x y hI hb => ⟨below_step hI.1 hb, below_step hI.2 hb⟩
  · exact .v (.v (.v (.v (.v (.v (.v (.v (.v (.v (.v (.v (.v (.v (.v (.v (.v (.v (.v (.v (.v (.v (.v (.v (.v (.v (.v (.v (.nil))))))))))))))))))))))))))))
  · refine .on rfl (fun a w hS hI hp => does_val (x_fieldE (b := 0) rfl (hS.get 0 rfl) Try.underlying34 rfl rfl (by kernel_rfl)) rfl) ?_
    refine .on rfl (fun a w hS hI hp => does_val (x_load1 (d := .int .i64) rfl (hp.V 0 rfl rfl) (by kernel_rfl) rfl ((blk_cell (((hI.2).block g4 (blk_lt hbxg4)).trans hbxg4) 0).trans rfl)) rfl) ?_
    refine .on rfl (fun a w hS hI hp => does_val (x_bin rfl (hp.V 1 rfl rfl) (rfl) (b_neq _ _ _ _ _ _)) rfl) ?_
    refine .mv 2 rfl rfl rfl rfl ?_
    refine .oy 3 10 rfl rfl rfl rfl rfl ((congrArg (!·) (decide_eq_true c1))) (fun a w hS hI hp => does_val (x_fieldE (b := 0) rfl (hS.get 0 rfl) Try.underlying34 rfl rfl (by kernel_rfl)) rfl) ?_
    refine .oy 3 10 rfl rfl rfl rfl rfl ((congrArg (!·) (decide_eq_true c1))) (fun a w hS hI hp => does_loadmid (cs := [.int .u64 a1_9, .int .i64 a1_10]) rfl (hp.V 4 rfl rfl) (((hI.2).block g4 (blk_lt hbxg4)).trans hbxg4) (by kernel_rfl) Try.underlying24 rfl (by kernel_rfl) rfl) ?_
    refine .oy 3 10 rfl rfl rfl rfl rfl ((congrArg (!·) (decide_eq_true c1))) (fun a w hS hI hp => does_val (x_move rfl (hS.get 1 rfl)) rfl) ?_
    refine .oy 3 10 rfl rfl rfl rfl rfl ((congrArg (!·) (decide_eq_true c1))) (fun a w hS hI hp => does_val (x_nilck rfl (hp.V 6 rfl rfl)) rfl) ?_
    refine .oy 3 10 rfl rfl rfl rfl rfl ((congrArg (!·) (decide_eq_true c1))) (fun a w hS hI hp => does_val (x_fieldE (b := 0) rfl (hp.V 7 rfl rfl) Try.underlying30 rfl rfl (by kernel_rfl)) rfl) ?_
    refine .oy 3 10 rfl rfl rfl rfl rfl ((congrArg (!·) (decide_eq_true c1))) (fun a w hS hI hp => does_loadmid (cs := [.int .u64 a0_0, .int .i64 a0_1]) rfl (hp.V 8 rfl rfl) (((hI.1).block g0 (blk_lt HP0)).trans HP0) (by kernel_rfl) Try.underlying24 rfl (by kernel_rfl) rfl) ?_
    refine .oy 3 10 rfl rfl rfl rfl rfl ((congrArg (!·) (decide_eq_true c1))) (fun a w hS hI hp => does_val (x_bin rfl (hp.V 5 rfl rfl) (hp.V 9 rfl rfl) (carillonref17_X_Response.neq24 _ _ _ a1_9 a1_10 a0_0 a0_1)) rfl) ?_
    refine .on rfl (fun a w hS hI hp => does_val (x_pickF rfl ((hp.V 3 rfl rfl).trans (bF (congrArg (!·) (decide_eq_true c1)))) (hp.V 10 rfl rfl)) rfl) ?_
    refine .mv 11 rfl rfl rfl rfl ?_
    refine .oy 12 19 rfl rfl rfl rfl rfl ((congrArg (!·) c2)) (fun a w hS hI hp => does_val (x_move rfl (hS.get 1 rfl)) rfl) ?_
    refine .oy 12 19 rfl rfl rfl rfl rfl ((congrArg (!·) c2)) (fun a w hS hI hp => does_val (x_nilck rfl (hp.V 13 rfl rfl)) rfl) ?_
    refine .oy 12 19 rfl rfl rfl rfl rfl ((congrArg (!·) c2)) (fun a w hS hI hp => does_val (x_fieldE (b := 0) rfl (hp.V 14 rfl rfl) Try.underlying30 rfl rfl (by kernel_rfl)) rfl) ?_
    refine .oy 12 19 rfl rfl rfl rfl rfl ((congrArg (!·) c2)) (fun a w hS hI hp => does_val (x_load1 (d := .bool) rfl (hp.V 15 rfl rfl) (by kernel_rfl) rfl ((blk_cell (((hI.1).block g0 (blk_lt HP0)).trans HP0) 4).trans rfl)) rfl) ?_
    refine .oy 12 19 rfl rfl rfl rfl rfl ((congrArg (!·) c2)) (fun a w hS hI hp => does_val (x_not rfl (hp.V 16 rfl rfl)) rfl) ?_
    refine .on rfl (fun a w hS hI hp => does_val (x_pickF rfl ((hp.V 12 rfl rfl).trans (bF (congrArg (!·) c2))) (hp.V 17 rfl rfl)) rfl) ?_
    refine .mv 18 rfl rfl rfl rfl ?_
    refine .oy 19 26 rfl rfl rfl rfl rfl ((congrArg (!·) c3)) (fun a w hS hI hp => does_val (x_fieldE (b := 0) rfl (hS.get 0 rfl) Try.underlying34 rfl rfl (by kernel_rfl)) rfl) ?_
    refine .oy 19 26 rfl rfl rfl rfl rfl ((congrArg (!·) c3)) (fun a w hS hI hp => does_val (x_load1 (d := .int .i64) rfl (hp.V 20 rfl rfl) (by kernel_rfl) rfl ((blk_cell (((hI.2).block g4 (blk_lt hbxg4)).trans hbxg4) 6).trans rfl)) rfl) ?_
    refine .oy 19 26 rfl rfl rfl rfl rfl ((congrArg (!·) c3)) (fun a w hS hI hp => does_val (x_move rfl (hS.get 1 rfl)) rfl) ?_
    refine .oy 19 26 rfl rfl rfl rfl rfl ((congrArg (!·) c3)) (fun a w hS hI hp => does_val (x_nilck rfl (hp.V 22 rfl rfl)) rfl) ?_
    refine .oy 19 26 rfl rfl rfl rfl rfl ((congrArg (!·) c3)) (fun a w hS hI hp => does_val (x_fieldE (b := 0) rfl (hp.V 23 rfl rfl) Try.underlying30 rfl rfl (by kernel_rfl)) rfl) ?_
    refine .oy 19 26 rfl rfl rfl rfl rfl ((congrArg (!·) c3)) (fun a w hS hI hp => does_val (x_load1 (d := .int .i64) rfl (hp.V 24 rfl rfl) (by kernel_rfl) rfl ((blk_cell (((hI.1).block g0 (blk_lt HP0)).trans HP0) 5).trans rfl)) rfl) ?_
    refine .oy 19 26 rfl rfl rfl rfl rfl ((congrArg (!·) c3)) (fun a w hS hI hp => does_val (x_bin rfl (hp.V 21 rfl rfl) (hp.V 25 rfl rfl) (b_neq _ _ _ _ _ _)) rfl) ?_
    refine .on rfl (fun a w hS hI hp => does_val (x_pickF rfl ((hp.V 19 rfl rfl).trans (bF (congrArg (!·) c3))) (hp.V 26 rfl rfl)) rfl) ?_
    exact .nil
  clear hS
  intro at8 w9 hS hI hp
  have hBw9_w := hI.1
  have hBw9_w3 := hI.2
  have hv34 : sl _ 34 = .bool (!decide (a1_6 = a0_5)) := hp 27 (by decide)
  have hBw9_w9 := Below.refl w9.heap.size w9
  have hS := hS.cons hv34
  clear hp hI hv34
  refine hK7 _ _ ?_
  (try clear hK7 K7)
  refine wp_cond_false ((hS.get 0 rfl).trans (bF (congrArg (!·) (decide_eq_true c4)))) ?_
  refine wp_skip ?_
  refine hK6 _ _ ?_
  (try clear hK6 K6)
  refine wp_seq_k (fun K10 hK10 => ?_)
  refine reg_any (N := 49) (bs := [(34, .bool (!decide (a1_6 = a0_5))), (3, .pointer (some ⟨g4, 0, none⟩)), (0, .pointer (some ⟨g0, 0, none⟩))]) (I := fun x => Below w.heap.size w x ∧ Below w3.heap.size w3 x ∧ Below w9.heap.size w9 x) (ps := [VP g4 8, VI a1_8, VP g0 0, VP g0 0, VP g0 6, VI a0_6, VI (wrap64 (a1_8 - a0_6)), VP g4 3, VI a1_3, VI t11, VI (wrap64 ((wrap64 (a1_8 - a0_6)) - t11)), VI (wrap64 ((wrap64 (a1_8 - a0_6)) - t11))]) (by kernel_rfl) (by kernel_rfl) ?_ ?_ rfl hS ⟨hBw9_w, hBw9_w3, hBw9_w9⟩ ?_ ?_
  · exact fun x y hI hb => ⟨below_step hI.1 hb, below_step hI.2.1 hb, below_step hI.2.2 hb⟩
  · exact .v (.v (.v (.v (.v (.v (.v (.v (.v (.v (.v (.v (.nil))))))))))))
  · refine .on rfl (fun a w hS hI hp => does_val (x_fieldE (b := 0) rfl (hS.get 1 rfl) Try.underlying34 rfl rfl (by kernel_rfl)) rfl) ?_
    refine .on rfl (fun a w hS hI hp => does_val (x_load1 (d := .int .i64) rfl (hp.V 0 rfl rfl) (by kernel_rfl) rfl ((blk_cell (((hI.2.1).block g4 (blk_lt hbxg4)).trans hbxg4) 8).trans rfl)) rfl) ?_
    refine .ms 2 rfl rfl rfl ?_
    refine .on rfl (fun a w hS hI hp => does_val (x_nilck rfl (hp.V 2 rfl rfl)) rfl) ?_
    refine .on rfl (fun a w hS hI hp => does_val (x_fieldE (b := 0) rfl (hp.V 3 rfl rfl) Try.underlying30 rfl rfl (by kernel_rfl)) rfl) ?_
    refine .on rfl (fun a w hS hI hp => does_val (x_load1 (d := .int .i64) rfl (hp.V 4 rfl rfl) (by kernel_rfl) rfl ((blk_cell (((hI.1).block g0 (blk_lt HP0)).trans HP0) 6).trans rfl)) rfl) ?_
    refine .on rfl (fun a w hS hI hp => does_val (x_bin rfl (hp.V 1 rfl rfl) (hp.V 5 rfl rfl) (b_sub _ _ _ _ _)) rfl) ?_
    refine .on rfl (fun a w hS hI hp => does_val (x_fieldE (b := 0) rfl (hS.get 1 rfl) Try.underlying34 rfl rfl (by kernel_rfl)) rfl) ?_
    refine .on rfl (fun a w hS hI hp => does_val (x_load1 (d := .int .i64) rfl (hp.V 7 rfl rfl) (by kernel_rfl) rfl ((blk_cell (((hI.2.1).block g4 (blk_lt hbxg4)).trans hbxg4) 3).trans rfl)) rfl) ?_
    refine .on rfl (fun a w hS hI hp => does_call (by kernel_rfl) (ar1 (hp.V 8 rfl rfl)) ((carillonref02_Floor.calls a1_3 t11 _  At11).mono fun _ _ h => ⟨_, h.1, h.2.below, rfl⟩)) ?_
    refine .on rfl (fun a w hS hI hp => does_val (x_bin rfl (hp.V 6 rfl rfl) (hp.V 9 rfl rfl) (b_sub _ _ _ _ _)) rfl) ?_
    refine .asg 10 rfl rfl rfl rfl ?_
    exact .nil
  clear hS
  intro at12 w13 hS hI hp
  have hBw13_w := hI.1
  have hBw13_w3 := hI.2.1
  have hBw13_w9 := hI.2.2
  replace hS := (hS.nil).cons (hS.get 2 rfl)
  have hv6 : sl _ 6 = .int .i64 (wrap64 ((wrap64 (a1_8 - a0_6)) - t11)) := hp 11 (by decide)
  have hBw13_w13 := Below.refl w13.heap.size w13
  have hS := hS.cons hv6
  clear hp hI hv6
  refine hK10 _ _ ?_
  (try clear hK10 K10)
  refine wp_seq_k (fun K14 hK14 => ?_)
  refine reg_seq_tail 1 (N := 49) (bs := [(6, .int .i64 (wrap64 ((wrap64 (a1_8 - a0_6)) - t11))), (0, .pointer (some ⟨g0, 0, none⟩))]) (I := fun x => Below w.heap.size w x ∧ Below w3.heap.size w3 x ∧ Below w13.heap.size w13 x) (ps := [VP g0 0]) (by kernel_rfl) ?_ ?_ rfl hS ⟨hBw13_w, hBw13_w3, hBw13_w13⟩ ?_ ?_
  · exact fun x y hI hb => ⟨below_step hI.1 hb, below_step hI.2.1 hb, below_step hI.2.2 hb⟩
  · exact .v (.nil)
  · refine .ms 1 rfl rfl rfl ?_
    exact .nil
  clear hS
  intro at15 w16 hS hI hp
  have hBw16_w := hI.1
  have hBw16_w3 := hI.2.1
  have hBw16_w13 := hI.2.2
  replace hS := (hS.nil).cons (hS.get 0 rfl)
  have hv46 : sl _ 46 = .pointer (some ⟨g0, 0, none⟩) := hp 0 (by decide)
  have hBw16_w16 := Below.refl w16.heap.size w16
  have hS := hS.cons hv46
  clear hp hI hv46
  show wpList _ _ _ [_] _ _
  refine list_step rfl (R := fun v w' => v = .tuple #[] ∧ w'.heap[g0]? = some (.cells (carillonref17_X_Response.c2 t18_1 t18_2 t18_3 t18_4 t18_5 t18_6 t18_7) 30 (0, 0)) ∧ Tch g0 _ w') (does_call (by kernel_rfl) (ar1 (hS.get 0 rfl)) ((carillonref17_X_Clear.calls g0 a0_0 a0_1 a0_2 a0_3 a0_4 a0_5 a0_6 t18_1 t18_2 t18_3 t18_4 t18_5 t18_6 t18_7 _ ((hBw16_w.block g0 (blk_lt HP0)).trans HP0) At18).mono fun _ _ h => ⟨_, h.1, rfl, h.2⟩)) ?_
  rintro vw17 w17 ⟨rfl, hbxw17, hT⟩
  have hn19 := hT.blk ((hBw16_w3.block g4 (blk_lt hbxg4)).trans hbxg4) hne5
  have hTw17 := (Tch.more (Tch.refl _ _) hBw16_w).trans hT
  have hBw17_w17 := Below.refl w17.heap.size w17
  clear hT
  refine hS.next (v := .tuple #[]) (d := 47) rfl (by decide) (by rfl) ?_
  clear hS
  intro at20 hS
  refine wpList_nil ?_
  refine hK14 _ _ ?_
  (try clear hK14 K14)
  refine wp_seq_k (fun K21 hK21 => ?_)
  refine reg_seq (N := 49) (bs := [(47, .tuple #[]), (46, .pointer (some ⟨g0, 0, none⟩)), (6, .int .i64 (wrap64 ((wrap64 (a1_8 - a0_6)) - t11)))]) (I := fun x => Below w17.heap.size w17 x) (ps := [VI (wrap64 ((wrap64 (a1_8 - a0_6)) - t11)), VI (wrap64 ((wrap64 (a1_8 - a0_6)) - t11)), VB true]) (by kernel_rfl) ?_ ?_ rfl hS hBw17_w17 ?_ ?_
  · exact fun x y hI hb => below_step hI hb
  · exact .v (.v (.v (.nil)))
  · refine .ms 2 rfl rfl rfl ?_
    refine .asg 0 rfl rfl rfl rfl ?_
    refine .on rfl (fun a w hS hI hp => does_val (x_assign rfl (rfl)) rfl) ?_
    exact .nil
  clear hS
  intro at22 w23 hS hI hp
  have hBw23_w17 := hI
  replace hS := hS.nil
  have hv4 : sl _ 4 = .int .i64 (wrap64 ((wrap64 (a1_8 - a0_6)) - t11)) := hp 1 (by decide)
  have hv5 : sl _ 5 = .bool true := hp 2 (by decide)
  have hBw23_w23 := Below.refl w23.heap.size w23
  have hS := hS.cons hv4
  have hS := hS.cons hv5
  clear hp hI hv4 hv5
  refine hK21 _ _ ?_
  (try clear hK21 K21)
  refine wp_ret ?_
  (try simp only [Exit.then, Exit.inBlock, Exit.jump, Exit.noGoto])
  exact bodyPost_ret (v := .tuple #[.int .i64 (wrap64 ((wrap64 (a1_8 - a0_6)) - t11)), .bool true]) (results_list (rs := [.tmp 4, .tmp 5]) rfl (by simp) (Vals.at (hS.get 1 rfl) (Vals.at (hS.get 0 rfl) .nil))) hS.nodef ⟨rfl, ((hBw23_w17.block g0 (blk_lt hbxw17)).trans hbxw17), (Tch.more hTw17 hBw23_w17)⟩
end Go.Proofs.Ytpfjpfbhgeoadaa.P
