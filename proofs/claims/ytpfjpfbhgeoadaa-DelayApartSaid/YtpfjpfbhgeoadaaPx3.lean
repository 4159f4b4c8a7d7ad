/- Functions and loops of the given program as Lean functions, and that the code comes to what they say: written by this session's own program; Lean checks it. -/
import Derived.Test.YtpfjpfbhgeoadaaPx0
import Derived.Test.YtpfjpfbhgeoadaaPx2
namespace Go.Proofs.Ytpfjpfbhgeoadaa.P
open Go.RowKit Go.Proofs.YtpfjpfbhgeoadaaW.PrintWords Go.Proofs.YtpfjpfbhgeoadaaW.PrintLast Go.Proofs.YtpfjpfbhgeoadaaW.PrintMore
attribute [local go_sem] max2_int min2_int max_two min_two max_three min_three max_four min_four   -- for this text's walks alone
set_option linter.unusedVariables false
set_option linter.unusedSimpArgs false

/-! ### delay_Exchange_Response: function 18: by our own printer -/
def delay_Exchange_Response.f (a0_0 : Int) (a0_1 : Int) (a0_2 : Int) (a0_3 : Int) (a0_4 : Int) (a0_5 : Bool) (a0_6 : Bool) (a1_0 : Int) (a1_1 : Int) (a1_2 : Int) (a1_3 : Int) (a1_4 : Int) (a1_5 : Int) (a1_6 : Int) (a1_7 : Int) (a1_8 : Int) (a1_9 : Int) (a1_10 : Int) (a1_11 : Int) (a1_12 : Int) (a1_13 : Int) (a1_14 : Int) (a1_15 : Int) (a1_16 : Int) (a1_17 : Int) (a1_18 : Int) (a1_19 : Int) (a1_20 : Int) (a1_21 : Int) (a1_22 : Int) : Option (Int × Bool × Int × Int × Int × Int × Int × Bool × Bool) := if a1_0 = 9 then (if ((a1_9 == a0_0) && (a1_10 == a0_1)) = true then (if a0_6 = true then (if a1_6 = a0_3 then ((stamp_Floor.f a1_3).bind fun t11 => ((delay_Exchange_Clear.f a0_0 a0_1 a0_2 a0_3 a0_4 a0_5 a0_6).bind fun t18 => (some (wrap64 ((wrap64 (a1_8 - a0_4)) - t11), true, t18.1, t18.2.1, t18.2.2.1, t18.2.2.2.1, t18.2.2.2.2.1, t18.2.2.2.2.2.1, t18.2.2.2.2.2.2)))) else (some (0, false, a0_0, a0_1, a0_2, a0_3, a0_4, a0_5, a0_6))) else (some (0, false, a0_0, a0_1, a0_2, a0_3, a0_4, a0_5, a0_6))) else (some (0, false, a0_0, a0_1, a0_2, a0_3, a0_4, a0_5, a0_6))) else (some (0, false, a0_0, a0_1, a0_2, a0_3, a0_4, a0_5, a0_6))
open Go.Proofs.Ytpfjpfbhgeoadaa.E in
set_option maxRecDepth 100000 in
theorem delay_Exchange_Response.neq24 (x y : Operand) (w : World) (a0 : Int) (a1 : Int) (b0 : Int) (b1 : Int) : (do eqGuard .neq 24 x y (.agg #[.int .u64 a0, .int .i64 a1]) (.agg #[.int .u64 b0, .int .i64 b1]); binOp .neq 24 (.agg #[.int .u64 a0, .int .i64 a1]) (.agg #[.int .u64 b0, .int .i64 b1]) : Sem Value).run Try.prog w = .ok (.bool (!((a0 == b0) && (a1 == b1)))) w := by
  have hu3 := Try.underlying3
  have hu22 := Try.underlying22
  have hu24 := Try.underlying24
  conv => lhs; simp [eqGuard, go_sem, hu3, hu22, hu24]
  exact ite_nand (ite_nlast)
open Go.Proofs.Ytpfjpfbhgeoadaa.E in
set_option maxHeartbeats 8000000 in
set_option maxRecDepth 100000 in
theorem delay_Exchange_Response.calls (g0 : Nat) (a0_0 : Int) (a0_1 : Int) (a0_2 : Int) (a0_3 : Int) (a0_4 : Int) (a0_5 : Bool) (a0_6 : Bool) (a1_0 : Int) (a1_1 : Int) (a1_2 : Int) (a1_3 : Int) (a1_4 : Int) (a1_5 : Int) (a1_6 : Int) (a1_7 : Int) (a1_8 : Int) (a1_9 : Int) (a1_10 : Int) (a1_11 : Int) (a1_12 : Int) (a1_13 : Int) (a1_14 : Int) (a1_15 : Int) (a1_16 : Int) (a1_17 : Int) (a1_18 : Int) (a1_19 : Int) (a1_20 : Int) (a1_21 : Int) (a1_22 : Int) (r1 : Int) (r2 : Bool) (r3 : Int) (r4 : Int) (r5 : Int) (r6 : Int) (r7 : Int) (r8 : Bool) (r9 : Bool) (w : World) (HP0 : w.heap[g0]? = some (.cells #[.int .u64 a0_0, .int .i64 a0_1, .int .i64 a0_2, .int .i64 a0_3, .int .i64 a0_4, .bool a0_5, .bool a0_6] 54 (0, 0))) (h : delay_Exchange_Response.f a0_0 a0_1 a0_2 a0_3 a0_4 a0_5 a0_6 a1_0 a1_1 a1_2 a1_3 a1_4 a1_5 a1_6 a1_7 a1_8 a1_9 a1_10 a1_11 a1_12 a1_13 a1_14 a1_15 a1_16 a1_17 a1_18 a1_19 a1_20 a1_21 a1_22 = some (r1, r2, r3, r4, r5, r6, r7, r8, r9)) :
    Calls Try.prog 18 #[.pointer (some ⟨g0, 0, none⟩), .agg #[.int .i64 a1_0, .int .i64 a1_1, .int .i64 a1_2, .int .i64 a1_3, .int .u64 a1_4, .int .i64 a1_5, .int .i64 a1_6, .int .i64 a1_7, .int .i64 a1_8, .int .u64 a1_9, .int .i64 a1_10, .int .i64 a1_11, .int .i64 a1_12, .int .i64 a1_13, .int .i64 a1_14, .int .i64 a1_15, .int .i64 a1_16, .int .u64 a1_17, .int .i64 a1_18, .int .i64 a1_19, .int .i64 a1_20, .int .i64 a1_21, .int .i64 a1_22]] w fun e w' => e = .returned (.tuple #[.int .i64 r1, .bool r2]) ∧ w'.heap[g0]? = some (.cells #[.int .u64 r3, .int .i64 r4, .int .i64 r5, .int .i64 r6, .int .i64 r7, .bool r8, .bool r9] 54 (0, 0)) ∧ Tch g0 w w' := by
  have H := h
  clear h
  unfold delay_Exchange_Response.f at H
  by_cases c1 : a1_0 = 9
  · rw [if_pos c1] at H
    by_cases c2 : ((a1_9 == a0_0) && (a1_10 == a0_1)) = true
    · rw [if_pos c2] at H
      by_cases c3 : a0_6 = true
      · rw [if_pos c3] at H
        by_cases c4 : a1_6 = a0_3
        · rw [if_pos c4] at H
          obtain ⟨t11, At11, H⟩ := Option.bind_eq_some_iff.mp H
          obtain ⟨t18, At18, H⟩ := Option.bind_eq_some_iff.mp H
          obtain ⟨t18_1, t18_2, t18_3, t18_4, t18_5, t18_6, t18_7⟩ := t18
          (try dsimp only at H)
          simp only [Option.some.injEq, Prod.mk.injEq] at H
          obtain ⟨rfl, rfl, rfl, rfl, rfl, rfl, rfl, rfl, rfl⟩ := H
          refine calls_of_wp (fn := Try.f18) (by kernel_rfl) rfl ?_
          have hS := St.enter #[.pointer (some ⟨g0, 0, none⟩), .agg #[.int .i64 a1_0, .int .i64 a1_1, .int .i64 a1_2, .int .i64 a1_3, .int .u64 a1_4, .int .i64 a1_5, .int .i64 a1_6, .int .i64 a1_7, .int .i64 a1_8, .int .u64 a1_9, .int .i64 a1_10, .int .i64 a1_11, .int .i64 a1_12, .int .i64 a1_13, .int .i64 a1_14, .int .i64 a1_15, .int .i64 a1_16, .int .u64 a1_17, .int .i64 a1_18, .int .i64 a1_19, .int .i64 a1_20, .int .i64 a1_21, .int .i64 a1_22]] 52 (by simp) [(0, .pointer (some ⟨g0, 0, none⟩)), (1, .agg #[.int .i64 a1_0, .int .i64 a1_1, .int .i64 a1_2, .int .i64 a1_3, .int .u64 a1_4, .int .i64 a1_5, .int .i64 a1_6, .int .i64 a1_7, .int .i64 a1_8, .int .u64 a1_9, .int .i64 a1_10, .int .i64 a1_11, .int .i64 a1_12, .int .i64 a1_13, .int .i64 a1_14, .int .i64 a1_15, .int .i64 a1_16, .int .u64 a1_17, .int .i64 a1_18, .int .i64 a1_19, .int .i64 a1_20, .int .i64 a1_21, .int .i64 a1_22])] (by simp)
          have HB0 := Below.refl w.heap.size w
          refine wp_seq_k (fun K1 hK1 => ?_)
          refine reg_seq (N := 52) (bs := [(0, .pointer (some ⟨g0, 0, none⟩)), (1, .agg #[.int .i64 a1_0, .int .i64 a1_1, .int .i64 a1_2, .int .i64 a1_3, .int .u64 a1_4, .int .i64 a1_5, .int .i64 a1_6, .int .i64 a1_7, .int .i64 a1_8, .int .u64 a1_9, .int .i64 a1_10, .int .i64 a1_11, .int .i64 a1_12, .int .i64 a1_13, .int .i64 a1_14, .int .i64 a1_15, .int .i64 a1_16, .int .u64 a1_17, .int .i64 a1_18, .int .i64 a1_19, .int .i64 a1_20, .int .i64 a1_21, .int .i64 a1_22])]) (I := fun x => Below w.heap.size w x) (ps := [IsB #[.int .i64 a1_0, .int .i64 a1_1, .int .i64 a1_2, .int .i64 a1_3, .int .u64 a1_4, .int .i64 a1_5, .int .i64 a1_6, .int .i64 a1_7, .int .i64 a1_8, .int .u64 a1_9, .int .i64 a1_10, .int .i64 a1_11, .int .i64 a1_12, .int .i64 a1_13, .int .i64 a1_14, .int .i64 a1_15, .int .i64 a1_16, .int .u64 a1_17, .int .i64 a1_18, .int .i64 a1_19, .int .i64 a1_20, .int .i64 a1_21, .int .i64 a1_22] 34 w.heap.size, IsV (.int .i64 0), IsV (.bool false)]) (by kernel_rfl) ?_ ?_ rfl hS HB0 ?_ ?_
          · exact fun x y hI hb => below_step hI hb
          · exact AllStay.cons (Stays.b _ _ _) (AllStay.cons (Stays.v _) (AllStay.cons (Stays.v _) (AllStay.nil)))
          · refine Steps.cons (fun a w hS hI hp => ok_on rfl (does_var (x_box rfl (congrArg Value.cells (hS.get 1 rfl))) (hI).size)) ?_
            refine Steps.cons (fun a w hS hI hp => ok_on rfl (does_val (x_assign rfl (rfl)) rfl)) ?_
            refine Steps.cons (fun a w hS hI hp => ok_on rfl (does_val (x_assign rfl (rfl)) rfl)) ?_
            exact Steps.nil
          clear hS
          intro at2 w3 hS hI hp
          have hBw3_w := hI
          replace hS := (hS.nil).cons (hS.get 0 rfl)
          obtain ⟨g4, hv3, hgeg4, hbxg4⟩ := (show IsB _ 34 _ (sl _ 3) _ from hp 0 (by decide))
          have hne5 : g4 ≠ g0 := Nat.ne_of_gt (Nat.lt_of_lt_of_le (blk_lt ((HB0.block g0 (blk_lt HP0)).trans HP0)) hgeg4)
          have hv4 : sl _ 4 = .int .i64 0 := hp 1 (by decide)
          have hv5 : sl _ 5 = .bool false := hp 2 (by decide)
          have hBw3_w3 := Below.refl w3.heap.size w3
          have hS := hS.cons hv3
          have hS := hS.cons hv4
          have hS := hS.cons hv5
          clear hp hI hv3 hv4 hv5
          refine hK1 _ _ ?_
          clear hK1 K1
          refine wp_seq_k (fun K6 hK6 => ?_)
          refine wp_seq_k (fun K7 hK7 => ?_)
          refine reg_any (N := 52) (bs := [(5, .bool false), (4, .int .i64 0), (3, .pointer (some ⟨g4, 0, none⟩)), (0, .pointer (some ⟨g0, 0, none⟩))]) (I := fun x => Below w.heap.size w x ∧ Below w3.heap.size w3 x) (ps := [IsV (.pointer (some ⟨g4, 0, none⟩)), IsV (.int .i64 a1_0), IsV (.bool (!decide (a1_0 = 9))), IsV (.bool (!decide (a1_0 = 9))), IsV (.pointer (some ⟨g4, 9, none⟩)), IsV (.agg #[.int .u64 a1_9, .int .i64 a1_10]), IsV (.pointer (some ⟨g0, 0, none⟩)), IsV (.pointer (some ⟨g0, 0, none⟩)), IsV (.pointer (some ⟨g0, 0, none⟩)), IsV (.agg #[.int .u64 a0_0, .int .i64 a0_1]), IsV (.bool (!((a1_9 == a0_0) && (a1_10 == a0_1)))), IsV (.bool (!((a1_9 == a0_0) && (a1_10 == a0_1)))), IsV (.bool (!((a1_9 == a0_0) && (a1_10 == a0_1)))), IsV (.pointer (some ⟨g0, 0, none⟩)), IsV (.pointer (some ⟨g0, 0, none⟩)), IsV (.pointer (some ⟨g0, 3, none⟩)), IsV (.pointer (some ⟨g0, 6, none⟩)), IsV (.bool a0_6), IsV (.bool (!a0_6)), IsV (.bool (!a0_6)), IsV (.bool (!a0_6)), IsV (.pointer (some ⟨g4, 6, none⟩)), IsV (.int .i64 a1_6), IsV (.pointer (some ⟨g0, 0, none⟩)), IsV (.pointer (some ⟨g0, 0, none⟩)), IsV (.pointer (some ⟨g0, 3, none⟩)), IsV (.pointer (some ⟨g0, 3, none⟩)), IsV (.int .i64 a0_3), IsV (.bool (!decide (a1_6 = a0_3))), IsV (.bool (!decide (a1_6 = a0_3)))]) (by kernel_rfl) (by kernel_rfl) ?_ ?_ rfl hS ⟨hBw3_w, hBw3_w3⟩ ?_ ?_
          · exact fun x y hI hb => ⟨below_step hI.1 hb, below_step hI.2 hb⟩
          · exact AllStay.cons (Stays.v _) (AllStay.cons (Stays.v _) (AllStay.cons (Stays.v _) (AllStay.cons (Stays.v _) (AllStay.cons (Stays.v _) (AllStay.cons (Stays.v _) (AllStay.cons (Stays.v _) (AllStay.cons (Stays.v _) (AllStay.cons (Stays.v _) (AllStay.cons (Stays.v _) (AllStay.cons (Stays.v _) (AllStay.cons (Stays.v _) (AllStay.cons (Stays.v _) (AllStay.cons (Stays.v _) (AllStay.cons (Stays.v _) (AllStay.cons (Stays.v _) (AllStay.cons (Stays.v _) (AllStay.cons (Stays.v _) (AllStay.cons (Stays.v _) (AllStay.cons (Stays.v _) (AllStay.cons (Stays.v _) (AllStay.cons (Stays.v _) (AllStay.cons (Stays.v _) (AllStay.cons (Stays.v _) (AllStay.cons (Stays.v _) (AllStay.cons (Stays.v _) (AllStay.cons (Stays.v _) (AllStay.cons (Stays.v _) (AllStay.cons (Stays.v _) (AllStay.cons (Stays.v _) (AllStay.nil))))))))))))))))))))))))))))))
          · refine Steps.cons (fun a w hS hI hp => ok_on rfl (does_val (x_field rfl (hS.get 2 rfl) Try.underlying34 rfl (by kernel_rfl)) rfl)) ?_
            refine Steps.cons (fun a w hS hI hp => ok_on rfl (does_val (x_load1 (d := .int .i64) rfl ((hp.get 0 (by rfl) rfl rfl)) (by kernel_rfl) rfl ((blk_cell (((hI.2).block g4 (blk_lt hbxg4)).trans hbxg4) 0).trans rfl)) rfl)) ?_
            refine Steps.cons (fun a w hS hI hp => ok_on rfl (does_val (x_bin rfl ((hp.get 1 (by rfl) rfl rfl)) (rfl) (b_neq _ _ _ _ _ _)) rfl)) ?_
            refine Steps.cons (fun a w hS hI hp => ok_on rfl (does_val (x_move rfl ((hp.get 2 (by rfl) rfl rfl))) rfl)) ?_
            refine Steps.cons (fun a w hS hI hp => ok_if (d := 10) rfl rfl (by rw [hS.size]; decide) (((hp.get 3 (by rfl) rfl rfl)).trans (bF (congrArg (!·) (decide_eq_true c1)))) (does_val (x_field rfl (hS.get 2 rfl) Try.underlying34 rfl (by kernel_rfl)) rfl)) ?_
            refine Steps.cons (fun a w hS hI hp => ok_if (d := 10) rfl rfl (by rw [hS.size]; decide) (((hp.get 3 (by rfl) rfl rfl)).trans (bF (congrArg (!·) (decide_eq_true c1)))) (does_loadmid (cs := [.int .u64 a1_9, .int .i64 a1_10]) rfl ((hp.get 4 (by rfl) rfl rfl)) (((hI.2).block g4 (blk_lt hbxg4)).trans hbxg4) rfl Try.underlying24 rfl (by kernel_rfl) rfl)) ?_
            refine Steps.cons (fun a w hS hI hp => ok_if (d := 10) rfl rfl (by rw [hS.size]; decide) (((hp.get 3 (by rfl) rfl rfl)).trans (bF (congrArg (!·) (decide_eq_true c1)))) (does_val (x_move rfl (hS.get 3 rfl)) rfl)) ?_
            refine Steps.cons (fun a w hS hI hp => ok_if (d := 10) rfl rfl (by rw [hS.size]; decide) (((hp.get 3 (by rfl) rfl rfl)).trans (bF (congrArg (!·) (decide_eq_true c1)))) (does_val (x_nilck rfl ((hp.get 6 (by rfl) rfl rfl))) rfl)) ?_
            refine Steps.cons (fun a w hS hI hp => ok_if (d := 10) rfl rfl (by rw [hS.size]; decide) (((hp.get 3 (by rfl) rfl rfl)).trans (bF (congrArg (!·) (decide_eq_true c1)))) (does_val (x_field rfl ((hp.get 7 (by rfl) rfl rfl)) Try.underlying54 rfl (by kernel_rfl)) rfl)) ?_
            refine Steps.cons (fun a w hS hI hp => ok_if (d := 10) rfl rfl (by rw [hS.size]; decide) (((hp.get 3 (by rfl) rfl rfl)).trans (bF (congrArg (!·) (decide_eq_true c1)))) (does_loadmid (cs := [.int .u64 a0_0, .int .i64 a0_1]) rfl ((hp.get 8 (by rfl) rfl rfl)) (((hI.1).block g0 (blk_lt HP0)).trans HP0) rfl Try.underlying24 rfl (by kernel_rfl) rfl)) ?_
            refine Steps.cons (fun a w hS hI hp => ok_if (d := 10) rfl rfl (by rw [hS.size]; decide) (((hp.get 3 (by rfl) rfl rfl)).trans (bF (congrArg (!·) (decide_eq_true c1)))) (does_val (x_bin rfl ((hp.get 5 (by rfl) rfl rfl)) ((hp.get 9 (by rfl) rfl rfl)) (delay_Exchange_Response.neq24 _ _ _ a1_9 a1_10 a0_0 a0_1)) rfl)) ?_
            refine Steps.cons (fun a w hS hI hp => ok_on rfl (does_val (x_pickF rfl (((hp.get 3 (by rfl) rfl rfl)).trans (bF (congrArg (!·) (decide_eq_true c1)))) ((hp.get 10 (by rfl) rfl rfl))) rfl)) ?_
            refine Steps.cons (fun a w hS hI hp => ok_on rfl (does_val (x_move rfl ((hp.get 11 (by rfl) rfl rfl))) rfl)) ?_
            refine Steps.cons (fun a w hS hI hp => ok_if (d := 19) rfl rfl (by rw [hS.size]; decide) (((hp.get 12 (by rfl) rfl rfl)).trans (bF (congrArg (!·) c2))) (does_val (x_move rfl (hS.get 3 rfl)) rfl)) ?_
            refine Steps.cons (fun a w hS hI hp => ok_if (d := 19) rfl rfl (by rw [hS.size]; decide) (((hp.get 12 (by rfl) rfl rfl)).trans (bF (congrArg (!·) c2))) (does_val (x_nilck rfl ((hp.get 13 (by rfl) rfl rfl))) rfl)) ?_
            refine Steps.cons (fun a w hS hI hp => ok_if (d := 19) rfl rfl (by rw [hS.size]; decide) (((hp.get 12 (by rfl) rfl rfl)).trans (bF (congrArg (!·) c2))) (does_val (x_field rfl ((hp.get 14 (by rfl) rfl rfl)) Try.underlying54 rfl (by kernel_rfl)) rfl)) ?_
            refine Steps.cons (fun a w hS hI hp => ok_if (d := 19) rfl rfl (by rw [hS.size]; decide) (((hp.get 12 (by rfl) rfl rfl)).trans (bF (congrArg (!·) c2))) (does_val (x_field rfl ((hp.get 15 (by rfl) rfl rfl)) Try.underlying52 rfl (by kernel_rfl)) rfl)) ?_
            refine Steps.cons (fun a w hS hI hp => ok_if (d := 19) rfl rfl (by rw [hS.size]; decide) (((hp.get 12 (by rfl) rfl rfl)).trans (bF (congrArg (!·) c2))) (does_val (x_load1 (d := .bool) rfl ((hp.get 16 (by rfl) rfl rfl)) (by kernel_rfl) rfl ((blk_cell (((hI.1).block g0 (blk_lt HP0)).trans HP0) 6).trans rfl)) rfl)) ?_
            refine Steps.cons (fun a w hS hI hp => ok_if (d := 19) rfl rfl (by rw [hS.size]; decide) (((hp.get 12 (by rfl) rfl rfl)).trans (bF (congrArg (!·) c2))) (does_val (x_not rfl ((hp.get 17 (by rfl) rfl rfl))) rfl)) ?_
            refine Steps.cons (fun a w hS hI hp => ok_on rfl (does_val (x_pickF rfl (((hp.get 12 (by rfl) rfl rfl)).trans (bF (congrArg (!·) c2))) ((hp.get 18 (by rfl) rfl rfl))) rfl)) ?_
            refine Steps.cons (fun a w hS hI hp => ok_on rfl (does_val (x_move rfl ((hp.get 19 (by rfl) rfl rfl))) rfl)) ?_
            refine Steps.cons (fun a w hS hI hp => ok_if (d := 27) rfl rfl (by rw [hS.size]; decide) (((hp.get 20 (by rfl) rfl rfl)).trans (bF (congrArg (!·) c3))) (does_val (x_field rfl (hS.get 2 rfl) Try.underlying34 rfl (by kernel_rfl)) rfl)) ?_
            refine Steps.cons (fun a w hS hI hp => ok_if (d := 27) rfl rfl (by rw [hS.size]; decide) (((hp.get 20 (by rfl) rfl rfl)).trans (bF (congrArg (!·) c3))) (does_val (x_load1 (d := .int .i64) rfl ((hp.get 21 (by rfl) rfl rfl)) (by kernel_rfl) rfl ((blk_cell (((hI.2).block g4 (blk_lt hbxg4)).trans hbxg4) 6).trans rfl)) rfl)) ?_
            refine Steps.cons (fun a w hS hI hp => ok_if (d := 27) rfl rfl (by rw [hS.size]; decide) (((hp.get 20 (by rfl) rfl rfl)).trans (bF (congrArg (!·) c3))) (does_val (x_move rfl (hS.get 3 rfl)) rfl)) ?_
            refine Steps.cons (fun a w hS hI hp => ok_if (d := 27) rfl rfl (by rw [hS.size]; decide) (((hp.get 20 (by rfl) rfl rfl)).trans (bF (congrArg (!·) c3))) (does_val (x_nilck rfl ((hp.get 23 (by rfl) rfl rfl))) rfl)) ?_
            refine Steps.cons (fun a w hS hI hp => ok_if (d := 27) rfl rfl (by rw [hS.size]; decide) (((hp.get 20 (by rfl) rfl rfl)).trans (bF (congrArg (!·) c3))) (does_val (x_field rfl ((hp.get 24 (by rfl) rfl rfl)) Try.underlying54 rfl (by kernel_rfl)) rfl)) ?_
            refine Steps.cons (fun a w hS hI hp => ok_if (d := 27) rfl rfl (by rw [hS.size]; decide) (((hp.get 20 (by rfl) rfl rfl)).trans (bF (congrArg (!·) c3))) (does_val (x_field rfl ((hp.get 25 (by rfl) rfl rfl)) Try.underlying52 rfl (by kernel_rfl)) rfl)) ?_
            refine Steps.cons (fun a w hS hI hp => ok_if (d := 27) rfl rfl (by rw [hS.size]; decide) (((hp.get 20 (by rfl) rfl rfl)).trans (bF (congrArg (!·) c3))) (does_val (x_load1 (d := .int .i64) rfl ((hp.get 26 (by rfl) rfl rfl)) (by kernel_rfl) rfl ((blk_cell (((hI.1).block g0 (blk_lt HP0)).trans HP0) 3).trans rfl)) rfl)) ?_
            refine Steps.cons (fun a w hS hI hp => ok_if (d := 27) rfl rfl (by rw [hS.size]; decide) (((hp.get 20 (by rfl) rfl rfl)).trans (bF (congrArg (!·) c3))) (does_val (x_bin rfl ((hp.get 22 (by rfl) rfl rfl)) ((hp.get 27 (by rfl) rfl rfl)) (b_neq _ _ _ _ _ _)) rfl)) ?_
            refine Steps.cons (fun a w hS hI hp => ok_on rfl (does_val (x_pickF rfl (((hp.get 20 (by rfl) rfl rfl)).trans (bF (congrArg (!·) c3))) ((hp.get 28 (by rfl) rfl rfl))) rfl)) ?_
            exact Steps.nil
          clear hS
          intro at8 w9 hS hI hp
          have hBw9_w := hI.1
          have hBw9_w3 := hI.2
          have hv36 : sl _ 36 = .bool (!decide (a1_6 = a0_3)) := hp 29 (by decide)
          have hBw9_w9 := Below.refl w9.heap.size w9
          have hS := hS.cons hv36
          clear hp hI hv36
          refine hK7 _ _ ?_
          clear hK7 K7
          refine wp_cond_false ((hS.get 0 rfl).trans (bF (congrArg (!·) (decide_eq_true c4)))) ?_
          refine wp_skip ?_
          refine hK6 _ _ ?_
          clear hK6 K6
          refine wp_seq_k (fun K10 hK10 => ?_)
          refine reg_any (N := 52) (bs := [(36, .bool (!decide (a1_6 = a0_3))), (5, .bool false), (4, .int .i64 0), (3, .pointer (some ⟨g4, 0, none⟩)), (0, .pointer (some ⟨g0, 0, none⟩))]) (I := fun x => Below w.heap.size w x ∧ Below w3.heap.size w3 x ∧ Below w9.heap.size w9 x) (ps := [IsV (.pointer (some ⟨g4, 8, none⟩)), IsV (.int .i64 a1_8), IsV (.pointer (some ⟨g0, 0, none⟩)), IsV (.pointer (some ⟨g0, 0, none⟩)), IsV (.pointer (some ⟨g0, 3, none⟩)), IsV (.pointer (some ⟨g0, 4, none⟩)), IsV (.int .i64 a0_4), IsV (.int .i64 (wrap64 (a1_8 - a0_4))), IsV (.pointer (some ⟨g4, 3, none⟩)), IsV (.int .i64 a1_3), IsV (.int .i64 t11), IsV (.int .i64 (wrap64 ((wrap64 (a1_8 - a0_4)) - t11))), IsV (.int .i64 (wrap64 ((wrap64 (a1_8 - a0_4)) - t11)))]) (by kernel_rfl) (by kernel_rfl) ?_ ?_ rfl hS ⟨hBw9_w, hBw9_w3, hBw9_w9⟩ ?_ ?_
          · exact fun x y hI hb => ⟨below_step hI.1 hb, below_step hI.2.1 hb, below_step hI.2.2 hb⟩
          · exact AllStay.cons (Stays.v _) (AllStay.cons (Stays.v _) (AllStay.cons (Stays.v _) (AllStay.cons (Stays.v _) (AllStay.cons (Stays.v _) (AllStay.cons (Stays.v _) (AllStay.cons (Stays.v _) (AllStay.cons (Stays.v _) (AllStay.cons (Stays.v _) (AllStay.cons (Stays.v _) (AllStay.cons (Stays.v _) (AllStay.cons (Stays.v _) (AllStay.cons (Stays.v _) (AllStay.nil)))))))))))))
          · refine Steps.cons (fun a w hS hI hp => ok_on rfl (does_val (x_field rfl (hS.get 3 rfl) Try.underlying34 rfl (by kernel_rfl)) rfl)) ?_
            refine Steps.cons (fun a w hS hI hp => ok_on rfl (does_val (x_load1 (d := .int .i64) rfl ((hp.get 0 (by rfl) rfl rfl)) (by kernel_rfl) rfl ((blk_cell (((hI.2.1).block g4 (blk_lt hbxg4)).trans hbxg4) 8).trans rfl)) rfl)) ?_
            refine Steps.cons (fun a w hS hI hp => ok_on rfl (does_val (x_move rfl (hS.get 4 rfl)) rfl)) ?_
            refine Steps.cons (fun a w hS hI hp => ok_on rfl (does_val (x_nilck rfl ((hp.get 2 (by rfl) rfl rfl))) rfl)) ?_
            refine Steps.cons (fun a w hS hI hp => ok_on rfl (does_val (x_field rfl ((hp.get 3 (by rfl) rfl rfl)) Try.underlying54 rfl (by kernel_rfl)) rfl)) ?_
            refine Steps.cons (fun a w hS hI hp => ok_on rfl (does_val (x_field rfl ((hp.get 4 (by rfl) rfl rfl)) Try.underlying52 rfl (by kernel_rfl)) rfl)) ?_
            refine Steps.cons (fun a w hS hI hp => ok_on rfl (does_val (x_load1 (d := .int .i64) rfl ((hp.get 5 (by rfl) rfl rfl)) (by kernel_rfl) rfl ((blk_cell (((hI.1).block g0 (blk_lt HP0)).trans HP0) 4).trans rfl)) rfl)) ?_
            refine Steps.cons (fun a w hS hI hp => ok_on rfl (does_val (x_bin rfl ((hp.get 1 (by rfl) rfl rfl)) ((hp.get 6 (by rfl) rfl rfl)) (b_sub _ _ _ _ _)) rfl)) ?_
            refine Steps.cons (fun a w hS hI hp => ok_on rfl (does_val (x_field rfl (hS.get 3 rfl) Try.underlying34 rfl (by kernel_rfl)) rfl)) ?_
            refine Steps.cons (fun a w hS hI hp => ok_on rfl (does_val (x_load1 (d := .int .i64) rfl ((hp.get 8 (by rfl) rfl rfl)) (by kernel_rfl) rfl ((blk_cell (((hI.2.1).block g4 (blk_lt hbxg4)).trans hbxg4) 3).trans rfl)) rfl)) ?_
            refine Steps.cons (fun a w hS hI hp => ok_on rfl (does_call (by kernel_rfl) (ar1 ((hp.get 9 (by rfl) rfl rfl))) ((stamp_Floor.calls a1_3 t11 _  At11).mono fun _ _ h => ⟨_, h.1, h.2.below, rfl⟩))) ?_
            refine Steps.cons (fun a w hS hI hp => ok_on rfl (does_val (x_bin rfl ((hp.get 7 (by rfl) rfl rfl)) ((hp.get 10 (by rfl) rfl rfl)) (b_sub _ _ _ _ _)) rfl)) ?_
            refine Steps.cons (fun a w hS hI hp => ok_on rfl (does_val (x_assign rfl ((hp.get 11 (by rfl) rfl rfl))) rfl)) ?_
            exact Steps.nil
          clear hS
          intro at12 w13 hS hI hp
          have hBw13_w := hI.1
          have hBw13_w3 := hI.2.1
          have hBw13_w9 := hI.2.2
          replace hS := ((((hS.nil).cons (hS.get 4 rfl)).cons (hS.get 2 rfl)).cons (hS.get 1 rfl)).cons (hS.get 0 rfl)
          have hv6 : sl _ 6 = .int .i64 (wrap64 ((wrap64 (a1_8 - a0_4)) - t11)) := hp 12 (by decide)
          have hBw13_w13 := Below.refl w13.heap.size w13
          have hS := hS.cons hv6
          clear hp hI hv6
          refine hK10 _ _ ?_
          clear hK10 K10
          refine wp_seq_k (fun K14 hK14 => ?_)
          refine reg_seq_tail 1 (N := 52) (bs := [(6, .int .i64 (wrap64 ((wrap64 (a1_8 - a0_4)) - t11))), (36, .bool (!decide (a1_6 = a0_3))), (5, .bool false), (4, .int .i64 0), (0, .pointer (some ⟨g0, 0, none⟩))]) (I := fun x => Below w.heap.size w x ∧ Below w3.heap.size w3 x ∧ Below w13.heap.size w13 x) (ps := [IsV (.pointer (some ⟨g0, 0, none⟩))]) (by kernel_rfl) ?_ ?_ rfl hS ⟨hBw13_w, hBw13_w3, hBw13_w13⟩ ?_ ?_
          · exact fun x y hI hb => ⟨below_step hI.1 hb, below_step hI.2.1 hb, below_step hI.2.2 hb⟩
          · exact AllStay.cons (Stays.v _) (AllStay.nil)
          · refine Steps.cons (fun a w hS hI hp => ok_on rfl (does_val (x_move rfl (hS.get 4 rfl)) rfl)) ?_
            exact Steps.nil
          clear hS
          intro at15 w16 hS hI hp
          have hBw16_w := hI.1
          have hBw16_w3 := hI.2.1
          have hBw16_w13 := hI.2.2
          replace hS := ((((hS.nil).cons (hS.get 3 rfl)).cons (hS.get 2 rfl)).cons (hS.get 1 rfl)).cons (hS.get 0 rfl)
          have hv49 : sl _ 49 = .pointer (some ⟨g0, 0, none⟩) := hp 0 (by decide)
          have hBw16_w16 := Below.refl w16.heap.size w16
          have hS := hS.cons hv49
          clear hp hI hv49
          show wpList _ _ _ [_] _ _
          refine list_step rfl (R := fun v w' => v = .tuple #[] ∧ w'.heap[g0]? = some (.cells #[.int .u64 t18_1, .int .i64 t18_2, .int .i64 t18_3, .int .i64 t18_4, .int .i64 t18_5, .bool t18_6, .bool t18_7] 54 (0, 0)) ∧ Tch g0 _ w') (does_call (by kernel_rfl) (ar1 (hS.get 0 rfl)) ((delay_Exchange_Clear.calls g0 a0_0 a0_1 a0_2 a0_3 a0_4 a0_5 a0_6 t18_1 t18_2 t18_3 t18_4 t18_5 t18_6 t18_7 _ ((hBw16_w.block g0 (blk_lt HP0)).trans HP0) At18).mono fun _ _ h => ⟨_, h.1, rfl, h.2⟩)) ?_
          rintro vw17 w17 ⟨rfl, hbxw17, hT⟩
          have hn19 := hT.blk ((hBw16_w3.block g4 (blk_lt hbxg4)).trans hbxg4) hne5
          have hTw17 := (Tch.more (Tch.refl _ _) hBw16_w).trans hT
          have hBw17_w17 := Below.refl w17.heap.size w17
          clear hT
          refine hS.next (v := .tuple #[]) (d := 50) rfl (by decide) (by rfl) ?_
          clear hS
          intro at20 hS
          refine wpList_nil ?_
          refine hK14 _ _ ?_
          clear hK14 K14
          refine wp_seq_k (fun K21 hK21 => ?_)
          replace hS := ((((hS.nil).cons (hS.get 3 rfl)).cons (hS.get 2 rfl)).cons (hS.get 1 rfl)).cons (hS.get 0 rfl)
          refine reg_seq (N := 52) (bs := [(50, .tuple #[]), (49, .pointer (some ⟨g0, 0, none⟩)), (6, .int .i64 (wrap64 ((wrap64 (a1_8 - a0_4)) - t11))), (36, .bool (!decide (a1_6 = a0_3)))]) (I := fun x => Below w17.heap.size w17 x) (ps := [IsV (.int .i64 (wrap64 ((wrap64 (a1_8 - a0_4)) - t11))), IsV (.int .i64 (wrap64 ((wrap64 (a1_8 - a0_4)) - t11))), IsV (.bool true)]) (by kernel_rfl) ?_ ?_ rfl hS hBw17_w17 ?_ ?_
          · exact fun x y hI hb => below_step hI hb
          · exact AllStay.cons (Stays.v _) (AllStay.cons (Stays.v _) (AllStay.cons (Stays.v _) (AllStay.nil)))
          · refine Steps.cons (fun a w hS hI hp => ok_on rfl (does_val (x_move rfl (hS.get 2 rfl)) rfl)) ?_
            refine Steps.cons (fun a w hS hI hp => ok_on rfl (does_val (x_assign rfl ((hp.get 0 (by rfl) rfl rfl))) rfl)) ?_
            refine Steps.cons (fun a w hS hI hp => ok_on rfl (does_val (x_assign rfl (rfl)) rfl)) ?_
            exact Steps.nil
          clear hS
          intro at22 w23 hS hI hp
          have hBw23_w17 := hI
          replace hS := (hS.nil).cons (hS.get 3 rfl)
          have hv4 : sl _ 4 = .int .i64 (wrap64 ((wrap64 (a1_8 - a0_4)) - t11)) := hp 1 (by decide)
          have hv5 : sl _ 5 = .bool true := hp 2 (by decide)
          have hBw23_w23 := Below.refl w23.heap.size w23
          have hS := hS.cons hv4
          have hS := hS.cons hv5
          clear hp hI hv4 hv5
          refine hK21 _ _ ?_
          clear hK21 K21
          refine wp_ret ?_
          (try simp only [Exit.then, Exit.inBlock])
          exact bodyPost_ret (v := .tuple #[.int .i64 (wrap64 ((wrap64 (a1_8 - a0_4)) - t11)), .bool true]) (results_list (rs := [.tmp 4, .tmp 5]) rfl (by simp) (Vals.at (hS.get 1 rfl) (Vals.at (hS.get 0 rfl) .nil))) hS.nodef ⟨rfl, ((hBw23_w17.block g0 (blk_lt hbxw17)).trans hbxw17), (Tch.more hTw17 hBw23_w17)⟩
        · rw [if_neg c4] at H
          simp only [Option.some.injEq, Prod.mk.injEq] at H
          obtain ⟨rfl, rfl, rfl, rfl, rfl, rfl, rfl, rfl, rfl⟩ := H
          refine calls_of_wp (fn := Try.f18) (by kernel_rfl) rfl ?_
          have hS := St.enter #[.pointer (some ⟨g0, 0, none⟩), .agg #[.int .i64 a1_0, .int .i64 a1_1, .int .i64 a1_2, .int .i64 a1_3, .int .u64 a1_4, .int .i64 a1_5, .int .i64 a1_6, .int .i64 a1_7, .int .i64 a1_8, .int .u64 a1_9, .int .i64 a1_10, .int .i64 a1_11, .int .i64 a1_12, .int .i64 a1_13, .int .i64 a1_14, .int .i64 a1_15, .int .i64 a1_16, .int .u64 a1_17, .int .i64 a1_18, .int .i64 a1_19, .int .i64 a1_20, .int .i64 a1_21, .int .i64 a1_22]] 52 (by simp) [(0, .pointer (some ⟨g0, 0, none⟩)), (1, .agg #[.int .i64 a1_0, .int .i64 a1_1, .int .i64 a1_2, .int .i64 a1_3, .int .u64 a1_4, .int .i64 a1_5, .int .i64 a1_6, .int .i64 a1_7, .int .i64 a1_8, .int .u64 a1_9, .int .i64 a1_10, .int .i64 a1_11, .int .i64 a1_12, .int .i64 a1_13, .int .i64 a1_14, .int .i64 a1_15, .int .i64 a1_16, .int .u64 a1_17, .int .i64 a1_18, .int .i64 a1_19, .int .i64 a1_20, .int .i64 a1_21, .int .i64 a1_22])] (by simp)
          have HB0 := Below.refl w.heap.size w
          refine wp_seq_k (fun K1 hK1 => ?_)
          refine reg_seq (N := 52) (bs := [(0, .pointer (some ⟨g0, 0, none⟩)), (1, .agg #[.int .i64 a1_0, .int .i64 a1_1, .int .i64 a1_2, .int .i64 a1_3, .int .u64 a1_4, .int .i64 a1_5, .int .i64 a1_6, .int .i64 a1_7, .int .i64 a1_8, .int .u64 a1_9, .int .i64 a1_10, .int .i64 a1_11, .int .i64 a1_12, .int .i64 a1_13, .int .i64 a1_14, .int .i64 a1_15, .int .i64 a1_16, .int .u64 a1_17, .int .i64 a1_18, .int .i64 a1_19, .int .i64 a1_20, .int .i64 a1_21, .int .i64 a1_22])]) (I := fun x => Below w.heap.size w x) (ps := [IsB #[.int .i64 a1_0, .int .i64 a1_1, .int .i64 a1_2, .int .i64 a1_3, .int .u64 a1_4, .int .i64 a1_5, .int .i64 a1_6, .int .i64 a1_7, .int .i64 a1_8, .int .u64 a1_9, .int .i64 a1_10, .int .i64 a1_11, .int .i64 a1_12, .int .i64 a1_13, .int .i64 a1_14, .int .i64 a1_15, .int .i64 a1_16, .int .u64 a1_17, .int .i64 a1_18, .int .i64 a1_19, .int .i64 a1_20, .int .i64 a1_21, .int .i64 a1_22] 34 w.heap.size, IsV (.int .i64 0), IsV (.bool false)]) (by kernel_rfl) ?_ ?_ rfl hS HB0 ?_ ?_
          · exact fun x y hI hb => below_step hI hb
          · exact AllStay.cons (Stays.b _ _ _) (AllStay.cons (Stays.v _) (AllStay.cons (Stays.v _) (AllStay.nil)))
          · refine Steps.cons (fun a w hS hI hp => ok_on rfl (does_var (x_box rfl (congrArg Value.cells (hS.get 1 rfl))) (hI).size)) ?_
            refine Steps.cons (fun a w hS hI hp => ok_on rfl (does_val (x_assign rfl (rfl)) rfl)) ?_
            refine Steps.cons (fun a w hS hI hp => ok_on rfl (does_val (x_assign rfl (rfl)) rfl)) ?_
            exact Steps.nil
          clear hS
          intro at2 w3 hS hI hp
          have hBw3_w := hI
          replace hS := (hS.nil).cons (hS.get 0 rfl)
          obtain ⟨g4, hv3, hgeg4, hbxg4⟩ := (show IsB _ 34 _ (sl _ 3) _ from hp 0 (by decide))
          have hne5 : g4 ≠ g0 := Nat.ne_of_gt (Nat.lt_of_lt_of_le (blk_lt ((HB0.block g0 (blk_lt HP0)).trans HP0)) hgeg4)
          have hv4 : sl _ 4 = .int .i64 0 := hp 1 (by decide)
          have hv5 : sl _ 5 = .bool false := hp 2 (by decide)
          have hBw3_w3 := Below.refl w3.heap.size w3
          have hS := hS.cons hv3
          have hS := hS.cons hv4
          have hS := hS.cons hv5
          clear hp hI hv3 hv4 hv5
          refine hK1 _ _ ?_
          clear hK1 K1
          refine wp_seq_k (fun K6 hK6 => ?_)
          refine wp_seq_k (fun K7 hK7 => ?_)
          refine reg_any (N := 52) (bs := [(5, .bool false), (4, .int .i64 0), (3, .pointer (some ⟨g4, 0, none⟩)), (0, .pointer (some ⟨g0, 0, none⟩))]) (I := fun x => Below w.heap.size w x ∧ Below w3.heap.size w3 x) (ps := [IsV (.pointer (some ⟨g4, 0, none⟩)), IsV (.int .i64 a1_0), IsV (.bool (!decide (a1_0 = 9))), IsV (.bool (!decide (a1_0 = 9))), IsV (.pointer (some ⟨g4, 9, none⟩)), IsV (.agg #[.int .u64 a1_9, .int .i64 a1_10]), IsV (.pointer (some ⟨g0, 0, none⟩)), IsV (.pointer (some ⟨g0, 0, none⟩)), IsV (.pointer (some ⟨g0, 0, none⟩)), IsV (.agg #[.int .u64 a0_0, .int .i64 a0_1]), IsV (.bool (!((a1_9 == a0_0) && (a1_10 == a0_1)))), IsV (.bool (!((a1_9 == a0_0) && (a1_10 == a0_1)))), IsV (.bool (!((a1_9 == a0_0) && (a1_10 == a0_1)))), IsV (.pointer (some ⟨g0, 0, none⟩)), IsV (.pointer (some ⟨g0, 0, none⟩)), IsV (.pointer (some ⟨g0, 3, none⟩)), IsV (.pointer (some ⟨g0, 6, none⟩)), IsV (.bool a0_6), IsV (.bool (!a0_6)), IsV (.bool (!a0_6)), IsV (.bool (!a0_6)), IsV (.pointer (some ⟨g4, 6, none⟩)), IsV (.int .i64 a1_6), IsV (.pointer (some ⟨g0, 0, none⟩)), IsV (.pointer (some ⟨g0, 0, none⟩)), IsV (.pointer (some ⟨g0, 3, none⟩)), IsV (.pointer (some ⟨g0, 3, none⟩)), IsV (.int .i64 a0_3), IsV (.bool (!decide (a1_6 = a0_3))), IsV (.bool (!decide (a1_6 = a0_3)))]) (by kernel_rfl) (by kernel_rfl) ?_ ?_ rfl hS ⟨hBw3_w, hBw3_w3⟩ ?_ ?_
          · exact fun x y hI hb => ⟨below_step hI.1 hb, below_step hI.2 hb⟩
          · exact AllStay.cons (Stays.v _) (AllStay.cons (Stays.v _) (AllStay.cons (Stays.v _) (AllStay.cons (Stays.v _) (AllStay.cons (Stays.v _) (AllStay.cons (Stays.v _) (AllStay.cons (Stays.v _) (AllStay.cons (Stays.v _) (AllStay.cons (Stays.v _) (AllStay.cons (Stays.v _) (AllStay.cons (Stays.v _) (AllStay.cons (Stays.v _) (AllStay.cons (Stays.v _) (AllStay.cons (Stays.v _) (AllStay.cons (Stays.v _) (AllStay.cons (Stays.v _) (AllStay.cons (Stays.v _) (AllStay.cons (Stays.v _) (AllStay.cons (Stays.v _) (AllStay.cons (Stays.v _) (AllStay.cons (Stays.v _) (AllStay.cons (Stays.v _) (AllStay.cons (Stays.v _) (AllStay.cons (Stays.v _) (AllStay.cons (Stays.v _) (AllStay.cons (Stays.v _) (AllStay.cons (Stays.v _) (AllStay.cons (Stays.v _) (AllStay.cons (Stays.v _) (AllStay.cons (Stays.v _) (AllStay.nil))))))))))))))))))))))))))))))
          · refine Steps.cons (fun a w hS hI hp => ok_on rfl (does_val (x_field rfl (hS.get 2 rfl) Try.underlying34 rfl (by kernel_rfl)) rfl)) ?_
            refine Steps.cons (fun a w hS hI hp => ok_on rfl (does_val (x_load1 (d := .int .i64) rfl ((hp.get 0 (by rfl) rfl rfl)) (by kernel_rfl) rfl ((blk_cell (((hI.2).block g4 (blk_lt hbxg4)).trans hbxg4) 0).trans rfl)) rfl)) ?_
            refine Steps.cons (fun a w hS hI hp => ok_on rfl (does_val (x_bin rfl ((hp.get 1 (by rfl) rfl rfl)) (rfl) (b_neq _ _ _ _ _ _)) rfl)) ?_
            refine Steps.cons (fun a w hS hI hp => ok_on rfl (does_val (x_move rfl ((hp.get 2 (by rfl) rfl rfl))) rfl)) ?_
            refine Steps.cons (fun a w hS hI hp => ok_if (d := 10) rfl rfl (by rw [hS.size]; decide) (((hp.get 3 (by rfl) rfl rfl)).trans (bF (congrArg (!·) (decide_eq_true c1)))) (does_val (x_field rfl (hS.get 2 rfl) Try.underlying34 rfl (by kernel_rfl)) rfl)) ?_
            refine Steps.cons (fun a w hS hI hp => ok_if (d := 10) rfl rfl (by rw [hS.size]; decide) (((hp.get 3 (by rfl) rfl rfl)).trans (bF (congrArg (!·) (decide_eq_true c1)))) (does_loadmid (cs := [.int .u64 a1_9, .int .i64 a1_10]) rfl ((hp.get 4 (by rfl) rfl rfl)) (((hI.2).block g4 (blk_lt hbxg4)).trans hbxg4) rfl Try.underlying24 rfl (by kernel_rfl) rfl)) ?_
            refine Steps.cons (fun a w hS hI hp => ok_if (d := 10) rfl rfl (by rw [hS.size]; decide) (((hp.get 3 (by rfl) rfl rfl)).trans (bF (congrArg (!·) (decide_eq_true c1)))) (does_val (x_move rfl (hS.get 3 rfl)) rfl)) ?_
            refine Steps.cons (fun a w hS hI hp => ok_if (d := 10) rfl rfl (by rw [hS.size]; decide) (((hp.get 3 (by rfl) rfl rfl)).trans (bF (congrArg (!·) (decide_eq_true c1)))) (does_val (x_nilck rfl ((hp.get 6 (by rfl) rfl rfl))) rfl)) ?_
            refine Steps.cons (fun a w hS hI hp => ok_if (d := 10) rfl rfl (by rw [hS.size]; decide) (((hp.get 3 (by rfl) rfl rfl)).trans (bF (congrArg (!·) (decide_eq_true c1)))) (does_val (x_field rfl ((hp.get 7 (by rfl) rfl rfl)) Try.underlying54 rfl (by kernel_rfl)) rfl)) ?_
            refine Steps.cons (fun a w hS hI hp => ok_if (d := 10) rfl rfl (by rw [hS.size]; decide) (((hp.get 3 (by rfl) rfl rfl)).trans (bF (congrArg (!·) (decide_eq_true c1)))) (does_loadmid (cs := [.int .u64 a0_0, .int .i64 a0_1]) rfl ((hp.get 8 (by rfl) rfl rfl)) (((hI.1).block g0 (blk_lt HP0)).trans HP0) rfl Try.underlying24 rfl (by kernel_rfl) rfl)) ?_
            refine Steps.cons (fun a w hS hI hp => ok_if (d := 10) rfl rfl (by rw [hS.size]; decide) (((hp.get 3 (by rfl) rfl rfl)).trans (bF (congrArg (!·) (decide_eq_true c1)))) (does_val (x_bin rfl ((hp.get 5 (by rfl) rfl rfl)) ((hp.get 9 (by rfl) rfl rfl)) (delay_Exchange_Response.neq24 _ _ _ a1_9 a1_10 a0_0 a0_1)) rfl)) ?_
            refine Steps.cons (fun a w hS hI hp => ok_on rfl (does_val (x_pickF rfl (((hp.get 3 (by rfl) rfl rfl)).trans (bF (congrArg (!·) (decide_eq_true c1)))) ((hp.get 10 (by rfl) rfl rfl))) rfl)) ?_
            refine Steps.cons (fun a w hS hI hp => ok_on rfl (does_val (x_move rfl ((hp.get 11 (by rfl) rfl rfl))) rfl)) ?_
            refine Steps.cons (fun a w hS hI hp => ok_if (d := 19) rfl rfl (by rw [hS.size]; decide) (((hp.get 12 (by rfl) rfl rfl)).trans (bF (congrArg (!·) c2))) (does_val (x_move rfl (hS.get 3 rfl)) rfl)) ?_
            refine Steps.cons (fun a w hS hI hp => ok_if (d := 19) rfl rfl (by rw [hS.size]; decide) (((hp.get 12 (by rfl) rfl rfl)).trans (bF (congrArg (!·) c2))) (does_val (x_nilck rfl ((hp.get 13 (by rfl) rfl rfl))) rfl)) ?_
            refine Steps.cons (fun a w hS hI hp => ok_if (d := 19) rfl rfl (by rw [hS.size]; decide) (((hp.get 12 (by rfl) rfl rfl)).trans (bF (congrArg (!·) c2))) (does_val (x_field rfl ((hp.get 14 (by rfl) rfl rfl)) Try.underlying54 rfl (by kernel_rfl)) rfl)) ?_
            refine Steps.cons (fun a w hS hI hp => ok_if (d := 19) rfl rfl (by rw [hS.size]; decide) (((hp.get 12 (by rfl) rfl rfl)).trans (bF (congrArg (!·) c2))) (does_val (x_field rfl ((hp.get 15 (by rfl) rfl rfl)) Try.underlying52 rfl (by kernel_rfl)) rfl)) ?_
            refine Steps.cons (fun a w hS hI hp => ok_if (d := 19) rfl rfl (by rw [hS.size]; decide) (((hp.get 12 (by rfl) rfl rfl)).trans (bF (congrArg (!·) c2))) (does_val (x_load1 (d := .bool) rfl ((hp.get 16 (by rfl) rfl rfl)) (by kernel_rfl) rfl ((blk_cell (((hI.1).block g0 (blk_lt HP0)).trans HP0) 6).trans rfl)) rfl)) ?_
            refine Steps.cons (fun a w hS hI hp => ok_if (d := 19) rfl rfl (by rw [hS.size]; decide) (((hp.get 12 (by rfl) rfl rfl)).trans (bF (congrArg (!·) c2))) (does_val (x_not rfl ((hp.get 17 (by rfl) rfl rfl))) rfl)) ?_
            refine Steps.cons (fun a w hS hI hp => ok_on rfl (does_val (x_pickF rfl (((hp.get 12 (by rfl) rfl rfl)).trans (bF (congrArg (!·) c2))) ((hp.get 18 (by rfl) rfl rfl))) rfl)) ?_
            refine Steps.cons (fun a w hS hI hp => ok_on rfl (does_val (x_move rfl ((hp.get 19 (by rfl) rfl rfl))) rfl)) ?_
            refine Steps.cons (fun a w hS hI hp => ok_if (d := 27) rfl rfl (by rw [hS.size]; decide) (((hp.get 20 (by rfl) rfl rfl)).trans (bF (congrArg (!·) c3))) (does_val (x_field rfl (hS.get 2 rfl) Try.underlying34 rfl (by kernel_rfl)) rfl)) ?_
            refine Steps.cons (fun a w hS hI hp => ok_if (d := 27) rfl rfl (by rw [hS.size]; decide) (((hp.get 20 (by rfl) rfl rfl)).trans (bF (congrArg (!·) c3))) (does_val (x_load1 (d := .int .i64) rfl ((hp.get 21 (by rfl) rfl rfl)) (by kernel_rfl) rfl ((blk_cell (((hI.2).block g4 (blk_lt hbxg4)).trans hbxg4) 6).trans rfl)) rfl)) ?_
            refine Steps.cons (fun a w hS hI hp => ok_if (d := 27) rfl rfl (by rw [hS.size]; decide) (((hp.get 20 (by rfl) rfl rfl)).trans (bF (congrArg (!·) c3))) (does_val (x_move rfl (hS.get 3 rfl)) rfl)) ?_
            refine Steps.cons (fun a w hS hI hp => ok_if (d := 27) rfl rfl (by rw [hS.size]; decide) (((hp.get 20 (by rfl) rfl rfl)).trans (bF (congrArg (!·) c3))) (does_val (x_nilck rfl ((hp.get 23 (by rfl) rfl rfl))) rfl)) ?_
            refine Steps.cons (fun a w hS hI hp => ok_if (d := 27) rfl rfl (by rw [hS.size]; decide) (((hp.get 20 (by rfl) rfl rfl)).trans (bF (congrArg (!·) c3))) (does_val (x_field rfl ((hp.get 24 (by rfl) rfl rfl)) Try.underlying54 rfl (by kernel_rfl)) rfl)) ?_
            refine Steps.cons (fun a w hS hI hp => ok_if (d := 27) rfl rfl (by rw [hS.size]; decide) (((hp.get 20 (by rfl) rfl rfl)).trans (bF (congrArg (!·) c3))) (does_val (x_field rfl ((hp.get 25 (by rfl) rfl rfl)) Try.underlying52 rfl (by kernel_rfl)) rfl)) ?_
            refine Steps.cons (fun a w hS hI hp => ok_if (d := 27) rfl rfl (by rw [hS.size]; decide) (((hp.get 20 (by rfl) rfl rfl)).trans (bF (congrArg (!·) c3))) (does_val (x_load1 (d := .int .i64) rfl ((hp.get 26 (by rfl) rfl rfl)) (by kernel_rfl) rfl ((blk_cell (((hI.1).block g0 (blk_lt HP0)).trans HP0) 3).trans rfl)) rfl)) ?_
            refine Steps.cons (fun a w hS hI hp => ok_if (d := 27) rfl rfl (by rw [hS.size]; decide) (((hp.get 20 (by rfl) rfl rfl)).trans (bF (congrArg (!·) c3))) (does_val (x_bin rfl ((hp.get 22 (by rfl) rfl rfl)) ((hp.get 27 (by rfl) rfl rfl)) (b_neq _ _ _ _ _ _)) rfl)) ?_
            refine Steps.cons (fun a w hS hI hp => ok_on rfl (does_val (x_pickF rfl (((hp.get 20 (by rfl) rfl rfl)).trans (bF (congrArg (!·) c3))) ((hp.get 28 (by rfl) rfl rfl))) rfl)) ?_
            exact Steps.nil
          clear hS
          intro at8 w9 hS hI hp
          have hBw9_w := hI.1
          have hBw9_w3 := hI.2
          have hv36 : sl _ 36 = .bool (!decide (a1_6 = a0_3)) := hp 29 (by decide)
          have hBw9_w9 := Below.refl w9.heap.size w9
          have hS := hS.cons hv36
          clear hp hI hv36
          refine hK7 _ _ ?_
          clear hK7 K7
          refine wp_cond_true ((hS.get 0 rfl).trans (bT (congrArg (!·) (decide_eq_false c4)))) ?_
          refine wp_seq_k (fun K10 hK10 => ?_)
          replace hS := (((hS.nil).cons (hS.get 4 rfl)).cons (hS.get 3 rfl)).cons (hS.get 0 rfl)
          refine reg_seq (N := 52) (bs := [(36, .bool (!decide (a1_6 = a0_3))), (3, .pointer (some ⟨g4, 0, none⟩)), (0, .pointer (some ⟨g0, 0, none⟩))]) (I := fun x => Below w.heap.size w x ∧ Below w3.heap.size w3 x ∧ Below w9.heap.size w9 x) (ps := [IsV (.int .i64 0), IsV (.bool false)]) (by kernel_rfl) ?_ ?_ rfl hS ⟨hBw9_w, hBw9_w3, hBw9_w9⟩ ?_ ?_
          · exact fun x y hI hb => ⟨below_step hI.1 hb, below_step hI.2.1 hb, below_step hI.2.2 hb⟩
          · exact AllStay.cons (Stays.v _) (AllStay.cons (Stays.v _) (AllStay.nil))
          · refine Steps.cons (fun a w hS hI hp => ok_on rfl (does_val (x_assign rfl (rfl)) rfl)) ?_
            refine Steps.cons (fun a w hS hI hp => ok_on rfl (does_val (x_assign rfl (rfl)) rfl)) ?_
            exact Steps.nil
          clear hS
          intro at11 w12 hS hI hp
          have hBw12_w := hI.1
          have hBw12_w3 := hI.2.1
          have hBw12_w9 := hI.2.2
          have hv4 : sl _ 4 = .int .i64 0 := hp 0 (by decide)
          have hv5 : sl _ 5 = .bool false := hp 1 (by decide)
          have hBw12_w12 := Below.refl w12.heap.size w12
          have hS := hS.cons hv4
          have hS := hS.cons hv5
          clear hp hI hv4 hv5
          refine hK10 _ _ ?_
          clear hK10 K10
          refine wp_ret ?_
          (try simp only [Exit.then, Exit.inBlock])
          exact bodyPost_ret (v := .tuple #[.int .i64 0, .bool false]) (results_list (rs := [.tmp 4, .tmp 5]) rfl (by simp) (Vals.at (hS.get 1 rfl) (Vals.at (hS.get 0 rfl) .nil))) hS.nodef ⟨rfl, ((hBw12_w.block g0 (blk_lt HP0)).trans HP0), (Tch.more (Tch.refl _ _) hBw12_w)⟩
      · rw [if_neg c3] at H
        simp only [Option.some.injEq, Prod.mk.injEq] at H
        obtain ⟨rfl, rfl, rfl, rfl, rfl, rfl, rfl, rfl, rfl⟩ := H
        refine calls_of_wp (fn := Try.f18) (by kernel_rfl) rfl ?_
        have hS := St.enter #[.pointer (some ⟨g0, 0, none⟩), .agg #[.int .i64 a1_0, .int .i64 a1_1, .int .i64 a1_2, .int .i64 a1_3, .int .u64 a1_4, .int .i64 a1_5, .int .i64 a1_6, .int .i64 a1_7, .int .i64 a1_8, .int .u64 a1_9, .int .i64 a1_10, .int .i64 a1_11, .int .i64 a1_12, .int .i64 a1_13, .int .i64 a1_14, .int .i64 a1_15, .int .i64 a1_16, .int .u64 a1_17, .int .i64 a1_18, .int .i64 a1_19, .int .i64 a1_20, .int .i64 a1_21, .int .i64 a1_22]] 52 (by simp) [(0, .pointer (some ⟨g0, 0, none⟩)), (1, .agg #[.int .i64 a1_0, .int .i64 a1_1, .int .i64 a1_2, .int .i64 a1_3, .int .u64 a1_4, .int .i64 a1_5, .int .i64 a1_6, .int .i64 a1_7, .int .i64 a1_8, .int .u64 a1_9, .int .i64 a1_10, .int .i64 a1_11, .int .i64 a1_12, .int .i64 a1_13, .int .i64 a1_14, .int .i64 a1_15, .int .i64 a1_16, .int .u64 a1_17, .int .i64 a1_18, .int .i64 a1_19, .int .i64 a1_20, .int .i64 a1_21, .int .i64 a1_22])] (by simp)
        have HB0 := Below.refl w.heap.size w
        refine wp_seq_k (fun K1 hK1 => ?_)
        refine reg_seq (N := 52) (bs := [(0, .pointer (some ⟨g0, 0, none⟩)), (1, .agg #[.int .i64 a1_0, .int .i64 a1_1, .int .i64 a1_2, .int .i64 a1_3, .int .u64 a1_4, .int .i64 a1_5, .int .i64 a1_6, .int .i64 a1_7, .int .i64 a1_8, .int .u64 a1_9, .int .i64 a1_10, .int .i64 a1_11, .int .i64 a1_12, .int .i64 a1_13, .int .i64 a1_14, .int .i64 a1_15, .int .i64 a1_16, .int .u64 a1_17, .int .i64 a1_18, .int .i64 a1_19, .int .i64 a1_20, .int .i64 a1_21, .int .i64 a1_22])]) (I := fun x => Below w.heap.size w x) (ps := [IsB #[.int .i64 a1_0, .int .i64 a1_1, .int .i64 a1_2, .int .i64 a1_3, .int .u64 a1_4, .int .i64 a1_5, .int .i64 a1_6, .int .i64 a1_7, .int .i64 a1_8, .int .u64 a1_9, .int .i64 a1_10, .int .i64 a1_11, .int .i64 a1_12, .int .i64 a1_13, .int .i64 a1_14, .int .i64 a1_15, .int .i64 a1_16, .int .u64 a1_17, .int .i64 a1_18, .int .i64 a1_19, .int .i64 a1_20, .int .i64 a1_21, .int .i64 a1_22] 34 w.heap.size, IsV (.int .i64 0), IsV (.bool false)]) (by kernel_rfl) ?_ ?_ rfl hS HB0 ?_ ?_
        · exact fun x y hI hb => below_step hI hb
        · exact AllStay.cons (Stays.b _ _ _) (AllStay.cons (Stays.v _) (AllStay.cons (Stays.v _) (AllStay.nil)))
        · refine Steps.cons (fun a w hS hI hp => ok_on rfl (does_var (x_box rfl (congrArg Value.cells (hS.get 1 rfl))) (hI).size)) ?_
          refine Steps.cons (fun a w hS hI hp => ok_on rfl (does_val (x_assign rfl (rfl)) rfl)) ?_
          refine Steps.cons (fun a w hS hI hp => ok_on rfl (does_val (x_assign rfl (rfl)) rfl)) ?_
          exact Steps.nil
        clear hS
        intro at2 w3 hS hI hp
        have hBw3_w := hI
        replace hS := (hS.nil).cons (hS.get 0 rfl)
        obtain ⟨g4, hv3, hgeg4, hbxg4⟩ := (show IsB _ 34 _ (sl _ 3) _ from hp 0 (by decide))
        have hne5 : g4 ≠ g0 := Nat.ne_of_gt (Nat.lt_of_lt_of_le (blk_lt ((HB0.block g0 (blk_lt HP0)).trans HP0)) hgeg4)
        have hv4 : sl _ 4 = .int .i64 0 := hp 1 (by decide)
        have hv5 : sl _ 5 = .bool false := hp 2 (by decide)
        have hBw3_w3 := Below.refl w3.heap.size w3
        have hS := hS.cons hv3
        have hS := hS.cons hv4
        have hS := hS.cons hv5
        clear hp hI hv3 hv4 hv5
        refine hK1 _ _ ?_
        clear hK1 K1
        refine wp_seq_k (fun K6 hK6 => ?_)
        refine wp_seq_k (fun K7 hK7 => ?_)
        refine reg_any (N := 52) (bs := [(5, .bool false), (4, .int .i64 0), (3, .pointer (some ⟨g4, 0, none⟩)), (0, .pointer (some ⟨g0, 0, none⟩))]) (I := fun x => Below w.heap.size w x ∧ Below w3.heap.size w3 x) (ps := [IsV (.pointer (some ⟨g4, 0, none⟩)), IsV (.int .i64 a1_0), IsV (.bool (!decide (a1_0 = 9))), IsV (.bool (!decide (a1_0 = 9))), IsV (.pointer (some ⟨g4, 9, none⟩)), IsV (.agg #[.int .u64 a1_9, .int .i64 a1_10]), IsV (.pointer (some ⟨g0, 0, none⟩)), IsV (.pointer (some ⟨g0, 0, none⟩)), IsV (.pointer (some ⟨g0, 0, none⟩)), IsV (.agg #[.int .u64 a0_0, .int .i64 a0_1]), IsV (.bool (!((a1_9 == a0_0) && (a1_10 == a0_1)))), IsV (.bool (!((a1_9 == a0_0) && (a1_10 == a0_1)))), IsV (.bool (!((a1_9 == a0_0) && (a1_10 == a0_1)))), IsV (.pointer (some ⟨g0, 0, none⟩)), IsV (.pointer (some ⟨g0, 0, none⟩)), IsV (.pointer (some ⟨g0, 3, none⟩)), IsV (.pointer (some ⟨g0, 6, none⟩)), IsV (.bool a0_6), IsV (.bool (!a0_6)), IsV (.bool (!a0_6)), IsV (.bool (!a0_6)), IsV undef, IsV undef, IsV undef, IsV undef, IsV undef, IsV undef, IsV undef, IsV undef, IsV (.bool true)]) (by kernel_rfl) (by kernel_rfl) ?_ ?_ rfl hS ⟨hBw3_w, hBw3_w3⟩ ?_ ?_
        · exact fun x y hI hb => ⟨below_step hI.1 hb, below_step hI.2 hb⟩
        · exact AllStay.cons (Stays.v _) (AllStay.cons (Stays.v _) (AllStay.cons (Stays.v _) (AllStay.cons (Stays.v _) (AllStay.cons (Stays.v _) (AllStay.cons (Stays.v _) (AllStay.cons (Stays.v _) (AllStay.cons (Stays.v _) (AllStay.cons (Stays.v _) (AllStay.cons (Stays.v _) (AllStay.cons (Stays.v _) (AllStay.cons (Stays.v _) (AllStay.cons (Stays.v _) (AllStay.cons (Stays.v _) (AllStay.cons (Stays.v _) (AllStay.cons (Stays.v _) (AllStay.cons (Stays.v _) (AllStay.cons (Stays.v _) (AllStay.cons (Stays.v _) (AllStay.cons (Stays.v _) (AllStay.cons (Stays.v _) (AllStay.cons (Stays.v _) (AllStay.cons (Stays.v _) (AllStay.cons (Stays.v _) (AllStay.cons (Stays.v _) (AllStay.cons (Stays.v _) (AllStay.cons (Stays.v _) (AllStay.cons (Stays.v _) (AllStay.cons (Stays.v _) (AllStay.cons (Stays.v _) (AllStay.nil))))))))))))))))))))))))))))))
        · refine Steps.cons (fun a w hS hI hp => ok_on rfl (does_val (x_field rfl (hS.get 2 rfl) Try.underlying34 rfl (by kernel_rfl)) rfl)) ?_
          refine Steps.cons (fun a w hS hI hp => ok_on rfl (does_val (x_load1 (d := .int .i64) rfl ((hp.get 0 (by rfl) rfl rfl)) (by kernel_rfl) rfl ((blk_cell (((hI.2).block g4 (blk_lt hbxg4)).trans hbxg4) 0).trans rfl)) rfl)) ?_
          refine Steps.cons (fun a w hS hI hp => ok_on rfl (does_val (x_bin rfl ((hp.get 1 (by rfl) rfl rfl)) (rfl) (b_neq _ _ _ _ _ _)) rfl)) ?_
          refine Steps.cons (fun a w hS hI hp => ok_on rfl (does_val (x_move rfl ((hp.get 2 (by rfl) rfl rfl))) rfl)) ?_
          refine Steps.cons (fun a w hS hI hp => ok_if (d := 10) rfl rfl (by rw [hS.size]; decide) (((hp.get 3 (by rfl) rfl rfl)).trans (bF (congrArg (!·) (decide_eq_true c1)))) (does_val (x_field rfl (hS.get 2 rfl) Try.underlying34 rfl (by kernel_rfl)) rfl)) ?_
          refine Steps.cons (fun a w hS hI hp => ok_if (d := 10) rfl rfl (by rw [hS.size]; decide) (((hp.get 3 (by rfl) rfl rfl)).trans (bF (congrArg (!·) (decide_eq_true c1)))) (does_loadmid (cs := [.int .u64 a1_9, .int .i64 a1_10]) rfl ((hp.get 4 (by rfl) rfl rfl)) (((hI.2).block g4 (blk_lt hbxg4)).trans hbxg4) rfl Try.underlying24 rfl (by kernel_rfl) rfl)) ?_
          refine Steps.cons (fun a w hS hI hp => ok_if (d := 10) rfl rfl (by rw [hS.size]; decide) (((hp.get 3 (by rfl) rfl rfl)).trans (bF (congrArg (!·) (decide_eq_true c1)))) (does_val (x_move rfl (hS.get 3 rfl)) rfl)) ?_
          refine Steps.cons (fun a w hS hI hp => ok_if (d := 10) rfl rfl (by rw [hS.size]; decide) (((hp.get 3 (by rfl) rfl rfl)).trans (bF (congrArg (!·) (decide_eq_true c1)))) (does_val (x_nilck rfl ((hp.get 6 (by rfl) rfl rfl))) rfl)) ?_
          refine Steps.cons (fun a w hS hI hp => ok_if (d := 10) rfl rfl (by rw [hS.size]; decide) (((hp.get 3 (by rfl) rfl rfl)).trans (bF (congrArg (!·) (decide_eq_true c1)))) (does_val (x_field rfl ((hp.get 7 (by rfl) rfl rfl)) Try.underlying54 rfl (by kernel_rfl)) rfl)) ?_
          refine Steps.cons (fun a w hS hI hp => ok_if (d := 10) rfl rfl (by rw [hS.size]; decide) (((hp.get 3 (by rfl) rfl rfl)).trans (bF (congrArg (!·) (decide_eq_true c1)))) (does_loadmid (cs := [.int .u64 a0_0, .int .i64 a0_1]) rfl ((hp.get 8 (by rfl) rfl rfl)) (((hI.1).block g0 (blk_lt HP0)).trans HP0) rfl Try.underlying24 rfl (by kernel_rfl) rfl)) ?_
          refine Steps.cons (fun a w hS hI hp => ok_if (d := 10) rfl rfl (by rw [hS.size]; decide) (((hp.get 3 (by rfl) rfl rfl)).trans (bF (congrArg (!·) (decide_eq_true c1)))) (does_val (x_bin rfl ((hp.get 5 (by rfl) rfl rfl)) ((hp.get 9 (by rfl) rfl rfl)) (delay_Exchange_Response.neq24 _ _ _ a1_9 a1_10 a0_0 a0_1)) rfl)) ?_
          refine Steps.cons (fun a w hS hI hp => ok_on rfl (does_val (x_pickF rfl (((hp.get 3 (by rfl) rfl rfl)).trans (bF (congrArg (!·) (decide_eq_true c1)))) ((hp.get 10 (by rfl) rfl rfl))) rfl)) ?_
          refine Steps.cons (fun a w hS hI hp => ok_on rfl (does_val (x_move rfl ((hp.get 11 (by rfl) rfl rfl))) rfl)) ?_
          refine Steps.cons (fun a w hS hI hp => ok_if (d := 19) rfl rfl (by rw [hS.size]; decide) (((hp.get 12 (by rfl) rfl rfl)).trans (bF (congrArg (!·) c2))) (does_val (x_move rfl (hS.get 3 rfl)) rfl)) ?_
          refine Steps.cons (fun a w hS hI hp => ok_if (d := 19) rfl rfl (by rw [hS.size]; decide) (((hp.get 12 (by rfl) rfl rfl)).trans (bF (congrArg (!·) c2))) (does_val (x_nilck rfl ((hp.get 13 (by rfl) rfl rfl))) rfl)) ?_
          refine Steps.cons (fun a w hS hI hp => ok_if (d := 19) rfl rfl (by rw [hS.size]; decide) (((hp.get 12 (by rfl) rfl rfl)).trans (bF (congrArg (!·) c2))) (does_val (x_field rfl ((hp.get 14 (by rfl) rfl rfl)) Try.underlying54 rfl (by kernel_rfl)) rfl)) ?_
          refine Steps.cons (fun a w hS hI hp => ok_if (d := 19) rfl rfl (by rw [hS.size]; decide) (((hp.get 12 (by rfl) rfl rfl)).trans (bF (congrArg (!·) c2))) (does_val (x_field rfl ((hp.get 15 (by rfl) rfl rfl)) Try.underlying52 rfl (by kernel_rfl)) rfl)) ?_
          refine Steps.cons (fun a w hS hI hp => ok_if (d := 19) rfl rfl (by rw [hS.size]; decide) (((hp.get 12 (by rfl) rfl rfl)).trans (bF (congrArg (!·) c2))) (does_val (x_load1 (d := .bool) rfl ((hp.get 16 (by rfl) rfl rfl)) (by kernel_rfl) rfl ((blk_cell (((hI.1).block g0 (blk_lt HP0)).trans HP0) 6).trans rfl)) rfl)) ?_
          refine Steps.cons (fun a w hS hI hp => ok_if (d := 19) rfl rfl (by rw [hS.size]; decide) (((hp.get 12 (by rfl) rfl rfl)).trans (bF (congrArg (!·) c2))) (does_val (x_not rfl ((hp.get 17 (by rfl) rfl rfl))) rfl)) ?_
          refine Steps.cons (fun a w hS hI hp => ok_on rfl (does_val (x_pickF rfl (((hp.get 12 (by rfl) rfl rfl)).trans (bF (congrArg (!·) c2))) ((hp.get 18 (by rfl) rfl rfl))) rfl)) ?_
          refine Steps.cons (fun a w hS hI hp => ok_on rfl (does_val (x_move rfl ((hp.get 19 (by rfl) rfl rfl))) rfl)) ?_
          refine Steps.cons (fun a w hS hI hp => ok_off (d := 27) rfl rfl (by rw [hS.size]; decide) (((hp.get 20 (by rfl) rfl rfl)).trans (bT (congrArg (!·) (Bool.eq_false_iff.2 c3)))) rfl) ?_
          refine Steps.cons (fun a w hS hI hp => ok_off (d := 27) rfl rfl (by rw [hS.size]; decide) (((hp.get 20 (by rfl) rfl rfl)).trans (bT (congrArg (!·) (Bool.eq_false_iff.2 c3)))) rfl) ?_
          refine Steps.cons (fun a w hS hI hp => ok_off (d := 27) rfl rfl (by rw [hS.size]; decide) (((hp.get 20 (by rfl) rfl rfl)).trans (bT (congrArg (!·) (Bool.eq_false_iff.2 c3)))) rfl) ?_
          refine Steps.cons (fun a w hS hI hp => ok_off (d := 27) rfl rfl (by rw [hS.size]; decide) (((hp.get 20 (by rfl) rfl rfl)).trans (bT (congrArg (!·) (Bool.eq_false_iff.2 c3)))) rfl) ?_
          refine Steps.cons (fun a w hS hI hp => ok_off (d := 27) rfl rfl (by rw [hS.size]; decide) (((hp.get 20 (by rfl) rfl rfl)).trans (bT (congrArg (!·) (Bool.eq_false_iff.2 c3)))) rfl) ?_
          refine Steps.cons (fun a w hS hI hp => ok_off (d := 27) rfl rfl (by rw [hS.size]; decide) (((hp.get 20 (by rfl) rfl rfl)).trans (bT (congrArg (!·) (Bool.eq_false_iff.2 c3)))) rfl) ?_
          refine Steps.cons (fun a w hS hI hp => ok_off (d := 27) rfl rfl (by rw [hS.size]; decide) (((hp.get 20 (by rfl) rfl rfl)).trans (bT (congrArg (!·) (Bool.eq_false_iff.2 c3)))) rfl) ?_
          refine Steps.cons (fun a w hS hI hp => ok_off (d := 27) rfl rfl (by rw [hS.size]; decide) (((hp.get 20 (by rfl) rfl rfl)).trans (bT (congrArg (!·) (Bool.eq_false_iff.2 c3)))) rfl) ?_
          refine Steps.cons (fun a w hS hI hp => ok_on rfl (does_val (x_pickT rfl (((hp.get 20 (by rfl) rfl rfl)).trans (bT (congrArg (!·) (Bool.eq_false_iff.2 c3)))) (rfl)) rfl)) ?_
          exact Steps.nil
        clear hS
        intro at8 w9 hS hI hp
        have hBw9_w := hI.1
        have hBw9_w3 := hI.2
        have hv36 : sl _ 36 = .bool true := hp 29 (by decide)
        have hBw9_w9 := Below.refl w9.heap.size w9
        have hS := hS.cons hv36
        clear hp hI hv36
        refine hK7 _ _ ?_
        clear hK7 K7
        refine wp_cond_true ((hS.get 0 rfl).trans (bT rfl)) ?_
        refine wp_seq_k (fun K10 hK10 => ?_)
        replace hS := (((hS.nil).cons (hS.get 4 rfl)).cons (hS.get 3 rfl)).cons (hS.get 0 rfl)
        refine reg_seq (N := 52) (bs := [(36, .bool true), (3, .pointer (some ⟨g4, 0, none⟩)), (0, .pointer (some ⟨g0, 0, none⟩))]) (I := fun x => Below w.heap.size w x ∧ Below w3.heap.size w3 x ∧ Below w9.heap.size w9 x) (ps := [IsV (.int .i64 0), IsV (.bool false)]) (by kernel_rfl) ?_ ?_ rfl hS ⟨hBw9_w, hBw9_w3, hBw9_w9⟩ ?_ ?_
        · exact fun x y hI hb => ⟨below_step hI.1 hb, below_step hI.2.1 hb, below_step hI.2.2 hb⟩
        · exact AllStay.cons (Stays.v _) (AllStay.cons (Stays.v _) (AllStay.nil))
        · refine Steps.cons (fun a w hS hI hp => ok_on rfl (does_val (x_assign rfl (rfl)) rfl)) ?_
          refine Steps.cons (fun a w hS hI hp => ok_on rfl (does_val (x_assign rfl (rfl)) rfl)) ?_
          exact Steps.nil
        clear hS
        intro at11 w12 hS hI hp
        have hBw12_w := hI.1
        have hBw12_w3 := hI.2.1
        have hBw12_w9 := hI.2.2
        have hv4 : sl _ 4 = .int .i64 0 := hp 0 (by decide)
        have hv5 : sl _ 5 = .bool false := hp 1 (by decide)
        have hBw12_w12 := Below.refl w12.heap.size w12
        have hS := hS.cons hv4
        have hS := hS.cons hv5
        clear hp hI hv4 hv5
        refine hK10 _ _ ?_
        clear hK10 K10
        refine wp_ret ?_
        (try simp only [Exit.then, Exit.inBlock])
        exact bodyPost_ret (v := .tuple #[.int .i64 0, .bool false]) (results_list (rs := [.tmp 4, .tmp 5]) rfl (by simp) (Vals.at (hS.get 1 rfl) (Vals.at (hS.get 0 rfl) .nil))) hS.nodef ⟨rfl, ((hBw12_w.block g0 (blk_lt HP0)).trans HP0), (Tch.more (Tch.refl _ _) hBw12_w)⟩
    · rw [if_neg c2] at H
      simp only [Option.some.injEq, Prod.mk.injEq] at H
      obtain ⟨rfl, rfl, rfl, rfl, rfl, rfl, rfl, rfl, rfl⟩ := H
      refine calls_of_wp (fn := Try.f18) (by kernel_rfl) rfl ?_
      have hS := St.enter #[.pointer (some ⟨g0, 0, none⟩), .agg #[.int .i64 a1_0, .int .i64 a1_1, .int .i64 a1_2, .int .i64 a1_3, .int .u64 a1_4, .int .i64 a1_5, .int .i64 a1_6, .int .i64 a1_7, .int .i64 a1_8, .int .u64 a1_9, .int .i64 a1_10, .int .i64 a1_11, .int .i64 a1_12, .int .i64 a1_13, .int .i64 a1_14, .int .i64 a1_15, .int .i64 a1_16, .int .u64 a1_17, .int .i64 a1_18, .int .i64 a1_19, .int .i64 a1_20, .int .i64 a1_21, .int .i64 a1_22]] 52 (by simp) [(0, .pointer (some ⟨g0, 0, none⟩)), (1, .agg #[.int .i64 a1_0, .int .i64 a1_1, .int .i64 a1_2, .int .i64 a1_3, .int .u64 a1_4, .int .i64 a1_5, .int .i64 a1_6, .int .i64 a1_7, .int .i64 a1_8, .int .u64 a1_9, .int .i64 a1_10, .int .i64 a1_11, .int .i64 a1_12, .int .i64 a1_13, .int .i64 a1_14, .int .i64 a1_15, .int .i64 a1_16, .int .u64 a1_17, .int .i64 a1_18, .int .i64 a1_19, .int .i64 a1_20, .int .i64 a1_21, .int .i64 a1_22])] (by simp)
      have HB0 := Below.refl w.heap.size w
      refine wp_seq_k (fun K1 hK1 => ?_)
      refine reg_seq (N := 52) (bs := [(0, .pointer (some ⟨g0, 0, none⟩)), (1, .agg #[.int .i64 a1_0, .int .i64 a1_1, .int .i64 a1_2, .int .i64 a1_3, .int .u64 a1_4, .int .i64 a1_5, .int .i64 a1_6, .int .i64 a1_7, .int .i64 a1_8, .int .u64 a1_9, .int .i64 a1_10, .int .i64 a1_11, .int .i64 a1_12, .int .i64 a1_13, .int .i64 a1_14, .int .i64 a1_15, .int .i64 a1_16, .int .u64 a1_17, .int .i64 a1_18, .int .i64 a1_19, .int .i64 a1_20, .int .i64 a1_21, .int .i64 a1_22])]) (I := fun x => Below w.heap.size w x) (ps := [IsB #[.int .i64 a1_0, .int .i64 a1_1, .int .i64 a1_2, .int .i64 a1_3, .int .u64 a1_4, .int .i64 a1_5, .int .i64 a1_6, .int .i64 a1_7, .int .i64 a1_8, .int .u64 a1_9, .int .i64 a1_10, .int .i64 a1_11, .int .i64 a1_12, .int .i64 a1_13, .int .i64 a1_14, .int .i64 a1_15, .int .i64 a1_16, .int .u64 a1_17, .int .i64 a1_18, .int .i64 a1_19, .int .i64 a1_20, .int .i64 a1_21, .int .i64 a1_22] 34 w.heap.size, IsV (.int .i64 0), IsV (.bool false)]) (by kernel_rfl) ?_ ?_ rfl hS HB0 ?_ ?_
      · exact fun x y hI hb => below_step hI hb
      · exact AllStay.cons (Stays.b _ _ _) (AllStay.cons (Stays.v _) (AllStay.cons (Stays.v _) (AllStay.nil)))
      · refine Steps.cons (fun a w hS hI hp => ok_on rfl (does_var (x_box rfl (congrArg Value.cells (hS.get 1 rfl))) (hI).size)) ?_
        refine Steps.cons (fun a w hS hI hp => ok_on rfl (does_val (x_assign rfl (rfl)) rfl)) ?_
        refine Steps.cons (fun a w hS hI hp => ok_on rfl (does_val (x_assign rfl (rfl)) rfl)) ?_
        exact Steps.nil
      clear hS
      intro at2 w3 hS hI hp
      have hBw3_w := hI
      replace hS := (hS.nil).cons (hS.get 0 rfl)
      obtain ⟨g4, hv3, hgeg4, hbxg4⟩ := (show IsB _ 34 _ (sl _ 3) _ from hp 0 (by decide))
      have hne5 : g4 ≠ g0 := Nat.ne_of_gt (Nat.lt_of_lt_of_le (blk_lt ((HB0.block g0 (blk_lt HP0)).trans HP0)) hgeg4)
      have hv4 : sl _ 4 = .int .i64 0 := hp 1 (by decide)
      have hv5 : sl _ 5 = .bool false := hp 2 (by decide)
      have hBw3_w3 := Below.refl w3.heap.size w3
      have hS := hS.cons hv3
      have hS := hS.cons hv4
      have hS := hS.cons hv5
      clear hp hI hv3 hv4 hv5
      refine hK1 _ _ ?_
      clear hK1 K1
      refine wp_seq_k (fun K6 hK6 => ?_)
      refine wp_seq_k (fun K7 hK7 => ?_)
      refine reg_any (N := 52) (bs := [(5, .bool false), (4, .int .i64 0), (3, .pointer (some ⟨g4, 0, none⟩)), (0, .pointer (some ⟨g0, 0, none⟩))]) (I := fun x => Below w.heap.size w x ∧ Below w3.heap.size w3 x) (ps := [IsV (.pointer (some ⟨g4, 0, none⟩)), IsV (.int .i64 a1_0), IsV (.bool (!decide (a1_0 = 9))), IsV (.bool (!decide (a1_0 = 9))), IsV (.pointer (some ⟨g4, 9, none⟩)), IsV (.agg #[.int .u64 a1_9, .int .i64 a1_10]), IsV (.pointer (some ⟨g0, 0, none⟩)), IsV (.pointer (some ⟨g0, 0, none⟩)), IsV (.pointer (some ⟨g0, 0, none⟩)), IsV (.agg #[.int .u64 a0_0, .int .i64 a0_1]), IsV (.bool (!((a1_9 == a0_0) && (a1_10 == a0_1)))), IsV (.bool (!((a1_9 == a0_0) && (a1_10 == a0_1)))), IsV (.bool (!((a1_9 == a0_0) && (a1_10 == a0_1)))), IsV undef, IsV undef, IsV undef, IsV undef, IsV undef, IsV undef, IsV (.bool true), IsV (.bool true), IsV undef, IsV undef, IsV undef, IsV undef, IsV undef, IsV undef, IsV undef, IsV undef, IsV (.bool true)]) (by kernel_rfl) (by kernel_rfl) ?_ ?_ rfl hS ⟨hBw3_w, hBw3_w3⟩ ?_ ?_
      · exact fun x y hI hb => ⟨below_step hI.1 hb, below_step hI.2 hb⟩
      · exact AllStay.cons (Stays.v _) (AllStay.cons (Stays.v _) (AllStay.cons (Stays.v _) (AllStay.cons (Stays.v _) (AllStay.cons (Stays.v _) (AllStay.cons (Stays.v _) (AllStay.cons (Stays.v _) (AllStay.cons (Stays.v _) (AllStay.cons (Stays.v _) (AllStay.cons (Stays.v _) (AllStay.cons (Stays.v _) (AllStay.cons (Stays.v _) (AllStay.cons (Stays.v _) (AllStay.cons (Stays.v _) (AllStay.cons (Stays.v _) (AllStay.cons (Stays.v _) (AllStay.cons (Stays.v _) (AllStay.cons (Stays.v _) (AllStay.cons (Stays.v _) (AllStay.cons (Stays.v _) (AllStay.cons (Stays.v _) (AllStay.cons (Stays.v _) (AllStay.cons (Stays.v _) (AllStay.cons (Stays.v _) (AllStay.cons (Stays.v _) (AllStay.cons (Stays.v _) (AllStay.cons (Stays.v _) (AllStay.cons (Stays.v _) (AllStay.cons (Stays.v _) (AllStay.cons (Stays.v _) (AllStay.nil))))))))))))))))))))))))))))))
      · refine Steps.cons (fun a w hS hI hp => ok_on rfl (does_val (x_field rfl (hS.get 2 rfl) Try.underlying34 rfl (by kernel_rfl)) rfl)) ?_
        refine Steps.cons (fun a w hS hI hp => ok_on rfl (does_val (x_load1 (d := .int .i64) rfl ((hp.get 0 (by rfl) rfl rfl)) (by kernel_rfl) rfl ((blk_cell (((hI.2).block g4 (blk_lt hbxg4)).trans hbxg4) 0).trans rfl)) rfl)) ?_
        refine Steps.cons (fun a w hS hI hp => ok_on rfl (does_val (x_bin rfl ((hp.get 1 (by rfl) rfl rfl)) (rfl) (b_neq _ _ _ _ _ _)) rfl)) ?_
        refine Steps.cons (fun a w hS hI hp => ok_on rfl (does_val (x_move rfl ((hp.get 2 (by rfl) rfl rfl))) rfl)) ?_
        refine Steps.cons (fun a w hS hI hp => ok_if (d := 10) rfl rfl (by rw [hS.size]; decide) (((hp.get 3 (by rfl) rfl rfl)).trans (bF (congrArg (!·) (decide_eq_true c1)))) (does_val (x_field rfl (hS.get 2 rfl) Try.underlying34 rfl (by kernel_rfl)) rfl)) ?_
        refine Steps.cons (fun a w hS hI hp => ok_if (d := 10) rfl rfl (by rw [hS.size]; decide) (((hp.get 3 (by rfl) rfl rfl)).trans (bF (congrArg (!·) (decide_eq_true c1)))) (does_loadmid (cs := [.int .u64 a1_9, .int .i64 a1_10]) rfl ((hp.get 4 (by rfl) rfl rfl)) (((hI.2).block g4 (blk_lt hbxg4)).trans hbxg4) rfl Try.underlying24 rfl (by kernel_rfl) rfl)) ?_
        refine Steps.cons (fun a w hS hI hp => ok_if (d := 10) rfl rfl (by rw [hS.size]; decide) (((hp.get 3 (by rfl) rfl rfl)).trans (bF (congrArg (!·) (decide_eq_true c1)))) (does_val (x_move rfl (hS.get 3 rfl)) rfl)) ?_
        refine Steps.cons (fun a w hS hI hp => ok_if (d := 10) rfl rfl (by rw [hS.size]; decide) (((hp.get 3 (by rfl) rfl rfl)).trans (bF (congrArg (!·) (decide_eq_true c1)))) (does_val (x_nilck rfl ((hp.get 6 (by rfl) rfl rfl))) rfl)) ?_
        refine Steps.cons (fun a w hS hI hp => ok_if (d := 10) rfl rfl (by rw [hS.size]; decide) (((hp.get 3 (by rfl) rfl rfl)).trans (bF (congrArg (!·) (decide_eq_true c1)))) (does_val (x_field rfl ((hp.get 7 (by rfl) rfl rfl)) Try.underlying54 rfl (by kernel_rfl)) rfl)) ?_
        refine Steps.cons (fun a w hS hI hp => ok_if (d := 10) rfl rfl (by rw [hS.size]; decide) (((hp.get 3 (by rfl) rfl rfl)).trans (bF (congrArg (!·) (decide_eq_true c1)))) (does_loadmid (cs := [.int .u64 a0_0, .int .i64 a0_1]) rfl ((hp.get 8 (by rfl) rfl rfl)) (((hI.1).block g0 (blk_lt HP0)).trans HP0) rfl Try.underlying24 rfl (by kernel_rfl) rfl)) ?_
        refine Steps.cons (fun a w hS hI hp => ok_if (d := 10) rfl rfl (by rw [hS.size]; decide) (((hp.get 3 (by rfl) rfl rfl)).trans (bF (congrArg (!·) (decide_eq_true c1)))) (does_val (x_bin rfl ((hp.get 5 (by rfl) rfl rfl)) ((hp.get 9 (by rfl) rfl rfl)) (delay_Exchange_Response.neq24 _ _ _ a1_9 a1_10 a0_0 a0_1)) rfl)) ?_
        refine Steps.cons (fun a w hS hI hp => ok_on rfl (does_val (x_pickF rfl (((hp.get 3 (by rfl) rfl rfl)).trans (bF (congrArg (!·) (decide_eq_true c1)))) ((hp.get 10 (by rfl) rfl rfl))) rfl)) ?_
        refine Steps.cons (fun a w hS hI hp => ok_on rfl (does_val (x_move rfl ((hp.get 11 (by rfl) rfl rfl))) rfl)) ?_
        refine Steps.cons (fun a w hS hI hp => ok_off (d := 19) rfl rfl (by rw [hS.size]; decide) (((hp.get 12 (by rfl) rfl rfl)).trans (bT (congrArg (!·) (Bool.eq_false_iff.2 c2)))) rfl) ?_
        refine Steps.cons (fun a w hS hI hp => ok_off (d := 19) rfl rfl (by rw [hS.size]; decide) (((hp.get 12 (by rfl) rfl rfl)).trans (bT (congrArg (!·) (Bool.eq_false_iff.2 c2)))) rfl) ?_
        refine Steps.cons (fun a w hS hI hp => ok_off (d := 19) rfl rfl (by rw [hS.size]; decide) (((hp.get 12 (by rfl) rfl rfl)).trans (bT (congrArg (!·) (Bool.eq_false_iff.2 c2)))) rfl) ?_
        refine Steps.cons (fun a w hS hI hp => ok_off (d := 19) rfl rfl (by rw [hS.size]; decide) (((hp.get 12 (by rfl) rfl rfl)).trans (bT (congrArg (!·) (Bool.eq_false_iff.2 c2)))) rfl) ?_
        refine Steps.cons (fun a w hS hI hp => ok_off (d := 19) rfl rfl (by rw [hS.size]; decide) (((hp.get 12 (by rfl) rfl rfl)).trans (bT (congrArg (!·) (Bool.eq_false_iff.2 c2)))) rfl) ?_
        refine Steps.cons (fun a w hS hI hp => ok_off (d := 19) rfl rfl (by rw [hS.size]; decide) (((hp.get 12 (by rfl) rfl rfl)).trans (bT (congrArg (!·) (Bool.eq_false_iff.2 c2)))) rfl) ?_
        refine Steps.cons (fun a w hS hI hp => ok_on rfl (does_val (x_pickT rfl (((hp.get 12 (by rfl) rfl rfl)).trans (bT (congrArg (!·) (Bool.eq_false_iff.2 c2)))) (rfl)) rfl)) ?_
        refine Steps.cons (fun a w hS hI hp => ok_on rfl (does_val (x_move rfl ((hp.get 19 (by rfl) rfl rfl))) rfl)) ?_
        refine Steps.cons (fun a w hS hI hp => ok_off (d := 27) rfl rfl (by rw [hS.size]; decide) (((hp.get 20 (by rfl) rfl rfl)).trans (bT rfl)) rfl) ?_
        refine Steps.cons (fun a w hS hI hp => ok_off (d := 27) rfl rfl (by rw [hS.size]; decide) (((hp.get 20 (by rfl) rfl rfl)).trans (bT rfl)) rfl) ?_
        refine Steps.cons (fun a w hS hI hp => ok_off (d := 27) rfl rfl (by rw [hS.size]; decide) (((hp.get 20 (by rfl) rfl rfl)).trans (bT rfl)) rfl) ?_
        refine Steps.cons (fun a w hS hI hp => ok_off (d := 27) rfl rfl (by rw [hS.size]; decide) (((hp.get 20 (by rfl) rfl rfl)).trans (bT rfl)) rfl) ?_
        refine Steps.cons (fun a w hS hI hp => ok_off (d := 27) rfl rfl (by rw [hS.size]; decide) (((hp.get 20 (by rfl) rfl rfl)).trans (bT rfl)) rfl) ?_
        refine Steps.cons (fun a w hS hI hp => ok_off (d := 27) rfl rfl (by rw [hS.size]; decide) (((hp.get 20 (by rfl) rfl rfl)).trans (bT rfl)) rfl) ?_
        refine Steps.cons (fun a w hS hI hp => ok_off (d := 27) rfl rfl (by rw [hS.size]; decide) (((hp.get 20 (by rfl) rfl rfl)).trans (bT rfl)) rfl) ?_
        refine Steps.cons (fun a w hS hI hp => ok_off (d := 27) rfl rfl (by rw [hS.size]; decide) (((hp.get 20 (by rfl) rfl rfl)).trans (bT rfl)) rfl) ?_
        refine Steps.cons (fun a w hS hI hp => ok_on rfl (does_val (x_pickT rfl (((hp.get 20 (by rfl) rfl rfl)).trans (bT rfl)) (rfl)) rfl)) ?_
        exact Steps.nil
      clear hS
      intro at8 w9 hS hI hp
      have hBw9_w := hI.1
      have hBw9_w3 := hI.2
      have hv36 : sl _ 36 = .bool true := hp 29 (by decide)
      have hBw9_w9 := Below.refl w9.heap.size w9
      have hS := hS.cons hv36
      clear hp hI hv36
      refine hK7 _ _ ?_
      clear hK7 K7
      refine wp_cond_true ((hS.get 0 rfl).trans (bT rfl)) ?_
      refine wp_seq_k (fun K10 hK10 => ?_)
      replace hS := (((hS.nil).cons (hS.get 4 rfl)).cons (hS.get 3 rfl)).cons (hS.get 0 rfl)
      refine reg_seq (N := 52) (bs := [(36, .bool true), (3, .pointer (some ⟨g4, 0, none⟩)), (0, .pointer (some ⟨g0, 0, none⟩))]) (I := fun x => Below w.heap.size w x ∧ Below w3.heap.size w3 x ∧ Below w9.heap.size w9 x) (ps := [IsV (.int .i64 0), IsV (.bool false)]) (by kernel_rfl) ?_ ?_ rfl hS ⟨hBw9_w, hBw9_w3, hBw9_w9⟩ ?_ ?_
      · exact fun x y hI hb => ⟨below_step hI.1 hb, below_step hI.2.1 hb, below_step hI.2.2 hb⟩
      · exact AllStay.cons (Stays.v _) (AllStay.cons (Stays.v _) (AllStay.nil))
      · refine Steps.cons (fun a w hS hI hp => ok_on rfl (does_val (x_assign rfl (rfl)) rfl)) ?_
        refine Steps.cons (fun a w hS hI hp => ok_on rfl (does_val (x_assign rfl (rfl)) rfl)) ?_
        exact Steps.nil
      clear hS
      intro at11 w12 hS hI hp
      have hBw12_w := hI.1
      have hBw12_w3 := hI.2.1
      have hBw12_w9 := hI.2.2
      have hv4 : sl _ 4 = .int .i64 0 := hp 0 (by decide)
      have hv5 : sl _ 5 = .bool false := hp 1 (by decide)
      have hBw12_w12 := Below.refl w12.heap.size w12
      have hS := hS.cons hv4
      have hS := hS.cons hv5
      clear hp hI hv4 hv5
      refine hK10 _ _ ?_
      clear hK10 K10
      refine wp_ret ?_
      (try simp only [Exit.then, Exit.inBlock])
      exact bodyPost_ret (v := .tuple #[.int .i64 0, .bool false]) (results_list (rs := [.tmp 4, .tmp 5]) rfl (by simp) (Vals.at (hS.get 1 rfl) (Vals.at (hS.get 0 rfl) .nil))) hS.nodef ⟨rfl, ((hBw12_w.block g0 (blk_lt HP0)).trans HP0), (Tch.more (Tch.refl _ _) hBw12_w)⟩
  · rw [if_neg c1] at H
    simp only [Option.some.injEq, Prod.mk.injEq] at H
    obtain ⟨rfl, rfl, rfl, rfl, rfl, rfl, rfl, rfl, rfl⟩ := H
    refine calls_of_wp (fn := Try.f18) (by kernel_rfl) rfl ?_
    have hS := St.enter #[.pointer (some ⟨g0, 0, none⟩), .agg #[.int .i64 a1_0, .int .i64 a1_1, .int .i64 a1_2, .int .i64 a1_3, .int .u64 a1_4, .int .i64 a1_5, .int .i64 a1_6, .int .i64 a1_7, .int .i64 a1_8, .int .u64 a1_9, .int .i64 a1_10, .int .i64 a1_11, .int .i64 a1_12, .int .i64 a1_13, .int .i64 a1_14, .int .i64 a1_15, .int .i64 a1_16, .int .u64 a1_17, .int .i64 a1_18, .int .i64 a1_19, .int .i64 a1_20, .int .i64 a1_21, .int .i64 a1_22]] 52 (by simp) [(0, .pointer (some ⟨g0, 0, none⟩)), (1, .agg #[.int .i64 a1_0, .int .i64 a1_1, .int .i64 a1_2, .int .i64 a1_3, .int .u64 a1_4, .int .i64 a1_5, .int .i64 a1_6, .int .i64 a1_7, .int .i64 a1_8, .int .u64 a1_9, .int .i64 a1_10, .int .i64 a1_11, .int .i64 a1_12, .int .i64 a1_13, .int .i64 a1_14, .int .i64 a1_15, .int .i64 a1_16, .int .u64 a1_17, .int .i64 a1_18, .int .i64 a1_19, .int .i64 a1_20, .int .i64 a1_21, .int .i64 a1_22])] (by simp)
    have HB0 := Below.refl w.heap.size w
    refine wp_seq_k (fun K1 hK1 => ?_)
    refine reg_seq (N := 52) (bs := [(0, .pointer (some ⟨g0, 0, none⟩)), (1, .agg #[.int .i64 a1_0, .int .i64 a1_1, .int .i64 a1_2, .int .i64 a1_3, .int .u64 a1_4, .int .i64 a1_5, .int .i64 a1_6, .int .i64 a1_7, .int .i64 a1_8, .int .u64 a1_9, .int .i64 a1_10, .int .i64 a1_11, .int .i64 a1_12, .int .i64 a1_13, .int .i64 a1_14, .int .i64 a1_15, .int .i64 a1_16, .int .u64 a1_17, .int .i64 a1_18, .int .i64 a1_19, .int .i64 a1_20, .int .i64 a1_21, .int .i64 a1_22])]) (I := fun x => Below w.heap.size w x) (ps := [IsB #[.int .i64 a1_0, .int .i64 a1_1, .int .i64 a1_2, .int .i64 a1_3, .int .u64 a1_4, .int .i64 a1_5, .int .i64 a1_6, .int .i64 a1_7, .int .i64 a1_8, .int .u64 a1_9, .int .i64 a1_10, .int .i64 a1_11, .int .i64 a1_12, .int .i64 a1_13, .int .i64 a1_14, .int .i64 a1_15, .int .i64 a1_16, .int .u64 a1_17, .int .i64 a1_18, .int .i64 a1_19, .int .i64 a1_20, .int .i64 a1_21, .int .i64 a1_22] 34 w.heap.size, IsV (.int .i64 0), IsV (.bool false)]) (by kernel_rfl) ?_ ?_ rfl hS HB0 ?_ ?_
    · exact fun x y hI hb => below_step hI hb
    · exact AllStay.cons (Stays.b _ _ _) (AllStay.cons (Stays.v _) (AllStay.cons (Stays.v _) (AllStay.nil)))
    · refine Steps.cons (fun a w hS hI hp => ok_on rfl (does_var (x_box rfl (congrArg Value.cells (hS.get 1 rfl))) (hI).size)) ?_
      refine Steps.cons (fun a w hS hI hp => ok_on rfl (does_val (x_assign rfl (rfl)) rfl)) ?_
      refine Steps.cons (fun a w hS hI hp => ok_on rfl (does_val (x_assign rfl (rfl)) rfl)) ?_
      exact Steps.nil
    clear hS
    intro at2 w3 hS hI hp
    have hBw3_w := hI
    replace hS := (hS.nil).cons (hS.get 0 rfl)
    obtain ⟨g4, hv3, hgeg4, hbxg4⟩ := (show IsB _ 34 _ (sl _ 3) _ from hp 0 (by decide))
    have hne5 : g4 ≠ g0 := Nat.ne_of_gt (Nat.lt_of_lt_of_le (blk_lt ((HB0.block g0 (blk_lt HP0)).trans HP0)) hgeg4)
    have hv4 : sl _ 4 = .int .i64 0 := hp 1 (by decide)
    have hv5 : sl _ 5 = .bool false := hp 2 (by decide)
    have hBw3_w3 := Below.refl w3.heap.size w3
    have hS := hS.cons hv3
    have hS := hS.cons hv4
    have hS := hS.cons hv5
    clear hp hI hv3 hv4 hv5
    refine hK1 _ _ ?_
    clear hK1 K1
    refine wp_seq_k (fun K6 hK6 => ?_)
    refine wp_seq_k (fun K7 hK7 => ?_)
    refine reg_any (N := 52) (bs := [(5, .bool false), (4, .int .i64 0), (3, .pointer (some ⟨g4, 0, none⟩)), (0, .pointer (some ⟨g0, 0, none⟩))]) (I := fun x => Below w.heap.size w x ∧ Below w3.heap.size w3 x) (ps := [IsV (.pointer (some ⟨g4, 0, none⟩)), IsV (.int .i64 a1_0), IsV (.bool (!decide (a1_0 = 9))), IsV (.bool (!decide (a1_0 = 9))), IsV undef, IsV undef, IsV undef, IsV undef, IsV undef, IsV undef, IsV undef, IsV (.bool true), IsV (.bool true), IsV undef, IsV undef, IsV undef, IsV undef, IsV undef, IsV undef, IsV (.bool true), IsV (.bool true), IsV undef, IsV undef, IsV undef, IsV undef, IsV undef, IsV undef, IsV undef, IsV undef, IsV (.bool true)]) (by kernel_rfl) (by kernel_rfl) ?_ ?_ rfl hS ⟨hBw3_w, hBw3_w3⟩ ?_ ?_
    · exact fun x y hI hb => ⟨below_step hI.1 hb, below_step hI.2 hb⟩
    · exact AllStay.cons (Stays.v _) (AllStay.cons (Stays.v _) (AllStay.cons (Stays.v _) (AllStay.cons (Stays.v _) (AllStay.cons (Stays.v _) (AllStay.cons (Stays.v _) (AllStay.cons (Stays.v _) (AllStay.cons (Stays.v _) (AllStay.cons (Stays.v _) (AllStay.cons (Stays.v _) (AllStay.cons (Stays.v _) (AllStay.cons (Stays.v _) (AllStay.cons (Stays.v _) (AllStay.cons (Stays.v _) (AllStay.cons (Stays.v _) (AllStay.cons (Stays.v _) (AllStay.cons (Stays.v _) (AllStay.cons (Stays.v _) (AllStay.cons (Stays.v _) (AllStay.cons (Stays.v _) (AllStay.cons (Stays.v _) (AllStay.cons (Stays.v _) (AllStay.cons (Stays.v _) (AllStay.cons (Stays.v _) (AllStay.cons (Stays.v _) (AllStay.cons (Stays.v _) (AllStay.cons (Stays.v _) (AllStay.cons (Stays.v _) (AllStay.cons (Stays.v _) (AllStay.cons (Stays.v _) (AllStay.nil))))))))))))))))))))))))))))))
    · refine Steps.cons (fun a w hS hI hp => ok_on rfl (does_val (x_field rfl (hS.get 2 rfl) Try.underlying34 rfl (by kernel_rfl)) rfl)) ?_
      refine Steps.cons (fun a w hS hI hp => ok_on rfl (does_val (x_load1 (d := .int .i64) rfl ((hp.get 0 (by rfl) rfl rfl)) (by kernel_rfl) rfl ((blk_cell (((hI.2).block g4 (blk_lt hbxg4)).trans hbxg4) 0).trans rfl)) rfl)) ?_
      refine Steps.cons (fun a w hS hI hp => ok_on rfl (does_val (x_bin rfl ((hp.get 1 (by rfl) rfl rfl)) (rfl) (b_neq _ _ _ _ _ _)) rfl)) ?_
      refine Steps.cons (fun a w hS hI hp => ok_on rfl (does_val (x_move rfl ((hp.get 2 (by rfl) rfl rfl))) rfl)) ?_
      refine Steps.cons (fun a w hS hI hp => ok_off (d := 10) rfl rfl (by rw [hS.size]; decide) (((hp.get 3 (by rfl) rfl rfl)).trans (bT (congrArg (!·) (decide_eq_false c1)))) rfl) ?_
      refine Steps.cons (fun a w hS hI hp => ok_off (d := 10) rfl rfl (by rw [hS.size]; decide) (((hp.get 3 (by rfl) rfl rfl)).trans (bT (congrArg (!·) (decide_eq_false c1)))) rfl) ?_
      refine Steps.cons (fun a w hS hI hp => ok_off (d := 10) rfl rfl (by rw [hS.size]; decide) (((hp.get 3 (by rfl) rfl rfl)).trans (bT (congrArg (!·) (decide_eq_false c1)))) rfl) ?_
      refine Steps.cons (fun a w hS hI hp => ok_off (d := 10) rfl rfl (by rw [hS.size]; decide) (((hp.get 3 (by rfl) rfl rfl)).trans (bT (congrArg (!·) (decide_eq_false c1)))) rfl) ?_
      refine Steps.cons (fun a w hS hI hp => ok_off (d := 10) rfl rfl (by rw [hS.size]; decide) (((hp.get 3 (by rfl) rfl rfl)).trans (bT (congrArg (!·) (decide_eq_false c1)))) rfl) ?_
      refine Steps.cons (fun a w hS hI hp => ok_off (d := 10) rfl rfl (by rw [hS.size]; decide) (((hp.get 3 (by rfl) rfl rfl)).trans (bT (congrArg (!·) (decide_eq_false c1)))) rfl) ?_
      refine Steps.cons (fun a w hS hI hp => ok_off (d := 10) rfl rfl (by rw [hS.size]; decide) (((hp.get 3 (by rfl) rfl rfl)).trans (bT (congrArg (!·) (decide_eq_false c1)))) rfl) ?_
      refine Steps.cons (fun a w hS hI hp => ok_on rfl (does_val (x_pickT rfl (((hp.get 3 (by rfl) rfl rfl)).trans (bT (congrArg (!·) (decide_eq_false c1)))) (rfl)) rfl)) ?_
      refine Steps.cons (fun a w hS hI hp => ok_on rfl (does_val (x_move rfl ((hp.get 11 (by rfl) rfl rfl))) rfl)) ?_
      refine Steps.cons (fun a w hS hI hp => ok_off (d := 19) rfl rfl (by rw [hS.size]; decide) (((hp.get 12 (by rfl) rfl rfl)).trans (bT rfl)) rfl) ?_
      refine Steps.cons (fun a w hS hI hp => ok_off (d := 19) rfl rfl (by rw [hS.size]; decide) (((hp.get 12 (by rfl) rfl rfl)).trans (bT rfl)) rfl) ?_
      refine Steps.cons (fun a w hS hI hp => ok_off (d := 19) rfl rfl (by rw [hS.size]; decide) (((hp.get 12 (by rfl) rfl rfl)).trans (bT rfl)) rfl) ?_
      refine Steps.cons (fun a w hS hI hp => ok_off (d := 19) rfl rfl (by rw [hS.size]; decide) (((hp.get 12 (by rfl) rfl rfl)).trans (bT rfl)) rfl) ?_
      refine Steps.cons (fun a w hS hI hp => ok_off (d := 19) rfl rfl (by rw [hS.size]; decide) (((hp.get 12 (by rfl) rfl rfl)).trans (bT rfl)) rfl) ?_
      refine Steps.cons (fun a w hS hI hp => ok_off (d := 19) rfl rfl (by rw [hS.size]; decide) (((hp.get 12 (by rfl) rfl rfl)).trans (bT rfl)) rfl) ?_
      refine Steps.cons (fun a w hS hI hp => ok_on rfl (does_val (x_pickT rfl (((hp.get 12 (by rfl) rfl rfl)).trans (bT rfl)) (rfl)) rfl)) ?_
      refine Steps.cons (fun a w hS hI hp => ok_on rfl (does_val (x_move rfl ((hp.get 19 (by rfl) rfl rfl))) rfl)) ?_
      refine Steps.cons (fun a w hS hI hp => ok_off (d := 27) rfl rfl (by rw [hS.size]; decide) (((hp.get 20 (by rfl) rfl rfl)).trans (bT rfl)) rfl) ?_
      refine Steps.cons (fun a w hS hI hp => ok_off (d := 27) rfl rfl (by rw [hS.size]; decide) (((hp.get 20 (by rfl) rfl rfl)).trans (bT rfl)) rfl) ?_
      refine Steps.cons (fun a w hS hI hp => ok_off (d := 27) rfl rfl (by rw [hS.size]; decide) (((hp.get 20 (by rfl) rfl rfl)).trans (bT rfl)) rfl) ?_
      refine Steps.cons (fun a w hS hI hp => ok_off (d := 27) rfl rfl (by rw [hS.size]; decide) (((hp.get 20 (by rfl) rfl rfl)).trans (bT rfl)) rfl) ?_
      refine Steps.cons (fun a w hS hI hp => ok_off (d := 27) rfl rfl (by rw [hS.size]; decide) (((hp.get 20 (by rfl) rfl rfl)).trans (bT rfl)) rfl) ?_
      refine Steps.cons (fun a w hS hI hp => ok_off (d := 27) rfl rfl (by rw [hS.size]; decide) (((hp.get 20 (by rfl) rfl rfl)).trans (bT rfl)) rfl) ?_
      refine Steps.cons (fun a w hS hI hp => ok_off (d := 27) rfl rfl (by rw [hS.size]; decide) (((hp.get 20 (by rfl) rfl rfl)).trans (bT rfl)) rfl) ?_
      refine Steps.cons (fun a w hS hI hp => ok_off (d := 27) rfl rfl (by rw [hS.size]; decide) (((hp.get 20 (by rfl) rfl rfl)).trans (bT rfl)) rfl) ?_
      refine Steps.cons (fun a w hS hI hp => ok_on rfl (does_val (x_pickT rfl (((hp.get 20 (by rfl) rfl rfl)).trans (bT rfl)) (rfl)) rfl)) ?_
      exact Steps.nil
    clear hS
    intro at8 w9 hS hI hp
    have hBw9_w := hI.1
    have hBw9_w3 := hI.2
    have hv36 : sl _ 36 = .bool true := hp 29 (by decide)
    have hBw9_w9 := Below.refl w9.heap.size w9
    have hS := hS.cons hv36
    clear hp hI hv36
    refine hK7 _ _ ?_
    clear hK7 K7
    refine wp_cond_true ((hS.get 0 rfl).trans (bT rfl)) ?_
    refine wp_seq_k (fun K10 hK10 => ?_)
    replace hS := (((hS.nil).cons (hS.get 4 rfl)).cons (hS.get 3 rfl)).cons (hS.get 0 rfl)
    refine reg_seq (N := 52) (bs := [(36, .bool true), (3, .pointer (some ⟨g4, 0, none⟩)), (0, .pointer (some ⟨g0, 0, none⟩))]) (I := fun x => Below w.heap.size w x ∧ Below w3.heap.size w3 x ∧ Below w9.heap.size w9 x) (ps := [IsV (.int .i64 0), IsV (.bool false)]) (by kernel_rfl) ?_ ?_ rfl hS ⟨hBw9_w, hBw9_w3, hBw9_w9⟩ ?_ ?_
    · exact fun x y hI hb => ⟨below_step hI.1 hb, below_step hI.2.1 hb, below_step hI.2.2 hb⟩
    · exact AllStay.cons (Stays.v _) (AllStay.cons (Stays.v _) (AllStay.nil))
    · refine Steps.cons (fun a w hS hI hp => ok_on rfl (does_val (x_assign rfl (rfl)) rfl)) ?_
      refine Steps.cons (fun a w hS hI hp => ok_on rfl (does_val (x_assign rfl (rfl)) rfl)) ?_
      exact Steps.nil
    clear hS
    intro at11 w12 hS hI hp
    have hBw12_w := hI.1
    have hBw12_w3 := hI.2.1
    have hBw12_w9 := hI.2.2
    have hv4 : sl _ 4 = .int .i64 0 := hp 0 (by decide)
    have hv5 : sl _ 5 = .bool false := hp 1 (by decide)
    have hBw12_w12 := Below.refl w12.heap.size w12
    have hS := hS.cons hv4
    have hS := hS.cons hv5
    clear hp hI hv4 hv5
    refine hK10 _ _ ?_
    clear hK10 K10
    refine wp_ret ?_
    (try simp only [Exit.then, Exit.inBlock])
    exact bodyPost_ret (v := .tuple #[.int .i64 0, .bool false]) (results_list (rs := [.tmp 4, .tmp 5]) rfl (by simp) (Vals.at (hS.get 1 rfl) (Vals.at (hS.get 0 rfl) .nil))) hS.nodef ⟨rfl, ((hBw12_w.block g0 (blk_lt HP0)).trans HP0), (Tch.more (Tch.refl _ _) hBw12_w)⟩

end Go.Proofs.Ytpfjpfbhgeoadaa.P
