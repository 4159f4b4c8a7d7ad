/- Functions and loops of the given program as Lean functions, and that the code comes to what they say: written by this session's own program; Lean checks it. -/
import Derived.Test.YtcflafkafbpibaaPx0
import Derived.Test.YtcflafkafbpibaaPx4
import Derived.Test.YtcflafkafbpibaaPx5
namespace Go.Proofs.Ytcflafkafbpibaa.P
open Go.RowKit Go.Proofs.YtcflafkafbpibaaW.PrintWords Go.Proofs.YtcflafkafbpibaaW.PrintLast Go.Proofs.YtcflafkafbpibaaW.PrintMore
attribute [local go_sem] max2_int min2_int max_two min_two max_three min_three max_four min_four   -- for this text's walks alone
set_option linter.unusedVariables false
set_option linter.unusedSimpArgs false

/-! ### carillonref06_Put: function 11: by our own printer -/
def carillonref06_Put.f (k : Nat) (a0_0 : Int) (a0_1 : Int) (a0_2 : Int) (a0_3 : Int) (a0_4 : Int) (a0_5 : Int) (a0_6 : Int) (a0_7 : Int) (a0_8 : Int) (a0_9 : Int) (a0_10 : Int) (a0_11 : Int) (a0_12 : Int) (a0_13 : Int) (a0_14 : Int) (a0_15 : Int) (a0_16 : Int) (a0_17 : Int) (a0_18 : Int) (a0_19 : Int) (a0_20 : Int) (a0_21 : Int) (a0_22 : Int) (a1 : Int) : Option (List Int) := (carillonref06_Check.f a0_0 a0_1 a0_2 a0_3 a0_4 a0_5 a0_6 a0_7 a0_8 a0_9 a0_10 a0_11 a0_12 a0_13 a0_14 a0_15 a0_16 a0_17 a0_18 a0_19 a0_20 a0_21 a0_22).bind fun t7 => (if t7 = true then (if a1 < 34 then (some []) else (if a1 > 400 then (some []) else ((carillonref01_Put.f k a1 2).bind fun t15 => (if ([IntKind.u8.wrap a0_0, 18].length + t15.length) * 1 ≤ 140737488355328 then (if (([IntKind.u8.wrap a0_0, 18] ++ t15 : List Int).length + [IntKind.u8.wrap a0_1, 0].length) * 1 ≤ 140737488355328 then ((carillonref01_Put.f k a0_2 2).bind fun t30 => (if ((([IntKind.u8.wrap a0_0, 18] ++ t15 : List Int) ++ [IntKind.u8.wrap a0_1, 0] : List Int).length + t30.length) * 1 ≤ 140737488355328 then ((carillonref01_Put.f k a0_3 8).bind fun t38 => (if (((([IntKind.u8.wrap a0_0, 18] ++ t15 : List Int) ++ [IntKind.u8.wrap a0_1, 0] : List Int) ++ t30 : List Int).length + t38.length) * 1 ≤ 140737488355328 then (if ((((([IntKind.u8.wrap a0_0, 18] ++ t15 : List Int) ++ [IntKind.u8.wrap a0_1, 0] : List Int) ++ t30 : List Int) ++ t38 : List Int).length + [0, 0, 0, 0].length) * 1 ≤ 140737488355328 then ((carillonref04_Put.f k a0_4 a0_5).bind fun t53 => (if (((((([IntKind.u8.wrap a0_0, 18] ++ t15 : List Int) ++ [IntKind.u8.wrap a0_1, 0] : List Int) ++ t30 : List Int) ++ t38 : List Int) ++ [0, 0, 0, 0] : List Int).length + t53.length) * 1 ≤ 140737488355328 then ((carillonref01_Put.f k a0_6 2).bind fun t61 => (if ((((((([IntKind.u8.wrap a0_0, 18] ++ t15 : List Int) ++ [IntKind.u8.wrap a0_1, 0] : List Int) ++ t30 : List Int) ++ t38 : List Int) ++ [0, 0, 0, 0] : List Int) ++ t53 : List Int).length + t61.length) * 1 ≤ 140737488355328 then (if (((((((([IntKind.u8.wrap a0_0, 18] ++ t15 : List Int) ++ [IntKind.u8.wrap a0_1, 0] : List Int) ++ t30 : List Int) ++ t38 : List Int) ++ [0, 0, 0, 0] : List Int) ++ t53 : List Int) ++ t61 : List Int).length + [(if a0_0 = 0 then 0 else (if a0_0 = 1 then 1 else (if a0_0 = 8 then 2 else (if a0_0 = 9 then 3 else (if a0_0 = 13 then 4 else 5))))), IntKind.u8.wrap a0_7].length) * 1 ≤ 140737488355328 then (some (((((((([IntKind.u8.wrap a0_0, 18] ++ t15 : List Int) ++ [IntKind.u8.wrap a0_1, 0] : List Int) ++ t30 : List Int) ++ t38 : List Int) ++ [0, 0, 0, 0] : List Int) ++ t53 : List Int) ++ t61 : List Int) ++ [(if a0_0 = 0 then 0 else (if a0_0 = 1 then 1 else (if a0_0 = 8 then 2 else (if a0_0 = 9 then 3 else (if a0_0 = 13 then 4 else 5))))), IntKind.u8.wrap a0_7] : List Int)) else (none)) else (none))) else (none))) else (none)) else (none))) else (none))) else (none)) else (none))))) else (some []))
open Go.Proofs.Ytcflafkafbpibaa.E in
set_option maxHeartbeats 8000000 in
set_option maxRecDepth 100000 in
theorem carillonref06_Put.calls (k : Nat) (a0_0 : Int) (a0_1 : Int) (a0_2 : Int) (a0_3 : Int) (a0_4 : Int) (a0_5 : Int) (a0_6 : Int) (a0_7 : Int) (a0_8 : Int) (a0_9 : Int) (a0_10 : Int) (a0_11 : Int) (a0_12 : Int) (a0_13 : Int) (a0_14 : Int) (a0_15 : Int) (a0_16 : Int) (a0_17 : Int) (a0_18 : Int) (a0_19 : Int) (a0_20 : Int) (a0_21 : Int) (a0_22 : Int) (a1 : Int) (r : List Int) (w : World) (h : carillonref06_Put.f k a0_0 a0_1 a0_2 a0_3 a0_4 a0_5 a0_6 a0_7 a0_8 a0_9 a0_10 a0_11 a0_12 a0_13 a0_14 a0_15 a0_16 a0_17 a0_18 a0_19 a0_20 a0_21 a0_22 a1 = some r) :
    Calls Try.prog 11 #[.agg #[.int .i64 a0_0, .int .i64 a0_1, .int .i64 a0_2, .int .i64 a0_3, .int .u64 a0_4, .int .i64 a0_5, .int .i64 a0_6, .int .i64 a0_7, .int .i64 a0_8, .int .u64 a0_9, .int .i64 a0_10, .int .i64 a0_11, .int .i64 a0_12, .int .i64 a0_13, .int .i64 a0_14, .int .i64 a0_15, .int .i64 a0_16, .int .u64 a0_17, .int .i64 a0_18, .int .i64 a0_19, .int .i64 a0_20, .int .i64 a0_21, .int .i64 a0_22], .int .i64 a1] w fun e w' => ∃ v0_ : Value, e = .returned v0_ ∧ Kd.R (Kd.int .u8) 5 w' w.heap.size (fun _ => True) v0_ r ∧ Below w.heap.size w w' := by
  have H := h
  clear h
  unfold carillonref06_Put.f at H
  obtain ⟨t7, At7, H⟩ := Option.bind_eq_some_iff.mp H
  by_cases c1 : t7 = true
  · rw [if_pos c1] at H
    by_cases c2 : a1 < 34
    · rw [if_pos c2] at H
      obtain rfl := Option.some.inj H
      refine calls_of_wp (fn := Try.f11) (by kernel_rfl) rfl ?_
      have hS := St.enter #[.agg #[.int .i64 a0_0, .int .i64 a0_1, .int .i64 a0_2, .int .i64 a0_3, .int .u64 a0_4, .int .i64 a0_5, .int .i64 a0_6, .int .i64 a0_7, .int .i64 a0_8, .int .u64 a0_9, .int .i64 a0_10, .int .i64 a0_11, .int .i64 a0_12, .int .i64 a0_13, .int .i64 a0_14, .int .i64 a0_15, .int .i64 a0_16, .int .u64 a0_17, .int .i64 a0_18, .int .i64 a0_19, .int .i64 a0_20, .int .i64 a0_21, .int .i64 a0_22], .int .i64 a1] 74 (by simp) [(0, .agg #[.int .i64 a0_0, .int .i64 a0_1, .int .i64 a0_2, .int .i64 a0_3, .int .u64 a0_4, .int .i64 a0_5, .int .i64 a0_6, .int .i64 a0_7, .int .i64 a0_8, .int .u64 a0_9, .int .i64 a0_10, .int .i64 a0_11, .int .i64 a0_12, .int .i64 a0_13, .int .i64 a0_14, .int .i64 a0_15, .int .i64 a0_16, .int .u64 a0_17, .int .i64 a0_18, .int .i64 a0_19, .int .i64 a0_20, .int .i64 a0_21, .int .i64 a0_22]), (1, .int .i64 a1)] (by simp)
      have HB0 := Below.refl w.heap.size w
      refine wp_seq_k (fun K1 hK1 => ?_)
      refine reg_seq (N := 74) (bs := [(0, .agg #[.int .i64 a0_0, .int .i64 a0_1, .int .i64 a0_2, .int .i64 a0_3, .int .u64 a0_4, .int .i64 a0_5, .int .i64 a0_6, .int .i64 a0_7, .int .i64 a0_8, .int .u64 a0_9, .int .i64 a0_10, .int .i64 a0_11, .int .i64 a0_12, .int .i64 a0_13, .int .i64 a0_14, .int .i64 a0_15, .int .i64 a0_16, .int .u64 a0_17, .int .i64 a0_18, .int .i64 a0_19, .int .i64 a0_20, .int .i64 a0_21, .int .i64 a0_22]), (1, .int .i64 a1)]) (I := fun x => Below w.heap.size w x) (ps := [IsB #[.int .i64 a0_0, .int .i64 a0_1, .int .i64 a0_2, .int .i64 a0_3, .int .u64 a0_4, .int .i64 a0_5, .int .i64 a0_6, .int .i64 a0_7, .int .i64 a0_8, .int .u64 a0_9, .int .i64 a0_10, .int .i64 a0_11, .int .i64 a0_12, .int .i64 a0_13, .int .i64 a0_14, .int .i64 a0_15, .int .i64 a0_16, .int .u64 a0_17, .int .i64 a0_18, .int .i64 a0_19, .int .i64 a0_20, .int .i64 a0_21, .int .i64 a0_22] 28 w.heap.size, IsV (.slice none 0 0)]) (by kernel_rfl) ?_ ?_ rfl hS HB0 ?_ ?_
      · exact fun x y hI hb => below_step hI hb
      · exact AllStay.cons (Stays.b _ _ _) (AllStay.cons (Stays.v _) (AllStay.nil))
      · refine Steps.cons (fun a w hS hI hp => ok_on rfl (does_var (x_box rfl (congrArg Value.cells (hS.get 0 rfl))) (hI).size)) ?_
        refine Steps.cons (fun a w hS hI hp => ok_on rfl (does_val (x_assign rfl (rfl)) rfl)) ?_
        exact Steps.nil
      clear hS
      intro at2 w3 hS hI hp
      have hBw3_w := hI
      replace hS := (hS.nil).cons (hS.get 1 rfl)
      obtain ⟨g4, hv2, hgeg4, hbxg4⟩ := (show IsB _ 28 _ (sl _ 2) _ from hp 0 (by decide))
      have hv4 : sl _ 4 = .slice none 0 0 := hp 1 (by decide)
      have hBw3_w3 := Below.refl w3.heap.size w3
      have hS := hS.cons hv2
      have hS := hS.cons hv4
      clear hp hI hv2 hv4
      refine hK1 _ _ ?_
      clear hK1 K1
      refine wp_seq_k (fun K5 hK5 => ?_)
      refine wp_seq_k (fun K6 hK6 => ?_)
      refine reg_seq (N := 74) (bs := [(4, .slice none 0 0), (2, .pointer (some ⟨g4, 0, none⟩)), (1, .int .i64 a1)]) (I := fun x => Below w.heap.size w x ∧ Below w3.heap.size w3 x) (ps := [IsV (.agg #[.int .i64 a0_0, .int .i64 a0_1, .int .i64 a0_2, .int .i64 a0_3, .int .u64 a0_4, .int .i64 a0_5, .int .i64 a0_6, .int .i64 a0_7, .int .i64 a0_8, .int .u64 a0_9, .int .i64 a0_10, .int .i64 a0_11, .int .i64 a0_12, .int .i64 a0_13, .int .i64 a0_14, .int .i64 a0_15, .int .i64 a0_16, .int .u64 a0_17, .int .i64 a0_18, .int .i64 a0_19, .int .i64 a0_20, .int .i64 a0_21, .int .i64 a0_22]), IsV (.bool t7), IsV (.bool (!t7)), IsV (.bool (!t7)), IsV (.int .i64 a1), IsV (.bool (decide (a1 < 34))), IsV (.bool (decide (a1 < 34))), IsV (.bool (decide (a1 < 34))), IsV undef, IsV undef, IsV (.bool true)]) (by kernel_rfl) ?_ ?_ rfl hS ⟨hBw3_w, hBw3_w3⟩ ?_ ?_
      · exact fun x y hI hb => ⟨below_step hI.1 hb, below_step hI.2 hb⟩
      · exact AllStay.cons (Stays.v _) (AllStay.cons (Stays.v _) (AllStay.cons (Stays.v _) (AllStay.cons (Stays.v _) (AllStay.cons (Stays.v _) (AllStay.cons (Stays.v _) (AllStay.cons (Stays.v _) (AllStay.cons (Stays.v _) (AllStay.cons (Stays.v _) (AllStay.cons (Stays.v _) (AllStay.cons (Stays.v _) (AllStay.nil)))))))))))
      · refine Steps.cons (fun a w hS hI hp => ok_on rfl (does_loadrow rfl (hS.get 1 rfl) (((hI.2).block g4 (blk_lt hbxg4)).trans hbxg4) Try.underlying28 rfl (by kernel_rfl) rfl)) ?_
        refine Steps.cons (fun a w hS hI hp => ok_on rfl (does_call (by kernel_rfl) (ar1 ((hp.get 0 (by rfl) rfl rfl))) ((carillonref06_Check.calls a0_0 a0_1 a0_2 a0_3 a0_4 a0_5 a0_6 a0_7 a0_8 a0_9 a0_10 a0_11 a0_12 a0_13 a0_14 a0_15 a0_16 a0_17 a0_18 a0_19 a0_20 a0_21 a0_22 t7 _  At7).mono fun _ _ h => ⟨_, h.1, h.2, rfl⟩))) ?_
        refine Steps.cons (fun a w hS hI hp => ok_on rfl (does_val (x_not rfl ((hp.get 1 (by rfl) rfl rfl))) rfl)) ?_
        refine Steps.cons (fun a w hS hI hp => ok_on rfl (does_val (x_move rfl ((hp.get 2 (by rfl) rfl rfl))) rfl)) ?_
        refine Steps.cons (fun a w hS hI hp => ok_if (d := 10) rfl rfl (by rw [hS.size]; decide) (((hp.get 3 (by rfl) rfl rfl)).trans (bF (congrArg (!·) c1))) (does_val (x_move rfl (hS.get 2 rfl)) rfl)) ?_
        refine Steps.cons (fun a w hS hI hp => ok_if (d := 10) rfl rfl (by rw [hS.size]; decide) (((hp.get 3 (by rfl) rfl rfl)).trans (bF (congrArg (!·) c1))) (does_val (x_bin rfl ((hp.get 4 (by rfl) rfl rfl)) (rfl) (b_lss _ _ _ _ _ _)) rfl)) ?_
        refine Steps.cons (fun a w hS hI hp => ok_on rfl (does_val (x_pickF rfl (((hp.get 3 (by rfl) rfl rfl)).trans (bF (congrArg (!·) c1))) ((hp.get 5 (by rfl) rfl rfl))) rfl)) ?_
        refine Steps.cons (fun a w hS hI hp => ok_on rfl (does_val (x_move rfl ((hp.get 6 (by rfl) rfl rfl))) rfl)) ?_
        refine Steps.cons (fun a w hS hI hp => ok_off (d := 14) rfl rfl (by rw [hS.size]; decide) (((hp.get 7 (by rfl) rfl rfl)).trans (bT (decide_eq_true c2))) rfl) ?_
        refine Steps.cons (fun a w hS hI hp => ok_off (d := 14) rfl rfl (by rw [hS.size]; decide) (((hp.get 7 (by rfl) rfl rfl)).trans (bT (decide_eq_true c2))) rfl) ?_
        refine Steps.cons (fun a w hS hI hp => ok_on rfl (does_val (x_pickT rfl (((hp.get 7 (by rfl) rfl rfl)).trans (bT (decide_eq_true c2))) (rfl)) rfl)) ?_
        exact Steps.nil
      clear hS
      intro at8 w9 hS hI hp
      have hBw9_w := hI.1
      have hBw9_w3 := hI.2
      have hv17 : sl _ 17 = .bool true := hp 10 (by decide)
      have hBw9_w9 := Below.refl w9.heap.size w9
      have hS := hS.cons hv17
      clear hp hI hv17
      refine hK6 _ _ ?_
      clear hK6 K6
      refine wp_cond_true ((hS.get 0 rfl).trans (bT rfl)) ?_
      refine wp_seq_k (fun K10 hK10 => ?_)
      replace hS := (((hS.nil).cons (hS.get 3 rfl)).cons (hS.get 2 rfl)).cons (hS.get 0 rfl)
      refine reg_seq (N := 74) (bs := [(17, .bool true), (2, .pointer (some ⟨g4, 0, none⟩)), (1, .int .i64 a1)]) (I := fun x => Below w.heap.size w x ∧ Below w3.heap.size w3 x ∧ Below w9.heap.size w9 x) (ps := [IsV (.slice none 0 0)]) (by kernel_rfl) ?_ ?_ rfl hS ⟨hBw9_w, hBw9_w3, hBw9_w9⟩ ?_ ?_
      · exact fun x y hI hb => ⟨below_step hI.1 hb, below_step hI.2.1 hb, below_step hI.2.2 hb⟩
      · exact AllStay.cons (Stays.v _) (AllStay.nil)
      · refine Steps.cons (fun a w hS hI hp => ok_on rfl (does_val (x_assign rfl (rfl)) rfl)) ?_
        exact Steps.nil
      clear hS
      intro at11 w12 hS hI hp
      have hBw12_w := hI.1
      have hBw12_w3 := hI.2.1
      have hBw12_w9 := hI.2.2
      have hv4 : sl _ 4 = .slice none 0 0 := hp 0 (by decide)
      have hBw12_w12 := Below.refl w12.heap.size w12
      have hS := hS.cons hv4
      clear hp hI hv4
      refine hK10 _ _ ?_
      clear hK10 K10
      refine wp_ret ?_
      (try simp only [Exit.then, Exit.inBlock])
      exact bodyPost_ret (v := .slice none 0 0) (results_single rfl (Vals.at (hS.get 0 rfl) .nil)) hS.nodef ⟨.slice none 0 0, rfl, Kd.R_nil _ _ _ _ _, hBw12_w⟩
    · rw [if_neg c2] at H
      by_cases c3 : a1 > 400
      · rw [if_pos c3] at H
        obtain rfl := Option.some.inj H
        refine calls_of_wp (fn := Try.f11) (by kernel_rfl) rfl ?_
        have hS := St.enter #[.agg #[.int .i64 a0_0, .int .i64 a0_1, .int .i64 a0_2, .int .i64 a0_3, .int .u64 a0_4, .int .i64 a0_5, .int .i64 a0_6, .int .i64 a0_7, .int .i64 a0_8, .int .u64 a0_9, .int .i64 a0_10, .int .i64 a0_11, .int .i64 a0_12, .int .i64 a0_13, .int .i64 a0_14, .int .i64 a0_15, .int .i64 a0_16, .int .u64 a0_17, .int .i64 a0_18, .int .i64 a0_19, .int .i64 a0_20, .int .i64 a0_21, .int .i64 a0_22], .int .i64 a1] 74 (by simp) [(0, .agg #[.int .i64 a0_0, .int .i64 a0_1, .int .i64 a0_2, .int .i64 a0_3, .int .u64 a0_4, .int .i64 a0_5, .int .i64 a0_6, .int .i64 a0_7, .int .i64 a0_8, .int .u64 a0_9, .int .i64 a0_10, .int .i64 a0_11, .int .i64 a0_12, .int .i64 a0_13, .int .i64 a0_14, .int .i64 a0_15, .int .i64 a0_16, .int .u64 a0_17, .int .i64 a0_18, .int .i64 a0_19, .int .i64 a0_20, .int .i64 a0_21, .int .i64 a0_22]), (1, .int .i64 a1)] (by simp)
        have HB0 := Below.refl w.heap.size w
        refine wp_seq_k (fun K1 hK1 => ?_)
        refine reg_seq (N := 74) (bs := [(0, .agg #[.int .i64 a0_0, .int .i64 a0_1, .int .i64 a0_2, .int .i64 a0_3, .int .u64 a0_4, .int .i64 a0_5, .int .i64 a0_6, .int .i64 a0_7, .int .i64 a0_8, .int .u64 a0_9, .int .i64 a0_10, .int .i64 a0_11, .int .i64 a0_12, .int .i64 a0_13, .int .i64 a0_14, .int .i64 a0_15, .int .i64 a0_16, .int .u64 a0_17, .int .i64 a0_18, .int .i64 a0_19, .int .i64 a0_20, .int .i64 a0_21, .int .i64 a0_22]), (1, .int .i64 a1)]) (I := fun x => Below w.heap.size w x) (ps := [IsB #[.int .i64 a0_0, .int .i64 a0_1, .int .i64 a0_2, .int .i64 a0_3, .int .u64 a0_4, .int .i64 a0_5, .int .i64 a0_6, .int .i64 a0_7, .int .i64 a0_8, .int .u64 a0_9, .int .i64 a0_10, .int .i64 a0_11, .int .i64 a0_12, .int .i64 a0_13, .int .i64 a0_14, .int .i64 a0_15, .int .i64 a0_16, .int .u64 a0_17, .int .i64 a0_18, .int .i64 a0_19, .int .i64 a0_20, .int .i64 a0_21, .int .i64 a0_22] 28 w.heap.size, IsV (.slice none 0 0)]) (by kernel_rfl) ?_ ?_ rfl hS HB0 ?_ ?_
        · exact fun x y hI hb => below_step hI hb
        · exact AllStay.cons (Stays.b _ _ _) (AllStay.cons (Stays.v _) (AllStay.nil))
        · refine Steps.cons (fun a w hS hI hp => ok_on rfl (does_var (x_box rfl (congrArg Value.cells (hS.get 0 rfl))) (hI).size)) ?_
          refine Steps.cons (fun a w hS hI hp => ok_on rfl (does_val (x_assign rfl (rfl)) rfl)) ?_
          exact Steps.nil
        clear hS
        intro at2 w3 hS hI hp
        have hBw3_w := hI
        replace hS := (hS.nil).cons (hS.get 1 rfl)
        obtain ⟨g4, hv2, hgeg4, hbxg4⟩ := (show IsB _ 28 _ (sl _ 2) _ from hp 0 (by decide))
        have hv4 : sl _ 4 = .slice none 0 0 := hp 1 (by decide)
        have hBw3_w3 := Below.refl w3.heap.size w3
        have hS := hS.cons hv2
        have hS := hS.cons hv4
        clear hp hI hv2 hv4
        refine hK1 _ _ ?_
        clear hK1 K1
        refine wp_seq_k (fun K5 hK5 => ?_)
        refine wp_seq_k (fun K6 hK6 => ?_)
        refine reg_seq (N := 74) (bs := [(4, .slice none 0 0), (2, .pointer (some ⟨g4, 0, none⟩)), (1, .int .i64 a1)]) (I := fun x => Below w.heap.size w x ∧ Below w3.heap.size w3 x) (ps := [IsV (.agg #[.int .i64 a0_0, .int .i64 a0_1, .int .i64 a0_2, .int .i64 a0_3, .int .u64 a0_4, .int .i64 a0_5, .int .i64 a0_6, .int .i64 a0_7, .int .i64 a0_8, .int .u64 a0_9, .int .i64 a0_10, .int .i64 a0_11, .int .i64 a0_12, .int .i64 a0_13, .int .i64 a0_14, .int .i64 a0_15, .int .i64 a0_16, .int .u64 a0_17, .int .i64 a0_18, .int .i64 a0_19, .int .i64 a0_20, .int .i64 a0_21, .int .i64 a0_22]), IsV (.bool t7), IsV (.bool (!t7)), IsV (.bool (!t7)), IsV (.int .i64 a1), IsV (.bool (decide (a1 < 34))), IsV (.bool (decide (a1 < 34))), IsV (.bool (decide (a1 < 34))), IsV (.int .i64 a1), IsV (.bool (decide (a1 > 400))), IsV (.bool (decide (a1 > 400)))]) (by kernel_rfl) ?_ ?_ rfl hS ⟨hBw3_w, hBw3_w3⟩ ?_ ?_
        · exact fun x y hI hb => ⟨below_step hI.1 hb, below_step hI.2 hb⟩
        · exact AllStay.cons (Stays.v _) (AllStay.cons (Stays.v _) (AllStay.cons (Stays.v _) (AllStay.cons (Stays.v _) (AllStay.cons (Stays.v _) (AllStay.cons (Stays.v _) (AllStay.cons (Stays.v _) (AllStay.cons (Stays.v _) (AllStay.cons (Stays.v _) (AllStay.cons (Stays.v _) (AllStay.cons (Stays.v _) (AllStay.nil)))))))))))
        · refine Steps.cons (fun a w hS hI hp => ok_on rfl (does_loadrow rfl (hS.get 1 rfl) (((hI.2).block g4 (blk_lt hbxg4)).trans hbxg4) Try.underlying28 rfl (by kernel_rfl) rfl)) ?_
          refine Steps.cons (fun a w hS hI hp => ok_on rfl (does_call (by kernel_rfl) (ar1 ((hp.get 0 (by rfl) rfl rfl))) ((carillonref06_Check.calls a0_0 a0_1 a0_2 a0_3 a0_4 a0_5 a0_6 a0_7 a0_8 a0_9 a0_10 a0_11 a0_12 a0_13 a0_14 a0_15 a0_16 a0_17 a0_18 a0_19 a0_20 a0_21 a0_22 t7 _  At7).mono fun _ _ h => ⟨_, h.1, h.2, rfl⟩))) ?_
          refine Steps.cons (fun a w hS hI hp => ok_on rfl (does_val (x_not rfl ((hp.get 1 (by rfl) rfl rfl))) rfl)) ?_
          refine Steps.cons (fun a w hS hI hp => ok_on rfl (does_val (x_move rfl ((hp.get 2 (by rfl) rfl rfl))) rfl)) ?_
          refine Steps.cons (fun a w hS hI hp => ok_if (d := 10) rfl rfl (by rw [hS.size]; decide) (((hp.get 3 (by rfl) rfl rfl)).trans (bF (congrArg (!·) c1))) (does_val (x_move rfl (hS.get 2 rfl)) rfl)) ?_
          refine Steps.cons (fun a w hS hI hp => ok_if (d := 10) rfl rfl (by rw [hS.size]; decide) (((hp.get 3 (by rfl) rfl rfl)).trans (bF (congrArg (!·) c1))) (does_val (x_bin rfl ((hp.get 4 (by rfl) rfl rfl)) (rfl) (b_lss _ _ _ _ _ _)) rfl)) ?_
          refine Steps.cons (fun a w hS hI hp => ok_on rfl (does_val (x_pickF rfl (((hp.get 3 (by rfl) rfl rfl)).trans (bF (congrArg (!·) c1))) ((hp.get 5 (by rfl) rfl rfl))) rfl)) ?_
          refine Steps.cons (fun a w hS hI hp => ok_on rfl (does_val (x_move rfl ((hp.get 6 (by rfl) rfl rfl))) rfl)) ?_
          refine Steps.cons (fun a w hS hI hp => ok_if (d := 14) rfl rfl (by rw [hS.size]; decide) (((hp.get 7 (by rfl) rfl rfl)).trans (bF (decide_eq_false c2))) (does_val (x_move rfl (hS.get 2 rfl)) rfl)) ?_
          refine Steps.cons (fun a w hS hI hp => ok_if (d := 14) rfl rfl (by rw [hS.size]; decide) (((hp.get 7 (by rfl) rfl rfl)).trans (bF (decide_eq_false c2))) (does_val (x_bin rfl ((hp.get 8 (by rfl) rfl rfl)) (rfl) (b_gtr _ _ _ _ _ _)) rfl)) ?_
          refine Steps.cons (fun a w hS hI hp => ok_on rfl (does_val (x_pickF rfl (((hp.get 7 (by rfl) rfl rfl)).trans (bF (decide_eq_false c2))) ((hp.get 9 (by rfl) rfl rfl))) rfl)) ?_
          exact Steps.nil
        clear hS
        intro at8 w9 hS hI hp
        have hBw9_w := hI.1
        have hBw9_w3 := hI.2
        have hv17 : sl _ 17 = .bool (decide (a1 > 400)) := hp 10 (by decide)
        have hBw9_w9 := Below.refl w9.heap.size w9
        have hS := hS.cons hv17
        clear hp hI hv17
        refine hK6 _ _ ?_
        clear hK6 K6
        refine wp_cond_true ((hS.get 0 rfl).trans (bT (decide_eq_true c3))) ?_
        refine wp_seq_k (fun K10 hK10 => ?_)
        replace hS := (((hS.nil).cons (hS.get 3 rfl)).cons (hS.get 2 rfl)).cons (hS.get 0 rfl)
        refine reg_seq (N := 74) (bs := [(17, .bool (decide (a1 > 400))), (2, .pointer (some ⟨g4, 0, none⟩)), (1, .int .i64 a1)]) (I := fun x => Below w.heap.size w x ∧ Below w3.heap.size w3 x ∧ Below w9.heap.size w9 x) (ps := [IsV (.slice none 0 0)]) (by kernel_rfl) ?_ ?_ rfl hS ⟨hBw9_w, hBw9_w3, hBw9_w9⟩ ?_ ?_
        · exact fun x y hI hb => ⟨below_step hI.1 hb, below_step hI.2.1 hb, below_step hI.2.2 hb⟩
        · exact AllStay.cons (Stays.v _) (AllStay.nil)
        · refine Steps.cons (fun a w hS hI hp => ok_on rfl (does_val (x_assign rfl (rfl)) rfl)) ?_
          exact Steps.nil
        clear hS
        intro at11 w12 hS hI hp
        have hBw12_w := hI.1
        have hBw12_w3 := hI.2.1
        have hBw12_w9 := hI.2.2
        have hv4 : sl _ 4 = .slice none 0 0 := hp 0 (by decide)
        have hBw12_w12 := Below.refl w12.heap.size w12
        have hS := hS.cons hv4
        clear hp hI hv4
        refine hK10 _ _ ?_
        clear hK10 K10
        refine wp_ret ?_
        (try simp only [Exit.then, Exit.inBlock])
        exact bodyPost_ret (v := .slice none 0 0) (results_single rfl (Vals.at (hS.get 0 rfl) .nil)) hS.nodef ⟨.slice none 0 0, rfl, Kd.R_nil _ _ _ _ _, hBw12_w⟩
      · rw [if_neg c3] at H
        obtain ⟨t15, At15, H⟩ := Option.bind_eq_some_iff.mp H
        by_cases c4 : ([IntKind.u8.wrap a0_0, 18].length + t15.length) * 1 ≤ 140737488355328
        · rw [if_pos c4] at H
          by_cases c5 : (([IntKind.u8.wrap a0_0, 18] ++ t15 : List Int).length + [IntKind.u8.wrap a0_1, 0].length) * 1 ≤ 140737488355328
          · rw [if_pos c5] at H
            obtain ⟨t30, At30, H⟩ := Option.bind_eq_some_iff.mp H
            by_cases c6 : ((([IntKind.u8.wrap a0_0, 18] ++ t15 : List Int) ++ [IntKind.u8.wrap a0_1, 0] : List Int).length + t30.length) * 1 ≤ 140737488355328
            · rw [if_pos c6] at H
              obtain ⟨t38, At38, H⟩ := Option.bind_eq_some_iff.mp H
              by_cases c7 : (((([IntKind.u8.wrap a0_0, 18] ++ t15 : List Int) ++ [IntKind.u8.wrap a0_1, 0] : List Int) ++ t30 : List Int).length + t38.length) * 1 ≤ 140737488355328
              · rw [if_pos c7] at H
                by_cases c8 : ((((([IntKind.u8.wrap a0_0, 18] ++ t15 : List Int) ++ [IntKind.u8.wrap a0_1, 0] : List Int) ++ t30 : List Int) ++ t38 : List Int).length + [0, 0, 0, 0].length) * 1 ≤ 140737488355328
                · rw [if_pos c8] at H
                  obtain ⟨t53, At53, H⟩ := Option.bind_eq_some_iff.mp H
                  by_cases c9 : (((((([IntKind.u8.wrap a0_0, 18] ++ t15 : List Int) ++ [IntKind.u8.wrap a0_1, 0] : List Int) ++ t30 : List Int) ++ t38 : List Int) ++ [0, 0, 0, 0] : List Int).length + t53.length) * 1 ≤ 140737488355328
                  · rw [if_pos c9] at H
                    obtain ⟨t61, At61, H⟩ := Option.bind_eq_some_iff.mp H
                    by_cases c10 : ((((((([IntKind.u8.wrap a0_0, 18] ++ t15 : List Int) ++ [IntKind.u8.wrap a0_1, 0] : List Int) ++ t30 : List Int) ++ t38 : List Int) ++ [0, 0, 0, 0] : List Int) ++ t53 : List Int).length + t61.length) * 1 ≤ 140737488355328
                    · rw [if_pos c10] at H
                      by_cases c11 : (((((((([IntKind.u8.wrap a0_0, 18] ++ t15 : List Int) ++ [IntKind.u8.wrap a0_1, 0] : List Int) ++ t30 : List Int) ++ t38 : List Int) ++ [0, 0, 0, 0] : List Int) ++ t53 : List Int) ++ t61 : List Int).length + [(if a0_0 = 0 then 0 else (if a0_0 = 1 then 1 else (if a0_0 = 8 then 2 else (if a0_0 = 9 then 3 else (if a0_0 = 13 then 4 else 5))))), IntKind.u8.wrap a0_7].length) * 1 ≤ 140737488355328
                      · rw [if_pos c11] at H
                        obtain rfl := Option.some.inj H
                        refine calls_of_wp (fn := Try.f11) (by kernel_rfl) rfl ?_
                        have hS := St.enter #[.agg #[.int .i64 a0_0, .int .i64 a0_1, .int .i64 a0_2, .int .i64 a0_3, .int .u64 a0_4, .int .i64 a0_5, .int .i64 a0_6, .int .i64 a0_7, .int .i64 a0_8, .int .u64 a0_9, .int .i64 a0_10, .int .i64 a0_11, .int .i64 a0_12, .int .i64 a0_13, .int .i64 a0_14, .int .i64 a0_15, .int .i64 a0_16, .int .u64 a0_17, .int .i64 a0_18, .int .i64 a0_19, .int .i64 a0_20, .int .i64 a0_21, .int .i64 a0_22], .int .i64 a1] 74 (by simp) [(0, .agg #[.int .i64 a0_0, .int .i64 a0_1, .int .i64 a0_2, .int .i64 a0_3, .int .u64 a0_4, .int .i64 a0_5, .int .i64 a0_6, .int .i64 a0_7, .int .i64 a0_8, .int .u64 a0_9, .int .i64 a0_10, .int .i64 a0_11, .int .i64 a0_12, .int .i64 a0_13, .int .i64 a0_14, .int .i64 a0_15, .int .i64 a0_16, .int .u64 a0_17, .int .i64 a0_18, .int .i64 a0_19, .int .i64 a0_20, .int .i64 a0_21, .int .i64 a0_22]), (1, .int .i64 a1)] (by simp)
                        have HB0 := Below.refl w.heap.size w
                        refine wp_seq_k (fun K1 hK1 => ?_)
                        refine reg_seq (N := 74) (bs := [(0, .agg #[.int .i64 a0_0, .int .i64 a0_1, .int .i64 a0_2, .int .i64 a0_3, .int .u64 a0_4, .int .i64 a0_5, .int .i64 a0_6, .int .i64 a0_7, .int .i64 a0_8, .int .u64 a0_9, .int .i64 a0_10, .int .i64 a0_11, .int .i64 a0_12, .int .i64 a0_13, .int .i64 a0_14, .int .i64 a0_15, .int .i64 a0_16, .int .u64 a0_17, .int .i64 a0_18, .int .i64 a0_19, .int .i64 a0_20, .int .i64 a0_21, .int .i64 a0_22]), (1, .int .i64 a1)]) (I := fun x => Below w.heap.size w x) (ps := [IsB #[.int .i64 a0_0, .int .i64 a0_1, .int .i64 a0_2, .int .i64 a0_3, .int .u64 a0_4, .int .i64 a0_5, .int .i64 a0_6, .int .i64 a0_7, .int .i64 a0_8, .int .u64 a0_9, .int .i64 a0_10, .int .i64 a0_11, .int .i64 a0_12, .int .i64 a0_13, .int .i64 a0_14, .int .i64 a0_15, .int .i64 a0_16, .int .u64 a0_17, .int .i64 a0_18, .int .i64 a0_19, .int .i64 a0_20, .int .i64 a0_21, .int .i64 a0_22] 28 w.heap.size, IsV (.slice none 0 0)]) (by kernel_rfl) ?_ ?_ rfl hS HB0 ?_ ?_
                        · exact fun x y hI hb => below_step hI hb
                        · exact AllStay.cons (Stays.b _ _ _) (AllStay.cons (Stays.v _) (AllStay.nil))
                        · refine Steps.cons (fun a w hS hI hp => ok_on rfl (does_var (x_box rfl (congrArg Value.cells (hS.get 0 rfl))) (hI).size)) ?_
                          refine Steps.cons (fun a w hS hI hp => ok_on rfl (does_val (x_assign rfl (rfl)) rfl)) ?_
                          exact Steps.nil
                        clear hS
                        intro at2 w3 hS hI hp
                        have hBw3_w := hI
                        replace hS := (hS.nil).cons (hS.get 1 rfl)
                        obtain ⟨g4, hv2, hgeg4, hbxg4⟩ := (show IsB _ 28 _ (sl _ 2) _ from hp 0 (by decide))
                        have hv4 : sl _ 4 = .slice none 0 0 := hp 1 (by decide)
                        have hBw3_w3 := Below.refl w3.heap.size w3
                        have hS := hS.cons hv2
                        have hS := hS.cons hv4
                        clear hp hI hv2 hv4
                        refine hK1 _ _ ?_
                        clear hK1 K1
                        refine wp_seq_k (fun K5 hK5 => ?_)
                        refine wp_seq_k (fun K6 hK6 => ?_)
                        refine reg_seq (N := 74) (bs := [(4, .slice none 0 0), (2, .pointer (some ⟨g4, 0, none⟩)), (1, .int .i64 a1)]) (I := fun x => Below w.heap.size w x ∧ Below w3.heap.size w3 x) (ps := [IsV (.agg #[.int .i64 a0_0, .int .i64 a0_1, .int .i64 a0_2, .int .i64 a0_3, .int .u64 a0_4, .int .i64 a0_5, .int .i64 a0_6, .int .i64 a0_7, .int .i64 a0_8, .int .u64 a0_9, .int .i64 a0_10, .int .i64 a0_11, .int .i64 a0_12, .int .i64 a0_13, .int .i64 a0_14, .int .i64 a0_15, .int .i64 a0_16, .int .u64 a0_17, .int .i64 a0_18, .int .i64 a0_19, .int .i64 a0_20, .int .i64 a0_21, .int .i64 a0_22]), IsV (.bool t7), IsV (.bool (!t7)), IsV (.bool (!t7)), IsV (.int .i64 a1), IsV (.bool (decide (a1 < 34))), IsV (.bool (decide (a1 < 34))), IsV (.bool (decide (a1 < 34))), IsV (.int .i64 a1), IsV (.bool (decide (a1 > 400))), IsV (.bool (decide (a1 > 400)))]) (by kernel_rfl) ?_ ?_ rfl hS ⟨hBw3_w, hBw3_w3⟩ ?_ ?_
                        · exact fun x y hI hb => ⟨below_step hI.1 hb, below_step hI.2 hb⟩
                        · exact AllStay.cons (Stays.v _) (AllStay.cons (Stays.v _) (AllStay.cons (Stays.v _) (AllStay.cons (Stays.v _) (AllStay.cons (Stays.v _) (AllStay.cons (Stays.v _) (AllStay.cons (Stays.v _) (AllStay.cons (Stays.v _) (AllStay.cons (Stays.v _) (AllStay.cons (Stays.v _) (AllStay.cons (Stays.v _) (AllStay.nil)))))))))))
                        · refine Steps.cons (fun a w hS hI hp => ok_on rfl (does_loadrow rfl (hS.get 1 rfl) (((hI.2).block g4 (blk_lt hbxg4)).trans hbxg4) Try.underlying28 rfl (by kernel_rfl) rfl)) ?_
                          refine Steps.cons (fun a w hS hI hp => ok_on rfl (does_call (by kernel_rfl) (ar1 ((hp.get 0 (by rfl) rfl rfl))) ((carillonref06_Check.calls a0_0 a0_1 a0_2 a0_3 a0_4 a0_5 a0_6 a0_7 a0_8 a0_9 a0_10 a0_11 a0_12 a0_13 a0_14 a0_15 a0_16 a0_17 a0_18 a0_19 a0_20 a0_21 a0_22 t7 _  At7).mono fun _ _ h => ⟨_, h.1, h.2, rfl⟩))) ?_
                          refine Steps.cons (fun a w hS hI hp => ok_on rfl (does_val (x_not rfl ((hp.get 1 (by rfl) rfl rfl))) rfl)) ?_
                          refine Steps.cons (fun a w hS hI hp => ok_on rfl (does_val (x_move rfl ((hp.get 2 (by rfl) rfl rfl))) rfl)) ?_
                          refine Steps.cons (fun a w hS hI hp => ok_if (d := 10) rfl rfl (by rw [hS.size]; decide) (((hp.get 3 (by rfl) rfl rfl)).trans (bF (congrArg (!·) c1))) (does_val (x_move rfl (hS.get 2 rfl)) rfl)) ?_
                          refine Steps.cons (fun a w hS hI hp => ok_if (d := 10) rfl rfl (by rw [hS.size]; decide) (((hp.get 3 (by rfl) rfl rfl)).trans (bF (congrArg (!·) c1))) (does_val (x_bin rfl ((hp.get 4 (by rfl) rfl rfl)) (rfl) (b_lss _ _ _ _ _ _)) rfl)) ?_
                          refine Steps.cons (fun a w hS hI hp => ok_on rfl (does_val (x_pickF rfl (((hp.get 3 (by rfl) rfl rfl)).trans (bF (congrArg (!·) c1))) ((hp.get 5 (by rfl) rfl rfl))) rfl)) ?_
                          refine Steps.cons (fun a w hS hI hp => ok_on rfl (does_val (x_move rfl ((hp.get 6 (by rfl) rfl rfl))) rfl)) ?_
                          refine Steps.cons (fun a w hS hI hp => ok_if (d := 14) rfl rfl (by rw [hS.size]; decide) (((hp.get 7 (by rfl) rfl rfl)).trans (bF (decide_eq_false c2))) (does_val (x_move rfl (hS.get 2 rfl)) rfl)) ?_
                          refine Steps.cons (fun a w hS hI hp => ok_if (d := 14) rfl rfl (by rw [hS.size]; decide) (((hp.get 7 (by rfl) rfl rfl)).trans (bF (decide_eq_false c2))) (does_val (x_bin rfl ((hp.get 8 (by rfl) rfl rfl)) (rfl) (b_gtr _ _ _ _ _ _)) rfl)) ?_
                          refine Steps.cons (fun a w hS hI hp => ok_on rfl (does_val (x_pickF rfl (((hp.get 7 (by rfl) rfl rfl)).trans (bF (decide_eq_false c2))) ((hp.get 9 (by rfl) rfl rfl))) rfl)) ?_
                          exact Steps.nil
                        clear hS
                        intro at8 w9 hS hI hp
                        have hBw9_w := hI.1
                        have hBw9_w3 := hI.2
                        have hv17 : sl _ 17 = .bool (decide (a1 > 400)) := hp 10 (by decide)
                        have hBw9_w9 := Below.refl w9.heap.size w9
                        have hS := hS.cons hv17
                        clear hp hI hv17
                        refine hK6 _ _ ?_
                        clear hK6 K6
                        refine wp_cond_false ((hS.get 0 rfl).trans (bF (decide_eq_false c3))) ?_
                        refine wp_skip ?_
                        refine hK5 _ _ ?_
                        clear hK5 K5
                        refine wp_seq_k (fun K10 hK10 => ?_)
                        refine reg_seq (N := 74) (bs := [(17, .bool (decide (a1 > 400))), (4, .slice none 0 0), (2, .pointer (some ⟨g4, 0, none⟩)), (1, .int .i64 a1)]) (I := fun x => Below w.heap.size w x ∧ Below w3.heap.size w3 x ∧ Below w9.heap.size w9 x) (ps := [IsV (.pointer (some ⟨g4, 0, none⟩)), IsV (.int .i64 a0_0), IsV (.int .u8 (IntKind.u8.wrap a0_0)), IsR (Kd.int .u8) 5 w9.heap.size [IntKind.u8.wrap a0_0, 18], IsR (Kd.int .u8) 5 w9.heap.size [IntKind.u8.wrap a0_0, 18]]) (by kernel_rfl) ?_ ?_ rfl hS ⟨hBw9_w, hBw9_w3, hBw9_w9⟩ ?_ ?_
                        · exact fun x y hI hb => ⟨below_step hI.1 hb, below_step hI.2.1 hb, below_step hI.2.2 hb⟩
                        · exact AllStay.cons (Stays.v _) (AllStay.cons (Stays.v _) (AllStay.cons (Stays.v _) (AllStay.cons (Stays.r _ _ _ _) (AllStay.cons (Stays.r _ _ _ _) (AllStay.nil)))))
                        · refine Steps.cons (fun a w hS hI hp => ok_on rfl (does_val (x_field rfl (hS.get 2 rfl) Try.underlying28 rfl (by kernel_rfl)) rfl)) ?_
                          refine Steps.cons (fun a w hS hI hp => ok_on rfl (does_val (x_load1 (d := .int .i64) rfl ((hp.get 0 (by rfl) rfl rfl)) (by kernel_rfl) rfl ((blk_cell (((hI.2.1).block g4 (blk_lt hbxg4)).trans hbxg4) 0).trans rfl)) rfl)) ?_
                          refine Steps.cons (fun a w hS hI hp => ok_on rfl (does_val (x_convI rfl (by kernel_rfl) (by kernel_rfl) ((hp.get 1 (by rfl) rfl rfl))) rfl)) ?_
                          refine Steps.cons (fun a w hS hI hp => ok_on rfl (does_lit w9.heap.size 29 5 2 _ [(0, .int .u8 (IntKind.u8.wrap a0_0)), (1, .int .u8 18)] [IntKind.u8.wrap a0_0, 18] rfl (by kernel_rfl) (by rw [Array.toList_map]; exact (show [(0, a.eval (.tmp 20)), (1, a.eval (.const (.int .u8 18)))] = _ from (li_cons ((hp.get 2 (by rfl) rfl rfl)) (li_cons (rfl) rfl)))) (by kernel_rfl) rfl (hI.2.2).size (Nat.le_of_ble_eq_true rfl))) ?_
                          refine Steps.cons (fun a w hS hI hp => ok_on rfl (does_val (x_assign rfl rfl) ((hp.get 3 (by rfl) rfl rfl)))) ?_
                          exact Steps.nil
                        clear hS
                        intro at11 w12 hS hI hp
                        have hBw12_w := hI.1
                        have hBw12_w3 := hI.2.1
                        have hBw12_w9 := hI.2.2
                        obtain ⟨A13, C13, hv5, hl13, hc13⟩ := Kd.R_reads (show Kd.R (Kd.int .u8) 5 w12 w9.heap.size (fun _ => True) (sl _ 5) [IntKind.u8.wrap a0_0, 18] from hp 4 (by decide))
                        have ho13 : Kd.R (Kd.int .u8) 5 w12 w9.heap.size (fun _ => True) (.slice A13 [IntKind.u8.wrap a0_0, 18].length C13) [IntKind.u8.wrap a0_0, 18] := hv5 ▸ (hp 4 (by decide))
                        have hBw12_w12 := Below.refl w12.heap.size w12
                        have hS := hS.cons hv5
                        clear hp hI hv5
                        refine hK10 _ _ ?_
                        clear hK10 K10
                        refine wp_seq_k (fun K14 hK14 => ?_)
                        refine reg_seq_tail 3 (N := 74) (bs := [(5, .slice A13 ([IntKind.u8.wrap a0_0, 18].length) C13), (17, .bool (decide (a1 > 400))), (4, .slice none 0 0), (2, .pointer (some ⟨g4, 0, none⟩)), (1, .int .i64 a1)]) (I := fun x => Below w.heap.size w x ∧ Below w3.heap.size w3 x ∧ Below w9.heap.size w9 x ∧ Below w12.heap.size w12 x) (ps := [IsV (.slice A13 ([IntKind.u8.wrap a0_0, 18].length) C13), IsV (.int .i64 a1), IsR (Kd.int .u8) 5 w12.heap.size t15]) (by kernel_rfl) ?_ ?_ rfl hS ⟨hBw12_w, hBw12_w3, hBw12_w9, hBw12_w12⟩ ?_ ?_
                        · exact fun x y hI hb => ⟨below_step hI.1 hb, below_step hI.2.1 hb, below_step hI.2.2.1 hb, below_step hI.2.2.2 hb⟩
                        · exact AllStay.cons (Stays.v _) (AllStay.cons (Stays.v _) (AllStay.cons (Stays.r _ _ _ _) (AllStay.nil)))
                        · refine Steps.cons (fun a w hS hI hp => ok_on rfl (does_val (x_move rfl (hS.get 0 rfl)) rfl)) ?_
                          refine Steps.cons (fun a w hS hI hp => ok_on rfl (does_val (x_move rfl (hS.get 4 rfl)) rfl)) ?_
                          refine Steps.cons (fun a w hS hI hp => ok_on rfl (does_call (by kernel_rfl) (ar2 ((hp.get 1 (by rfl) rfl rfl)) (rfl)) ((carillonref01_Put.calls k a1 2 t15 _  At15).mono fun _ _ h => h.elim fun v0 h => ⟨v0, h.1, h.2.2, Kd.R_lower h.2.1 hI.2.2.2.size⟩))) ?_
                          exact Steps.nil
                        clear hS
                        intro at16 w17 hS hI hp
                        have hBw17_w := hI.1
                        have hBw17_w3 := hI.2.1
                        have hBw17_w9 := hI.2.2.1
                        have hBw17_w12 := hI.2.2.2
                        replace hS := ((((hS.nil).cons (hS.get 3 rfl)).cons (hS.get 2 rfl)).cons (hS.get 1 rfl)).cons (hS.get 0 rfl)
                        have hv22 : sl _ 22 = .slice A13 ([IntKind.u8.wrap a0_0, 18].length) C13 := hp 0 (by decide)
                        obtain ⟨A18, C18, hv24, hl18, hc18⟩ := Kd.R_reads (show Kd.R (Kd.int .u8) 5 w17 w12.heap.size (fun _ => True) (sl _ 24) t15 from hp 2 (by decide))
                        have ho18 : Kd.R (Kd.int .u8) 5 w17 w12.heap.size (fun _ => True) (.slice A18 t15.length C18) t15 := hv24 ▸ (hp 2 (by decide))
                        have hBw17_w17 := Below.refl w17.heap.size w17
                        have hS := hS.cons hv22
                        have hS := hS.cons hv24
                        clear hp hI hv22 hv24
                        show wpList _ _ _ [_, _] _ _
                        refine list_step rfl (does_more (W := w9) (.tmp 22) (.tmp 24) 29 5 1 rfl (by kernel_rfl) (by kernel_rfl) (by decide) _ [IntKind.u8.wrap a0_0, 18] t15 _ _ (hS.get 1 rfl) (hS.get 0 rfl) (Kd.R_below ho13 hBw17_w12) (Kd.C_below hc18 hBw17_w17) hBw17_w9 c4) ?_
                        rintro vw19 w19 ⟨hb, hr⟩
                        have hBw19_w := below_step hBw9_w hb
                        have hBw19_w3 := below_step hBw9_w3 hb
                        have hBw19_w9 := hb
                        replace hS := (((hS.nil).cons (hS.get 5 rfl)).cons (hS.get 4 rfl)).cons (hS.get 3 rfl)
                        have hBw19_w19 := Below.refl w19.heap.size w19
                        obtain ⟨A20, C20, rfl, hl20, hc20⟩ := Kd.R_reads hr
                        have hr20 := hr
                        clear hr
                        replace hS := hS.put (v := .slice A20 (([IntKind.u8.wrap a0_0, 18] ++ t15 : List Int).length) C20) (d := 25) (by decide) (by rfl)
                        refine list_step rfl (R := fun v w' => Below _ _ w' ∧ (IsV (.slice A20 (([IntKind.u8.wrap a0_0, 18] ++ t15 : List Int).length) C20)) v w') (does_val (x_assign rfl (hS.get 0 rfl)) rfl) ?_
                        rintro vw21 w21 ⟨hb, he⟩
                        have hBw21_w := below_step hBw19_w hb
                        have hBw21_w3 := below_step hBw19_w3 hb
                        have hBw21_w9 := below_step hBw19_w9 hb
                        have hBw21_w19 := below_step hBw19_w19 hb
                        have hBw21_w21 := Below.refl w21.heap.size w21
                        obtain rfl : vw21 = .slice A20 (([IntKind.u8.wrap a0_0, 18] ++ t15 : List Int).length) C20 := he
                        replace hS := hS.put (v := .slice A20 (([IntKind.u8.wrap a0_0, 18] ++ t15 : List Int).length) C20) (d := 5) (by decide) (by rfl)
                        refine wpList_nil ?_
                        refine hK14 _ _ ?_
                        clear hK14 K14
                        refine wp_seq_k (fun K22 hK22 => ?_)
                        refine reg_seq_tail 5 (N := 74) (bs := [(5, .slice A20 (([IntKind.u8.wrap a0_0, 18] ++ t15 : List Int).length) C20), (25, .slice A20 (([IntKind.u8.wrap a0_0, 18] ++ t15 : List Int).length) C20), (17, .bool (decide (a1 > 400))), (4, .slice none 0 0), (2, .pointer (some ⟨g4, 0, none⟩))]) (I := fun x => Below w.heap.size w x ∧ Below w3.heap.size w3 x ∧ Below w9.heap.size w9 x ∧ Below w19.heap.size w19 x ∧ Below w21.heap.size w21 x) (ps := [IsV (.slice A20 (([IntKind.u8.wrap a0_0, 18] ++ t15 : List Int).length) C20), IsV (.pointer (some ⟨g4, 1, none⟩)), IsV (.int .i64 a0_1), IsV (.int .u8 (IntKind.u8.wrap a0_1)), IsR (Kd.int .u8) 5 w21.heap.size [IntKind.u8.wrap a0_1, 0]]) (by kernel_rfl) ?_ ?_ rfl hS ⟨hBw21_w, hBw21_w3, hBw21_w9, hBw21_w19, hBw21_w21⟩ ?_ ?_
                        · exact fun x y hI hb => ⟨below_step hI.1 hb, below_step hI.2.1 hb, below_step hI.2.2.1 hb, below_step hI.2.2.2.1 hb, below_step hI.2.2.2.2 hb⟩
                        · exact AllStay.cons (Stays.v _) (AllStay.cons (Stays.v _) (AllStay.cons (Stays.v _) (AllStay.cons (Stays.v _) (AllStay.cons (Stays.r _ _ _ _) (AllStay.nil)))))
                        · refine Steps.cons (fun a w hS hI hp => ok_on rfl (does_val (x_move rfl (hS.get 0 rfl)) rfl)) ?_
                          refine Steps.cons (fun a w hS hI hp => ok_on rfl (does_val (x_field rfl (hS.get 4 rfl) Try.underlying28 rfl (by kernel_rfl)) rfl)) ?_
                          refine Steps.cons (fun a w hS hI hp => ok_on rfl (does_val (x_load1 (d := .int .i64) rfl ((hp.get 1 (by rfl) rfl rfl)) (by kernel_rfl) rfl ((blk_cell (((hI.2.1).block g4 (blk_lt hbxg4)).trans hbxg4) 1).trans rfl)) rfl)) ?_
                          refine Steps.cons (fun a w hS hI hp => ok_on rfl (does_val (x_convI rfl (by kernel_rfl) (by kernel_rfl) ((hp.get 2 (by rfl) rfl rfl))) rfl)) ?_
                          refine Steps.cons (fun a w hS hI hp => ok_on rfl (does_lit w21.heap.size 29 5 2 _ [(0, .int .u8 (IntKind.u8.wrap a0_1)), (1, .int .u8 0)] [IntKind.u8.wrap a0_1, 0] rfl (by kernel_rfl) (by rw [Array.toList_map]; exact (show [(0, a.eval (.tmp 29)), (1, a.eval (.const (.int .u8 0)))] = _ from (li_cons ((hp.get 3 (by rfl) rfl rfl)) (li_cons (rfl) rfl)))) (by kernel_rfl) rfl (hI.2.2.2.2).size (Nat.le_of_ble_eq_true rfl))) ?_
                          exact Steps.nil
                        clear hS
                        intro at23 w24 hS hI hp
                        have hBw24_w := hI.1
                        have hBw24_w3 := hI.2.1
                        have hBw24_w9 := hI.2.2.1
                        have hBw24_w19 := hI.2.2.2.1
                        have hBw24_w21 := hI.2.2.2.2
                        replace hS := ((((hS.nil).cons (hS.get 4 rfl)).cons (hS.get 3 rfl)).cons (hS.get 2 rfl)).cons (hS.get 0 rfl)
                        have hv26 : sl _ 26 = .slice A20 (([IntKind.u8.wrap a0_0, 18] ++ t15 : List Int).length) C20 := hp 0 (by decide)
                        obtain ⟨A25, C25, hv30, hl25, hc25⟩ := Kd.R_reads (show Kd.R (Kd.int .u8) 5 w24 w21.heap.size (fun _ => True) (sl _ 30) [IntKind.u8.wrap a0_1, 0] from hp 4 (by decide))
                        have ho25 : Kd.R (Kd.int .u8) 5 w24 w21.heap.size (fun _ => True) (.slice A25 [IntKind.u8.wrap a0_1, 0].length C25) [IntKind.u8.wrap a0_1, 0] := hv30 ▸ (hp 4 (by decide))
                        have hBw24_w24 := Below.refl w24.heap.size w24
                        have hS := hS.cons hv26
                        have hS := hS.cons hv30
                        clear hp hI hv26 hv30
                        show wpList _ _ _ [_, _] _ _
                        refine list_step rfl (does_more (W := w9) (.tmp 26) (.tmp 30) 29 5 1 rfl (by kernel_rfl) (by kernel_rfl) (by decide) _ ([IntKind.u8.wrap a0_0, 18] ++ t15 : List Int) [IntKind.u8.wrap a0_1, 0] _ _ (hS.get 1 rfl) (hS.get 0 rfl) (Kd.R_below hr20 hBw24_w19) (Kd.C_below hc25 hBw24_w24) hBw24_w9 c5) ?_
                        rintro vw26 w26 ⟨hb, hr⟩
                        have hBw26_w := below_step hBw9_w hb
                        have hBw26_w3 := below_step hBw9_w3 hb
                        have hBw26_w9 := hb
                        replace hS := (((hS.nil).cons (hS.get 5 rfl)).cons (hS.get 4 rfl)).cons (hS.get 3 rfl)
                        have hBw26_w26 := Below.refl w26.heap.size w26
                        obtain ⟨A27, C27, rfl, hl27, hc27⟩ := Kd.R_reads hr
                        have hr27 := hr
                        clear hr
                        replace hS := hS.put (v := .slice A27 ((([IntKind.u8.wrap a0_0, 18] ++ t15 : List Int) ++ [IntKind.u8.wrap a0_1, 0] : List Int).length) C27) (d := 31) (by decide) (by rfl)
                        refine list_step rfl (R := fun v w' => Below _ _ w' ∧ (IsV (.slice A27 ((([IntKind.u8.wrap a0_0, 18] ++ t15 : List Int) ++ [IntKind.u8.wrap a0_1, 0] : List Int).length) C27)) v w') (does_val (x_assign rfl (hS.get 0 rfl)) rfl) ?_
                        rintro vw28 w28 ⟨hb, he⟩
                        have hBw28_w := below_step hBw26_w hb
                        have hBw28_w3 := below_step hBw26_w3 hb
                        have hBw28_w9 := below_step hBw26_w9 hb
                        have hBw28_w26 := below_step hBw26_w26 hb
                        have hBw28_w28 := Below.refl w28.heap.size w28
                        obtain rfl : vw28 = .slice A27 ((([IntKind.u8.wrap a0_0, 18] ++ t15 : List Int) ++ [IntKind.u8.wrap a0_1, 0] : List Int).length) C27 := he
                        replace hS := hS.put (v := .slice A27 ((([IntKind.u8.wrap a0_0, 18] ++ t15 : List Int) ++ [IntKind.u8.wrap a0_1, 0] : List Int).length) C27) (d := 5) (by decide) (by rfl)
                        refine wpList_nil ?_
                        refine hK22 _ _ ?_
                        clear hK22 K22
                        refine wp_seq_k (fun K29 hK29 => ?_)
                        refine reg_seq_tail 4 (N := 74) (bs := [(5, .slice A27 ((([IntKind.u8.wrap a0_0, 18] ++ t15 : List Int) ++ [IntKind.u8.wrap a0_1, 0] : List Int).length) C27), (31, .slice A27 ((([IntKind.u8.wrap a0_0, 18] ++ t15 : List Int) ++ [IntKind.u8.wrap a0_1, 0] : List Int).length) C27), (17, .bool (decide (a1 > 400))), (4, .slice none 0 0), (2, .pointer (some ⟨g4, 0, none⟩))]) (I := fun x => Below w.heap.size w x ∧ Below w3.heap.size w3 x ∧ Below w9.heap.size w9 x ∧ Below w26.heap.size w26 x ∧ Below w28.heap.size w28 x) (ps := [IsV (.slice A27 ((([IntKind.u8.wrap a0_0, 18] ++ t15 : List Int) ++ [IntKind.u8.wrap a0_1, 0] : List Int).length) C27), IsV (.pointer (some ⟨g4, 2, none⟩)), IsV (.int .i64 a0_2), IsR (Kd.int .u8) 5 w28.heap.size t30]) (by kernel_rfl) ?_ ?_ rfl hS ⟨hBw28_w, hBw28_w3, hBw28_w9, hBw28_w26, hBw28_w28⟩ ?_ ?_
                        · exact fun x y hI hb => ⟨below_step hI.1 hb, below_step hI.2.1 hb, below_step hI.2.2.1 hb, below_step hI.2.2.2.1 hb, below_step hI.2.2.2.2 hb⟩
                        · exact AllStay.cons (Stays.v _) (AllStay.cons (Stays.v _) (AllStay.cons (Stays.v _) (AllStay.cons (Stays.r _ _ _ _) (AllStay.nil))))
                        · refine Steps.cons (fun a w hS hI hp => ok_on rfl (does_val (x_move rfl (hS.get 0 rfl)) rfl)) ?_
                          refine Steps.cons (fun a w hS hI hp => ok_on rfl (does_val (x_field rfl (hS.get 4 rfl) Try.underlying28 rfl (by kernel_rfl)) rfl)) ?_
                          refine Steps.cons (fun a w hS hI hp => ok_on rfl (does_val (x_load1 (d := .int .i64) rfl ((hp.get 1 (by rfl) rfl rfl)) (by kernel_rfl) rfl ((blk_cell (((hI.2.1).block g4 (blk_lt hbxg4)).trans hbxg4) 2).trans rfl)) rfl)) ?_
                          refine Steps.cons (fun a w hS hI hp => ok_on rfl (does_call (by kernel_rfl) (ar2 ((hp.get 2 (by rfl) rfl rfl)) (rfl)) ((carillonref01_Put.calls k a0_2 2 t30 _  At30).mono fun _ _ h => h.elim fun v0 h => ⟨v0, h.1, h.2.2, Kd.R_lower h.2.1 hI.2.2.2.2.size⟩))) ?_
                          exact Steps.nil
                        clear hS
                        intro at31 w32 hS hI hp
                        have hBw32_w := hI.1
                        have hBw32_w3 := hI.2.1
                        have hBw32_w9 := hI.2.2.1
                        have hBw32_w26 := hI.2.2.2.1
                        have hBw32_w28 := hI.2.2.2.2
                        replace hS := ((((hS.nil).cons (hS.get 4 rfl)).cons (hS.get 3 rfl)).cons (hS.get 2 rfl)).cons (hS.get 0 rfl)
                        have hv32 : sl _ 32 = .slice A27 ((([IntKind.u8.wrap a0_0, 18] ++ t15 : List Int) ++ [IntKind.u8.wrap a0_1, 0] : List Int).length) C27 := hp 0 (by decide)
                        obtain ⟨A33, C33, hv35, hl33, hc33⟩ := Kd.R_reads (show Kd.R (Kd.int .u8) 5 w32 w28.heap.size (fun _ => True) (sl _ 35) t30 from hp 3 (by decide))
                        have ho33 : Kd.R (Kd.int .u8) 5 w32 w28.heap.size (fun _ => True) (.slice A33 t30.length C33) t30 := hv35 ▸ (hp 3 (by decide))
                        have hBw32_w32 := Below.refl w32.heap.size w32
                        have hS := hS.cons hv32
                        have hS := hS.cons hv35
                        clear hp hI hv32 hv35
                        show wpList _ _ _ [_, _] _ _
                        refine list_step rfl (does_more (W := w9) (.tmp 32) (.tmp 35) 29 5 1 rfl (by kernel_rfl) (by kernel_rfl) (by decide) _ (([IntKind.u8.wrap a0_0, 18] ++ t15 : List Int) ++ [IntKind.u8.wrap a0_1, 0] : List Int) t30 _ _ (hS.get 1 rfl) (hS.get 0 rfl) (Kd.R_below hr27 hBw32_w26) (Kd.C_below hc33 hBw32_w32) hBw32_w9 c6) ?_
                        rintro vw34 w34 ⟨hb, hr⟩
                        have hBw34_w := below_step hBw9_w hb
                        have hBw34_w3 := below_step hBw9_w3 hb
                        have hBw34_w9 := hb
                        replace hS := (((hS.nil).cons (hS.get 5 rfl)).cons (hS.get 4 rfl)).cons (hS.get 3 rfl)
                        have hBw34_w34 := Below.refl w34.heap.size w34
                        obtain ⟨A35, C35, rfl, hl35, hc35⟩ := Kd.R_reads hr
                        have hr35 := hr
                        clear hr
                        replace hS := hS.put (v := .slice A35 (((([IntKind.u8.wrap a0_0, 18] ++ t15 : List Int) ++ [IntKind.u8.wrap a0_1, 0] : List Int) ++ t30 : List Int).length) C35) (d := 36) (by decide) (by rfl)
                        refine list_step rfl (R := fun v w' => Below _ _ w' ∧ (IsV (.slice A35 (((([IntKind.u8.wrap a0_0, 18] ++ t15 : List Int) ++ [IntKind.u8.wrap a0_1, 0] : List Int) ++ t30 : List Int).length) C35)) v w') (does_val (x_assign rfl (hS.get 0 rfl)) rfl) ?_
                        rintro vw36 w36 ⟨hb, he⟩
                        have hBw36_w := below_step hBw34_w hb
                        have hBw36_w3 := below_step hBw34_w3 hb
                        have hBw36_w9 := below_step hBw34_w9 hb
                        have hBw36_w34 := below_step hBw34_w34 hb
                        have hBw36_w36 := Below.refl w36.heap.size w36
                        obtain rfl : vw36 = .slice A35 (((([IntKind.u8.wrap a0_0, 18] ++ t15 : List Int) ++ [IntKind.u8.wrap a0_1, 0] : List Int) ++ t30 : List Int).length) C35 := he
                        replace hS := hS.put (v := .slice A35 (((([IntKind.u8.wrap a0_0, 18] ++ t15 : List Int) ++ [IntKind.u8.wrap a0_1, 0] : List Int) ++ t30 : List Int).length) C35) (d := 5) (by decide) (by rfl)
                        refine wpList_nil ?_
                        refine hK29 _ _ ?_
                        clear hK29 K29
                        refine wp_seq_k (fun K37 hK37 => ?_)
                        refine reg_seq_tail 4 (N := 74) (bs := [(5, .slice A35 (((([IntKind.u8.wrap a0_0, 18] ++ t15 : List Int) ++ [IntKind.u8.wrap a0_1, 0] : List Int) ++ t30 : List Int).length) C35), (36, .slice A35 (((([IntKind.u8.wrap a0_0, 18] ++ t15 : List Int) ++ [IntKind.u8.wrap a0_1, 0] : List Int) ++ t30 : List Int).length) C35), (17, .bool (decide (a1 > 400))), (4, .slice none 0 0), (2, .pointer (some ⟨g4, 0, none⟩))]) (I := fun x => Below w.heap.size w x ∧ Below w3.heap.size w3 x ∧ Below w9.heap.size w9 x ∧ Below w34.heap.size w34 x ∧ Below w36.heap.size w36 x) (ps := [IsV (.slice A35 (((([IntKind.u8.wrap a0_0, 18] ++ t15 : List Int) ++ [IntKind.u8.wrap a0_1, 0] : List Int) ++ t30 : List Int).length) C35), IsV (.pointer (some ⟨g4, 3, none⟩)), IsV (.int .i64 a0_3), IsR (Kd.int .u8) 5 w36.heap.size t38]) (by kernel_rfl) ?_ ?_ rfl hS ⟨hBw36_w, hBw36_w3, hBw36_w9, hBw36_w34, hBw36_w36⟩ ?_ ?_
                        · exact fun x y hI hb => ⟨below_step hI.1 hb, below_step hI.2.1 hb, below_step hI.2.2.1 hb, below_step hI.2.2.2.1 hb, below_step hI.2.2.2.2 hb⟩
                        · exact AllStay.cons (Stays.v _) (AllStay.cons (Stays.v _) (AllStay.cons (Stays.v _) (AllStay.cons (Stays.r _ _ _ _) (AllStay.nil))))
                        · refine Steps.cons (fun a w hS hI hp => ok_on rfl (does_val (x_move rfl (hS.get 0 rfl)) rfl)) ?_
                          refine Steps.cons (fun a w hS hI hp => ok_on rfl (does_val (x_field rfl (hS.get 4 rfl) Try.underlying28 rfl (by kernel_rfl)) rfl)) ?_
                          refine Steps.cons (fun a w hS hI hp => ok_on rfl (does_val (x_load1 (d := .int .i64) rfl ((hp.get 1 (by rfl) rfl rfl)) (by kernel_rfl) rfl ((blk_cell (((hI.2.1).block g4 (blk_lt hbxg4)).trans hbxg4) 3).trans rfl)) rfl)) ?_
                          refine Steps.cons (fun a w hS hI hp => ok_on rfl (does_call (by kernel_rfl) (ar2 ((hp.get 2 (by rfl) rfl rfl)) (rfl)) ((carillonref01_Put.calls k a0_3 8 t38 _  At38).mono fun _ _ h => h.elim fun v0 h => ⟨v0, h.1, h.2.2, Kd.R_lower h.2.1 hI.2.2.2.2.size⟩))) ?_
                          exact Steps.nil
                        clear hS
                        intro at39 w40 hS hI hp
                        have hBw40_w := hI.1
                        have hBw40_w3 := hI.2.1
                        have hBw40_w9 := hI.2.2.1
                        have hBw40_w34 := hI.2.2.2.1
                        have hBw40_w36 := hI.2.2.2.2
                        replace hS := ((((hS.nil).cons (hS.get 4 rfl)).cons (hS.get 3 rfl)).cons (hS.get 2 rfl)).cons (hS.get 0 rfl)
                        have hv37 : sl _ 37 = .slice A35 (((([IntKind.u8.wrap a0_0, 18] ++ t15 : List Int) ++ [IntKind.u8.wrap a0_1, 0] : List Int) ++ t30 : List Int).length) C35 := hp 0 (by decide)
                        obtain ⟨A41, C41, hv40, hl41, hc41⟩ := Kd.R_reads (show Kd.R (Kd.int .u8) 5 w40 w36.heap.size (fun _ => True) (sl _ 40) t38 from hp 3 (by decide))
                        have ho41 : Kd.R (Kd.int .u8) 5 w40 w36.heap.size (fun _ => True) (.slice A41 t38.length C41) t38 := hv40 ▸ (hp 3 (by decide))
                        have hBw40_w40 := Below.refl w40.heap.size w40
                        have hS := hS.cons hv37
                        have hS := hS.cons hv40
                        clear hp hI hv37 hv40
                        show wpList _ _ _ [_, _] _ _
                        refine list_step rfl (does_more (W := w9) (.tmp 37) (.tmp 40) 29 5 1 rfl (by kernel_rfl) (by kernel_rfl) (by decide) _ ((([IntKind.u8.wrap a0_0, 18] ++ t15 : List Int) ++ [IntKind.u8.wrap a0_1, 0] : List Int) ++ t30 : List Int) t38 _ _ (hS.get 1 rfl) (hS.get 0 rfl) (Kd.R_below hr35 hBw40_w34) (Kd.C_below hc41 hBw40_w40) hBw40_w9 c7) ?_
                        rintro vw42 w42 ⟨hb, hr⟩
                        have hBw42_w := below_step hBw9_w hb
                        have hBw42_w3 := below_step hBw9_w3 hb
                        have hBw42_w9 := hb
                        replace hS := (((hS.nil).cons (hS.get 5 rfl)).cons (hS.get 4 rfl)).cons (hS.get 3 rfl)
                        have hBw42_w42 := Below.refl w42.heap.size w42
                        obtain ⟨A43, C43, rfl, hl43, hc43⟩ := Kd.R_reads hr
                        have hr43 := hr
                        clear hr
                        replace hS := hS.put (v := .slice A43 ((((([IntKind.u8.wrap a0_0, 18] ++ t15 : List Int) ++ [IntKind.u8.wrap a0_1, 0] : List Int) ++ t30 : List Int) ++ t38 : List Int).length) C43) (d := 41) (by decide) (by rfl)
                        refine list_step rfl (R := fun v w' => Below _ _ w' ∧ (IsV (.slice A43 ((((([IntKind.u8.wrap a0_0, 18] ++ t15 : List Int) ++ [IntKind.u8.wrap a0_1, 0] : List Int) ++ t30 : List Int) ++ t38 : List Int).length) C43)) v w') (does_val (x_assign rfl (hS.get 0 rfl)) rfl) ?_
                        rintro vw44 w44 ⟨hb, he⟩
                        have hBw44_w := below_step hBw42_w hb
                        have hBw44_w3 := below_step hBw42_w3 hb
                        have hBw44_w9 := below_step hBw42_w9 hb
                        have hBw44_w42 := below_step hBw42_w42 hb
                        have hBw44_w44 := Below.refl w44.heap.size w44
                        obtain rfl : vw44 = .slice A43 ((((([IntKind.u8.wrap a0_0, 18] ++ t15 : List Int) ++ [IntKind.u8.wrap a0_1, 0] : List Int) ++ t30 : List Int) ++ t38 : List Int).length) C43 := he
                        replace hS := hS.put (v := .slice A43 ((((([IntKind.u8.wrap a0_0, 18] ++ t15 : List Int) ++ [IntKind.u8.wrap a0_1, 0] : List Int) ++ t30 : List Int) ++ t38 : List Int).length) C43) (d := 5) (by decide) (by rfl)
                        refine wpList_nil ?_
                        refine hK37 _ _ ?_
                        clear hK37 K37
                        refine wp_seq_k (fun K45 hK45 => ?_)
                        refine reg_seq_tail 2 (N := 74) (bs := [(5, .slice A43 ((((([IntKind.u8.wrap a0_0, 18] ++ t15 : List Int) ++ [IntKind.u8.wrap a0_1, 0] : List Int) ++ t30 : List Int) ++ t38 : List Int).length) C43), (41, .slice A43 ((((([IntKind.u8.wrap a0_0, 18] ++ t15 : List Int) ++ [IntKind.u8.wrap a0_1, 0] : List Int) ++ t30 : List Int) ++ t38 : List Int).length) C43), (17, .bool (decide (a1 > 400))), (4, .slice none 0 0), (2, .pointer (some ⟨g4, 0, none⟩))]) (I := fun x => Below w.heap.size w x ∧ Below w3.heap.size w3 x ∧ Below w9.heap.size w9 x ∧ Below w42.heap.size w42 x ∧ Below w44.heap.size w44 x) (ps := [IsV (.slice A43 ((((([IntKind.u8.wrap a0_0, 18] ++ t15 : List Int) ++ [IntKind.u8.wrap a0_1, 0] : List Int) ++ t30 : List Int) ++ t38 : List Int).length) C43), IsR (Kd.int .u8) 5 w44.heap.size [0, 0, 0, 0]]) (by kernel_rfl) ?_ ?_ rfl hS ⟨hBw44_w, hBw44_w3, hBw44_w9, hBw44_w42, hBw44_w44⟩ ?_ ?_
                        · exact fun x y hI hb => ⟨below_step hI.1 hb, below_step hI.2.1 hb, below_step hI.2.2.1 hb, below_step hI.2.2.2.1 hb, below_step hI.2.2.2.2 hb⟩
                        · exact AllStay.cons (Stays.v _) (AllStay.cons (Stays.r _ _ _ _) (AllStay.nil))
                        · refine Steps.cons (fun a w hS hI hp => ok_on rfl (does_val (x_move rfl (hS.get 0 rfl)) rfl)) ?_
                          refine Steps.cons (fun a w hS hI hp => ok_on rfl (does_lit w44.heap.size 29 5 4 _ [(0, .int .u8 0), (1, .int .u8 0), (2, .int .u8 0), (3, .int .u8 0)] [0, 0, 0, 0] rfl (by kernel_rfl) (by rw [Array.toList_map]; exact (show [(0, a.eval (.const (.int .u8 0))), (1, a.eval (.const (.int .u8 0))), (2, a.eval (.const (.int .u8 0))), (3, a.eval (.const (.int .u8 0)))] = _ from (li_cons (rfl) (li_cons (rfl) (li_cons (rfl) (li_cons (rfl) rfl)))))) (by kernel_rfl) rfl (hI.2.2.2.2).size (Nat.le_of_ble_eq_true rfl))) ?_
                          exact Steps.nil
                        clear hS
                        intro at46 w47 hS hI hp
                        have hBw47_w := hI.1
                        have hBw47_w3 := hI.2.1
                        have hBw47_w9 := hI.2.2.1
                        have hBw47_w42 := hI.2.2.2.1
                        have hBw47_w44 := hI.2.2.2.2
                        replace hS := ((((hS.nil).cons (hS.get 4 rfl)).cons (hS.get 3 rfl)).cons (hS.get 2 rfl)).cons (hS.get 0 rfl)
                        have hv42 : sl _ 42 = .slice A43 ((((([IntKind.u8.wrap a0_0, 18] ++ t15 : List Int) ++ [IntKind.u8.wrap a0_1, 0] : List Int) ++ t30 : List Int) ++ t38 : List Int).length) C43 := hp 0 (by decide)
                        obtain ⟨A48, C48, hv43, hl48, hc48⟩ := Kd.R_reads (show Kd.R (Kd.int .u8) 5 w47 w44.heap.size (fun _ => True) (sl _ 43) [0, 0, 0, 0] from hp 1 (by decide))
                        have ho48 : Kd.R (Kd.int .u8) 5 w47 w44.heap.size (fun _ => True) (.slice A48 [0, 0, 0, 0].length C48) [0, 0, 0, 0] := hv43 ▸ (hp 1 (by decide))
                        have hBw47_w47 := Below.refl w47.heap.size w47
                        have hS := hS.cons hv42
                        have hS := hS.cons hv43
                        clear hp hI hv42 hv43
                        show wpList _ _ _ [_, _] _ _
                        refine list_step rfl (does_more (W := w9) (.tmp 42) (.tmp 43) 29 5 1 rfl (by kernel_rfl) (by kernel_rfl) (by decide) _ (((([IntKind.u8.wrap a0_0, 18] ++ t15 : List Int) ++ [IntKind.u8.wrap a0_1, 0] : List Int) ++ t30 : List Int) ++ t38 : List Int) [0, 0, 0, 0] _ _ (hS.get 1 rfl) (hS.get 0 rfl) (Kd.R_below hr43 hBw47_w42) (Kd.C_below hc48 hBw47_w47) hBw47_w9 c8) ?_
                        rintro vw49 w49 ⟨hb, hr⟩
                        have hBw49_w := below_step hBw9_w hb
                        have hBw49_w3 := below_step hBw9_w3 hb
                        have hBw49_w9 := hb
                        replace hS := (((hS.nil).cons (hS.get 5 rfl)).cons (hS.get 4 rfl)).cons (hS.get 3 rfl)
                        have hBw49_w49 := Below.refl w49.heap.size w49
                        obtain ⟨A50, C50, rfl, hl50, hc50⟩ := Kd.R_reads hr
                        have hr50 := hr
                        clear hr
                        replace hS := hS.put (v := .slice A50 (((((([IntKind.u8.wrap a0_0, 18] ++ t15 : List Int) ++ [IntKind.u8.wrap a0_1, 0] : List Int) ++ t30 : List Int) ++ t38 : List Int) ++ [0, 0, 0, 0] : List Int).length) C50) (d := 44) (by decide) (by rfl)
                        refine list_step rfl (R := fun v w' => Below _ _ w' ∧ (IsV (.slice A50 (((((([IntKind.u8.wrap a0_0, 18] ++ t15 : List Int) ++ [IntKind.u8.wrap a0_1, 0] : List Int) ++ t30 : List Int) ++ t38 : List Int) ++ [0, 0, 0, 0] : List Int).length) C50)) v w') (does_val (x_assign rfl (hS.get 0 rfl)) rfl) ?_
                        rintro vw51 w51 ⟨hb, he⟩
                        have hBw51_w := below_step hBw49_w hb
                        have hBw51_w3 := below_step hBw49_w3 hb
                        have hBw51_w9 := below_step hBw49_w9 hb
                        have hBw51_w49 := below_step hBw49_w49 hb
                        have hBw51_w51 := Below.refl w51.heap.size w51
                        obtain rfl : vw51 = .slice A50 (((((([IntKind.u8.wrap a0_0, 18] ++ t15 : List Int) ++ [IntKind.u8.wrap a0_1, 0] : List Int) ++ t30 : List Int) ++ t38 : List Int) ++ [0, 0, 0, 0] : List Int).length) C50 := he
                        replace hS := hS.put (v := .slice A50 (((((([IntKind.u8.wrap a0_0, 18] ++ t15 : List Int) ++ [IntKind.u8.wrap a0_1, 0] : List Int) ++ t30 : List Int) ++ t38 : List Int) ++ [0, 0, 0, 0] : List Int).length) C50) (d := 5) (by decide) (by rfl)
                        refine wpList_nil ?_
                        refine hK45 _ _ ?_
                        clear hK45 K45
                        refine wp_seq_k (fun K52 hK52 => ?_)
                        refine reg_seq_tail 4 (N := 74) (bs := [(5, .slice A50 (((((([IntKind.u8.wrap a0_0, 18] ++ t15 : List Int) ++ [IntKind.u8.wrap a0_1, 0] : List Int) ++ t30 : List Int) ++ t38 : List Int) ++ [0, 0, 0, 0] : List Int).length) C50), (44, .slice A50 (((((([IntKind.u8.wrap a0_0, 18] ++ t15 : List Int) ++ [IntKind.u8.wrap a0_1, 0] : List Int) ++ t30 : List Int) ++ t38 : List Int) ++ [0, 0, 0, 0] : List Int).length) C50), (17, .bool (decide (a1 > 400))), (4, .slice none 0 0), (2, .pointer (some ⟨g4, 0, none⟩))]) (I := fun x => Below w.heap.size w x ∧ Below w3.heap.size w3 x ∧ Below w9.heap.size w9 x ∧ Below w49.heap.size w49 x ∧ Below w51.heap.size w51 x) (ps := [IsV (.slice A50 (((((([IntKind.u8.wrap a0_0, 18] ++ t15 : List Int) ++ [IntKind.u8.wrap a0_1, 0] : List Int) ++ t30 : List Int) ++ t38 : List Int) ++ [0, 0, 0, 0] : List Int).length) C50), IsV (.pointer (some ⟨g4, 4, none⟩)), IsV (.agg #[.int .u64 a0_4, .int .i64 a0_5]), IsR (Kd.int .u8) 5 w51.heap.size t53]) (by kernel_rfl) ?_ ?_ rfl hS ⟨hBw51_w, hBw51_w3, hBw51_w9, hBw51_w49, hBw51_w51⟩ ?_ ?_
                        · exact fun x y hI hb => ⟨below_step hI.1 hb, below_step hI.2.1 hb, below_step hI.2.2.1 hb, below_step hI.2.2.2.1 hb, below_step hI.2.2.2.2 hb⟩
                        · exact AllStay.cons (Stays.v _) (AllStay.cons (Stays.v _) (AllStay.cons (Stays.v _) (AllStay.cons (Stays.r _ _ _ _) (AllStay.nil))))
                        · refine Steps.cons (fun a w hS hI hp => ok_on rfl (does_val (x_move rfl (hS.get 0 rfl)) rfl)) ?_
                          refine Steps.cons (fun a w hS hI hp => ok_on rfl (does_val (x_field rfl (hS.get 4 rfl) Try.underlying28 rfl (by kernel_rfl)) rfl)) ?_
                          refine Steps.cons (fun a w hS hI hp => ok_on rfl (does_loadmid (cs := [.int .u64 a0_4, .int .i64 a0_5]) rfl ((hp.get 1 (by rfl) rfl rfl)) (((hI.2.1).block g4 (blk_lt hbxg4)).trans hbxg4) rfl Try.underlying24 rfl (by kernel_rfl) rfl)) ?_
                          refine Steps.cons (fun a w hS hI hp => ok_on rfl (does_call (by kernel_rfl) (ar1 ((hp.get 2 (by rfl) rfl rfl))) ((carillonref04_Put.calls k a0_4 a0_5 t53 _  At53).mono fun _ _ h => h.elim fun v0 h => ⟨v0, h.1, h.2.2, Kd.R_lower h.2.1 hI.2.2.2.2.size⟩))) ?_
                          exact Steps.nil
                        clear hS
                        intro at54 w55 hS hI hp
                        have hBw55_w := hI.1
                        have hBw55_w3 := hI.2.1
                        have hBw55_w9 := hI.2.2.1
                        have hBw55_w49 := hI.2.2.2.1
                        have hBw55_w51 := hI.2.2.2.2
                        replace hS := ((((hS.nil).cons (hS.get 4 rfl)).cons (hS.get 3 rfl)).cons (hS.get 2 rfl)).cons (hS.get 0 rfl)
                        have hv45 : sl _ 45 = .slice A50 (((((([IntKind.u8.wrap a0_0, 18] ++ t15 : List Int) ++ [IntKind.u8.wrap a0_1, 0] : List Int) ++ t30 : List Int) ++ t38 : List Int) ++ [0, 0, 0, 0] : List Int).length) C50 := hp 0 (by decide)
                        obtain ⟨A56, C56, hv48, hl56, hc56⟩ := Kd.R_reads (show Kd.R (Kd.int .u8) 5 w55 w51.heap.size (fun _ => True) (sl _ 48) t53 from hp 3 (by decide))
                        have ho56 : Kd.R (Kd.int .u8) 5 w55 w51.heap.size (fun _ => True) (.slice A56 t53.length C56) t53 := hv48 ▸ (hp 3 (by decide))
                        have hBw55_w55 := Below.refl w55.heap.size w55
                        have hS := hS.cons hv45
                        have hS := hS.cons hv48
                        clear hp hI hv45 hv48
                        show wpList _ _ _ [_, _] _ _
                        refine list_step rfl (does_more (W := w9) (.tmp 45) (.tmp 48) 29 5 1 rfl (by kernel_rfl) (by kernel_rfl) (by decide) _ ((((([IntKind.u8.wrap a0_0, 18] ++ t15 : List Int) ++ [IntKind.u8.wrap a0_1, 0] : List Int) ++ t30 : List Int) ++ t38 : List Int) ++ [0, 0, 0, 0] : List Int) t53 _ _ (hS.get 1 rfl) (hS.get 0 rfl) (Kd.R_below hr50 hBw55_w49) (Kd.C_below hc56 hBw55_w55) hBw55_w9 c9) ?_
                        rintro vw57 w57 ⟨hb, hr⟩
                        have hBw57_w := below_step hBw9_w hb
                        have hBw57_w3 := below_step hBw9_w3 hb
                        have hBw57_w9 := hb
                        replace hS := (((hS.nil).cons (hS.get 5 rfl)).cons (hS.get 4 rfl)).cons (hS.get 3 rfl)
                        have hBw57_w57 := Below.refl w57.heap.size w57
                        obtain ⟨A58, C58, rfl, hl58, hc58⟩ := Kd.R_reads hr
                        have hr58 := hr
                        clear hr
                        replace hS := hS.put (v := .slice A58 ((((((([IntKind.u8.wrap a0_0, 18] ++ t15 : List Int) ++ [IntKind.u8.wrap a0_1, 0] : List Int) ++ t30 : List Int) ++ t38 : List Int) ++ [0, 0, 0, 0] : List Int) ++ t53 : List Int).length) C58) (d := 49) (by decide) (by rfl)
                        refine list_step rfl (R := fun v w' => Below _ _ w' ∧ (IsV (.slice A58 ((((((([IntKind.u8.wrap a0_0, 18] ++ t15 : List Int) ++ [IntKind.u8.wrap a0_1, 0] : List Int) ++ t30 : List Int) ++ t38 : List Int) ++ [0, 0, 0, 0] : List Int) ++ t53 : List Int).length) C58)) v w') (does_val (x_assign rfl (hS.get 0 rfl)) rfl) ?_
                        rintro vw59 w59 ⟨hb, he⟩
                        have hBw59_w := below_step hBw57_w hb
                        have hBw59_w3 := below_step hBw57_w3 hb
                        have hBw59_w9 := below_step hBw57_w9 hb
                        have hBw59_w57 := below_step hBw57_w57 hb
                        have hBw59_w59 := Below.refl w59.heap.size w59
                        obtain rfl : vw59 = .slice A58 ((((((([IntKind.u8.wrap a0_0, 18] ++ t15 : List Int) ++ [IntKind.u8.wrap a0_1, 0] : List Int) ++ t30 : List Int) ++ t38 : List Int) ++ [0, 0, 0, 0] : List Int) ++ t53 : List Int).length) C58 := he
                        replace hS := hS.put (v := .slice A58 ((((((([IntKind.u8.wrap a0_0, 18] ++ t15 : List Int) ++ [IntKind.u8.wrap a0_1, 0] : List Int) ++ t30 : List Int) ++ t38 : List Int) ++ [0, 0, 0, 0] : List Int) ++ t53 : List Int).length) C58) (d := 5) (by decide) (by rfl)
                        refine wpList_nil ?_
                        refine hK52 _ _ ?_
                        clear hK52 K52
                        refine wp_seq_k (fun K60 hK60 => ?_)
                        refine reg_seq_tail 4 (N := 74) (bs := [(5, .slice A58 ((((((([IntKind.u8.wrap a0_0, 18] ++ t15 : List Int) ++ [IntKind.u8.wrap a0_1, 0] : List Int) ++ t30 : List Int) ++ t38 : List Int) ++ [0, 0, 0, 0] : List Int) ++ t53 : List Int).length) C58), (49, .slice A58 ((((((([IntKind.u8.wrap a0_0, 18] ++ t15 : List Int) ++ [IntKind.u8.wrap a0_1, 0] : List Int) ++ t30 : List Int) ++ t38 : List Int) ++ [0, 0, 0, 0] : List Int) ++ t53 : List Int).length) C58), (17, .bool (decide (a1 > 400))), (4, .slice none 0 0), (2, .pointer (some ⟨g4, 0, none⟩))]) (I := fun x => Below w.heap.size w x ∧ Below w3.heap.size w3 x ∧ Below w9.heap.size w9 x ∧ Below w57.heap.size w57 x ∧ Below w59.heap.size w59 x) (ps := [IsV (.slice A58 ((((((([IntKind.u8.wrap a0_0, 18] ++ t15 : List Int) ++ [IntKind.u8.wrap a0_1, 0] : List Int) ++ t30 : List Int) ++ t38 : List Int) ++ [0, 0, 0, 0] : List Int) ++ t53 : List Int).length) C58), IsV (.pointer (some ⟨g4, 6, none⟩)), IsV (.int .i64 a0_6), IsR (Kd.int .u8) 5 w59.heap.size t61]) (by kernel_rfl) ?_ ?_ rfl hS ⟨hBw59_w, hBw59_w3, hBw59_w9, hBw59_w57, hBw59_w59⟩ ?_ ?_
                        · exact fun x y hI hb => ⟨below_step hI.1 hb, below_step hI.2.1 hb, below_step hI.2.2.1 hb, below_step hI.2.2.2.1 hb, below_step hI.2.2.2.2 hb⟩
                        · exact AllStay.cons (Stays.v _) (AllStay.cons (Stays.v _) (AllStay.cons (Stays.v _) (AllStay.cons (Stays.r _ _ _ _) (AllStay.nil))))
                        · refine Steps.cons (fun a w hS hI hp => ok_on rfl (does_val (x_move rfl (hS.get 0 rfl)) rfl)) ?_
                          refine Steps.cons (fun a w hS hI hp => ok_on rfl (does_val (x_field rfl (hS.get 4 rfl) Try.underlying28 rfl (by kernel_rfl)) rfl)) ?_
                          refine Steps.cons (fun a w hS hI hp => ok_on rfl (does_val (x_load1 (d := .int .i64) rfl ((hp.get 1 (by rfl) rfl rfl)) (by kernel_rfl) rfl ((blk_cell (((hI.2.1).block g4 (blk_lt hbxg4)).trans hbxg4) 6).trans rfl)) rfl)) ?_
                          refine Steps.cons (fun a w hS hI hp => ok_on rfl (does_call (by kernel_rfl) (ar2 ((hp.get 2 (by rfl) rfl rfl)) (rfl)) ((carillonref01_Put.calls k a0_6 2 t61 _  At61).mono fun _ _ h => h.elim fun v0 h => ⟨v0, h.1, h.2.2, Kd.R_lower h.2.1 hI.2.2.2.2.size⟩))) ?_
                          exact Steps.nil
                        clear hS
                        intro at62 w63 hS hI hp
                        have hBw63_w := hI.1
                        have hBw63_w3 := hI.2.1
                        have hBw63_w9 := hI.2.2.1
                        have hBw63_w57 := hI.2.2.2.1
                        have hBw63_w59 := hI.2.2.2.2
                        replace hS := ((((hS.nil).cons (hS.get 4 rfl)).cons (hS.get 3 rfl)).cons (hS.get 2 rfl)).cons (hS.get 0 rfl)
                        have hv50 : sl _ 50 = .slice A58 ((((((([IntKind.u8.wrap a0_0, 18] ++ t15 : List Int) ++ [IntKind.u8.wrap a0_1, 0] : List Int) ++ t30 : List Int) ++ t38 : List Int) ++ [0, 0, 0, 0] : List Int) ++ t53 : List Int).length) C58 := hp 0 (by decide)
                        obtain ⟨A64, C64, hv53, hl64, hc64⟩ := Kd.R_reads (show Kd.R (Kd.int .u8) 5 w63 w59.heap.size (fun _ => True) (sl _ 53) t61 from hp 3 (by decide))
                        have ho64 : Kd.R (Kd.int .u8) 5 w63 w59.heap.size (fun _ => True) (.slice A64 t61.length C64) t61 := hv53 ▸ (hp 3 (by decide))
                        have hBw63_w63 := Below.refl w63.heap.size w63
                        have hS := hS.cons hv50
                        have hS := hS.cons hv53
                        clear hp hI hv50 hv53
                        show wpList _ _ _ [_, _] _ _
                        refine list_step rfl (does_more (W := w9) (.tmp 50) (.tmp 53) 29 5 1 rfl (by kernel_rfl) (by kernel_rfl) (by decide) _ (((((([IntKind.u8.wrap a0_0, 18] ++ t15 : List Int) ++ [IntKind.u8.wrap a0_1, 0] : List Int) ++ t30 : List Int) ++ t38 : List Int) ++ [0, 0, 0, 0] : List Int) ++ t53 : List Int) t61 _ _ (hS.get 1 rfl) (hS.get 0 rfl) (Kd.R_below hr58 hBw63_w57) (Kd.C_below hc64 hBw63_w63) hBw63_w9 c10) ?_
                        rintro vw65 w65 ⟨hb, hr⟩
                        have hBw65_w := below_step hBw9_w hb
                        have hBw65_w3 := below_step hBw9_w3 hb
                        have hBw65_w9 := hb
                        replace hS := (((hS.nil).cons (hS.get 5 rfl)).cons (hS.get 4 rfl)).cons (hS.get 3 rfl)
                        have hBw65_w65 := Below.refl w65.heap.size w65
                        obtain ⟨A66, C66, rfl, hl66, hc66⟩ := Kd.R_reads hr
                        have hr66 := hr
                        clear hr
                        replace hS := hS.put (v := .slice A66 (((((((([IntKind.u8.wrap a0_0, 18] ++ t15 : List Int) ++ [IntKind.u8.wrap a0_1, 0] : List Int) ++ t30 : List Int) ++ t38 : List Int) ++ [0, 0, 0, 0] : List Int) ++ t53 : List Int) ++ t61 : List Int).length) C66) (d := 54) (by decide) (by rfl)
                        refine list_step rfl (R := fun v w' => Below _ _ w' ∧ (IsV (.slice A66 (((((((([IntKind.u8.wrap a0_0, 18] ++ t15 : List Int) ++ [IntKind.u8.wrap a0_1, 0] : List Int) ++ t30 : List Int) ++ t38 : List Int) ++ [0, 0, 0, 0] : List Int) ++ t53 : List Int) ++ t61 : List Int).length) C66)) v w') (does_val (x_assign rfl (hS.get 0 rfl)) rfl) ?_
                        rintro vw67 w67 ⟨hb, he⟩
                        have hBw67_w := below_step hBw65_w hb
                        have hBw67_w3 := below_step hBw65_w3 hb
                        have hBw67_w9 := below_step hBw65_w9 hb
                        have hBw67_w65 := below_step hBw65_w65 hb
                        have hBw67_w67 := Below.refl w67.heap.size w67
                        obtain rfl : vw67 = .slice A66 (((((((([IntKind.u8.wrap a0_0, 18] ++ t15 : List Int) ++ [IntKind.u8.wrap a0_1, 0] : List Int) ++ t30 : List Int) ++ t38 : List Int) ++ [0, 0, 0, 0] : List Int) ++ t53 : List Int) ++ t61 : List Int).length) C66 := he
                        replace hS := hS.put (v := .slice A66 (((((((([IntKind.u8.wrap a0_0, 18] ++ t15 : List Int) ++ [IntKind.u8.wrap a0_1, 0] : List Int) ++ t30 : List Int) ++ t38 : List Int) ++ [0, 0, 0, 0] : List Int) ++ t53 : List Int) ++ t61 : List Int).length) C66) (d := 5) (by decide) (by rfl)
                        refine wpList_nil ?_
                        refine hK60 _ _ ?_
                        clear hK60 K60
                        refine wp_seq_k (fun K68 hK68 => ?_)
                        refine reg_seq (N := 74) (bs := [(5, .slice A66 (((((((([IntKind.u8.wrap a0_0, 18] ++ t15 : List Int) ++ [IntKind.u8.wrap a0_1, 0] : List Int) ++ t30 : List Int) ++ t38 : List Int) ++ [0, 0, 0, 0] : List Int) ++ t53 : List Int) ++ t61 : List Int).length) C66), (54, .slice A66 (((((((([IntKind.u8.wrap a0_0, 18] ++ t15 : List Int) ++ [IntKind.u8.wrap a0_1, 0] : List Int) ++ t30 : List Int) ++ t38 : List Int) ++ [0, 0, 0, 0] : List Int) ++ t53 : List Int) ++ t61 : List Int).length) C66), (17, .bool (decide (a1 > 400))), (4, .slice none 0 0), (2, .pointer (some ⟨g4, 0, none⟩))]) (I := fun x => Below w.heap.size w x ∧ Below w3.heap.size w3 x ∧ Below w9.heap.size w9 x ∧ Below w65.heap.size w65 x ∧ Below w67.heap.size w67 x) (ps := [IsV (.int .u8 5)]) (by kernel_rfl) ?_ ?_ rfl hS ⟨hBw67_w, hBw67_w3, hBw67_w9, hBw67_w65, hBw67_w67⟩ ?_ ?_
                        · exact fun x y hI hb => ⟨below_step hI.1 hb, below_step hI.2.1 hb, below_step hI.2.2.1 hb, below_step hI.2.2.2.1 hb, below_step hI.2.2.2.2 hb⟩
                        · exact AllStay.cons (Stays.v _) (AllStay.nil)
                        · refine Steps.cons (fun a w hS hI hp => ok_on rfl (does_val (x_assign rfl (rfl)) rfl)) ?_
                          exact Steps.nil
                        clear hS
                        intro at69 w70 hS hI hp
                        have hBw70_w := hI.1
                        have hBw70_w3 := hI.2.1
                        have hBw70_w9 := hI.2.2.1
                        have hBw70_w65 := hI.2.2.2.1
                        have hBw70_w67 := hI.2.2.2.2
                        replace hS := ((((hS.nil).cons (hS.get 4 rfl)).cons (hS.get 3 rfl)).cons (hS.get 2 rfl)).cons (hS.get 0 rfl)
                        have hv6 : sl _ 6 = .int .u8 5 := hp 0 (by decide)
                        have hBw70_w70 := Below.refl w70.heap.size w70
                        have hS := hS.cons hv6
                        clear hp hI hv6
                        refine hK68 _ _ ?_
                        clear hK68 K68
                        refine wp_seq_k (fun K71 hK71 => ?_)
                        refine wp_mono (Q := fun e a' w' => e = Exit.normal ∧ St 74 [(2, .pointer (some ⟨g4, 0, none⟩)), (4, .slice none 0 0), (5, .slice A66 (((((((([IntKind.u8.wrap a0_0, 18] ++ t15 : List Int) ++ [IntKind.u8.wrap a0_1, 0] : List Int) ++ t30 : List Int) ++ t38 : List Int) ++ [0, 0, 0, 0] : List Int) ++ t53 : List Int) ++ t61 : List Int).length) C66), (6, .int .u8 (if a0_0 = 0 then 0 else (if a0_0 = 1 then 1 else (if a0_0 = 8 then 2 else (if a0_0 = 9 then 3 else (if a0_0 = 13 then 4 else 5)))))), (17, .bool (decide (a1 > 400))), (57, .bool (decide (a0_0 = 0)))] a' ∧ Below w.heap.size w w' ∧ Below w3.heap.size w3 w' ∧ Below w9.heap.size w9 w' ∧ Below w65.heap.size w65 w' ∧ Below w70.heap.size w70 w') ?_ ?_
                        · by_cases d72_0 : a0_0 = 0
                          · refine wp_seq_k (fun K79 hK79 => ?_)
                            refine reg_seq (N := 74) (bs := [(6, .int .u8 5), (5, .slice A66 (((((((([IntKind.u8.wrap a0_0, 18] ++ t15 : List Int) ++ [IntKind.u8.wrap a0_1, 0] : List Int) ++ t30 : List Int) ++ t38 : List Int) ++ [0, 0, 0, 0] : List Int) ++ t53 : List Int) ++ t61 : List Int).length) C66), (17, .bool (decide (a1 > 400))), (4, .slice none 0 0), (2, .pointer (some ⟨g4, 0, none⟩))]) (I := fun x => Below w.heap.size w x ∧ Below w3.heap.size w3 x ∧ Below w9.heap.size w9 x ∧ Below w65.heap.size w65 x ∧ Below w70.heap.size w70 x) (ps := [IsV (.pointer (some ⟨g4, 0, none⟩)), IsV (.int .i64 a0_0)]) (by kernel_rfl) ?_ ?_ rfl hS ⟨hBw70_w, hBw70_w3, hBw70_w9, hBw70_w65, hBw70_w70⟩ ?_ ?_
                            · exact fun x y hI hb => ⟨below_step hI.1 hb, below_step hI.2.1 hb, below_step hI.2.2.1 hb, below_step hI.2.2.2.1 hb, below_step hI.2.2.2.2 hb⟩
                            · exact AllStay.cons (Stays.v _) (AllStay.cons (Stays.v _) (AllStay.nil))
                            · refine Steps.cons (fun a w hS hI hp => ok_on rfl (does_val (x_field rfl (hS.get 4 rfl) Try.underlying28 rfl (by kernel_rfl)) rfl)) ?_
                              refine Steps.cons (fun a w hS hI hp => ok_on rfl (does_val (x_load1 (d := .int .i64) rfl ((hp.get 0 (by rfl) rfl rfl)) (by kernel_rfl) rfl ((blk_cell (((hI.2.1).block g4 (blk_lt hbxg4)).trans hbxg4) 0).trans rfl)) rfl)) ?_
                              exact Steps.nil
                            clear hS
                            intro at80 w81 hS hI hp
                            have hBw81_w := hI.1
                            have hBw81_w3 := hI.2.1
                            have hBw81_w9 := hI.2.2.1
                            have hBw81_w65 := hI.2.2.2.1
                            have hBw81_w70 := hI.2.2.2.2
                            have hv56 : sl _ 56 = .int .i64 a0_0 := hp 1 (by decide)
                            have hBw81_w81 := Below.refl w81.heap.size w81
                            have hS := hS.cons hv56
                            clear hp hI hv56
                            refine hK79 _ _ ?_
                            clear hK79 K79
                            refine wp_block ?_
                            refine wp_seq_k (fun K82 hK82 => ?_)
                            refine reg_seq (N := 74) (bs := [(56, .int .i64 a0_0), (6, .int .u8 5), (5, .slice A66 (((((((([IntKind.u8.wrap a0_0, 18] ++ t15 : List Int) ++ [IntKind.u8.wrap a0_1, 0] : List Int) ++ t30 : List Int) ++ t38 : List Int) ++ [0, 0, 0, 0] : List Int) ++ t53 : List Int) ++ t61 : List Int).length) C66), (17, .bool (decide (a1 > 400))), (4, .slice none 0 0), (2, .pointer (some ⟨g4, 0, none⟩))]) (I := fun x => Below w.heap.size w x ∧ Below w3.heap.size w3 x ∧ Below w9.heap.size w9 x ∧ Below w65.heap.size w65 x ∧ Below w70.heap.size w70 x ∧ Below w81.heap.size w81 x) (ps := [IsV (.bool (decide (a0_0 = 0))), IsV (.bool (decide (a0_0 = 0)))]) (by kernel_rfl) ?_ ?_ rfl hS ⟨hBw81_w, hBw81_w3, hBw81_w9, hBw81_w65, hBw81_w70, hBw81_w81⟩ ?_ ?_
                            · exact fun x y hI hb => ⟨below_step hI.1 hb, below_step hI.2.1 hb, below_step hI.2.2.1 hb, below_step hI.2.2.2.1 hb, below_step hI.2.2.2.2.1 hb, below_step hI.2.2.2.2.2 hb⟩
                            · exact AllStay.cons (Stays.v _) (AllStay.cons (Stays.v _) (AllStay.nil))
                            · refine Steps.cons (fun a w hS hI hp => ok_on rfl (does_val (x_bin rfl (hS.get 0 rfl) (rfl) (b_eql _ _ _ _ _ _)) rfl)) ?_
                              refine Steps.cons (fun a w hS hI hp => ok_on rfl (does_val (x_assign rfl ((hp.get 0 (by rfl) rfl rfl))) rfl)) ?_
                              exact Steps.nil
                            clear hS
                            intro at83 w84 hS hI hp
                            have hBw84_w := hI.1
                            have hBw84_w3 := hI.2.1
                            have hBw84_w9 := hI.2.2.1
                            have hBw84_w65 := hI.2.2.2.1
                            have hBw84_w70 := hI.2.2.2.2.1
                            have hBw84_w81 := hI.2.2.2.2.2
                            have hv57 : sl _ 57 = .bool (decide (a0_0 = 0)) := hp 1 (by decide)
                            have hBw84_w84 := Below.refl w84.heap.size w84
                            have hS := hS.cons hv57
                            clear hp hI hv57
                            refine hK82 _ _ ?_
                            clear hK82 K82
                            refine wp_cond_true ((hS.get 0 rfl).trans (bT (decide_eq_true d72_0))) ?_
                            replace hS := ((((((hS.nil).cons (hS.get 6 rfl)).cons (hS.get 5 rfl)).cons (hS.get 4 rfl)).cons (hS.get 3 rfl)).cons (hS.get 1 rfl)).cons (hS.get 0 rfl)
                            refine reg_seq (N := 74) (bs := [(57, .bool (decide (a0_0 = 0))), (56, .int .i64 a0_0), (5, .slice A66 (((((((([IntKind.u8.wrap a0_0, 18] ++ t15 : List Int) ++ [IntKind.u8.wrap a0_1, 0] : List Int) ++ t30 : List Int) ++ t38 : List Int) ++ [0, 0, 0, 0] : List Int) ++ t53 : List Int) ++ t61 : List Int).length) C66), (17, .bool (decide (a1 > 400))), (4, .slice none 0 0), (2, .pointer (some ⟨g4, 0, none⟩))]) (I := fun x => Below w.heap.size w x ∧ Below w3.heap.size w3 x ∧ Below w9.heap.size w9 x ∧ Below w65.heap.size w65 x ∧ Below w70.heap.size w70 x ∧ Below w84.heap.size w84 x) (ps := [IsV (.int .u8 0)]) (by kernel_rfl) ?_ ?_ rfl hS ⟨hBw84_w, hBw84_w3, hBw84_w9, hBw84_w65, hBw84_w70, hBw84_w84⟩ ?_ ?_
                            · exact fun x y hI hb => ⟨below_step hI.1 hb, below_step hI.2.1 hb, below_step hI.2.2.1 hb, below_step hI.2.2.2.1 hb, below_step hI.2.2.2.2.1 hb, below_step hI.2.2.2.2.2 hb⟩
                            · exact AllStay.cons (Stays.v _) (AllStay.nil)
                            · refine Steps.cons (fun a w hS hI hp => ok_on rfl (does_val (x_assign rfl (rfl)) rfl)) ?_
                              exact Steps.nil
                            clear hS
                            intro at85 w86 hS hI hp
                            have hBw86_w := hI.1
                            have hBw86_w3 := hI.2.1
                            have hBw86_w9 := hI.2.2.1
                            have hBw86_w65 := hI.2.2.2.1
                            have hBw86_w70 := hI.2.2.2.2.1
                            have hBw86_w84 := hI.2.2.2.2.2
                            have hv6 : sl _ 6 = .int .u8 0 := hp 0 (by decide)
                            have hBw86_w86 := Below.refl w86.heap.size w86
                            have hS := hS.cons hv6
                            clear hp hI hv6
                            (try simp only [Exit.then, Exit.inBlock, reduceIte])
                            exact ⟨by trivial, ((((((hS.nil).cons (hS.get 1 rfl)).cons (hS.get 4 rfl)).cons ((hS.get 0 rfl).trans (congrArg (Value.int .u8) (by simp only [if_pos d72_0])))).cons (hS.get 3 rfl)).cons (hS.get 5 rfl)).cons (hS.get 6 rfl), hBw86_w, hBw86_w3, hBw86_w9, hBw86_w65, hBw86_w70⟩
                          · by_cases d72_1 : a0_0 = 1
                            · refine wp_seq_k (fun K96 hK96 => ?_)
                              refine reg_seq (N := 74) (bs := [(6, .int .u8 5), (5, .slice A66 (((((((([IntKind.u8.wrap a0_0, 18] ++ t15 : List Int) ++ [IntKind.u8.wrap a0_1, 0] : List Int) ++ t30 : List Int) ++ t38 : List Int) ++ [0, 0, 0, 0] : List Int) ++ t53 : List Int) ++ t61 : List Int).length) C66), (17, .bool (decide (a1 > 400))), (4, .slice none 0 0), (2, .pointer (some ⟨g4, 0, none⟩))]) (I := fun x => Below w.heap.size w x ∧ Below w3.heap.size w3 x ∧ Below w9.heap.size w9 x ∧ Below w65.heap.size w65 x ∧ Below w70.heap.size w70 x) (ps := [IsV (.pointer (some ⟨g4, 0, none⟩)), IsV (.int .i64 a0_0)]) (by kernel_rfl) ?_ ?_ rfl hS ⟨hBw70_w, hBw70_w3, hBw70_w9, hBw70_w65, hBw70_w70⟩ ?_ ?_
                              · exact fun x y hI hb => ⟨below_step hI.1 hb, below_step hI.2.1 hb, below_step hI.2.2.1 hb, below_step hI.2.2.2.1 hb, below_step hI.2.2.2.2 hb⟩
                              · exact AllStay.cons (Stays.v _) (AllStay.cons (Stays.v _) (AllStay.nil))
                              · refine Steps.cons (fun a w hS hI hp => ok_on rfl (does_val (x_field rfl (hS.get 4 rfl) Try.underlying28 rfl (by kernel_rfl)) rfl)) ?_
                                refine Steps.cons (fun a w hS hI hp => ok_on rfl (does_val (x_load1 (d := .int .i64) rfl ((hp.get 0 (by rfl) rfl rfl)) (by kernel_rfl) rfl ((blk_cell (((hI.2.1).block g4 (blk_lt hbxg4)).trans hbxg4) 0).trans rfl)) rfl)) ?_
                                exact Steps.nil
                              clear hS
                              intro at97 w98 hS hI hp
                              have hBw98_w := hI.1
                              have hBw98_w3 := hI.2.1
                              have hBw98_w9 := hI.2.2.1
                              have hBw98_w65 := hI.2.2.2.1
                              have hBw98_w70 := hI.2.2.2.2
                              have hv56 : sl _ 56 = .int .i64 a0_0 := hp 1 (by decide)
                              have hBw98_w98 := Below.refl w98.heap.size w98
                              have hS := hS.cons hv56
                              clear hp hI hv56
                              refine hK96 _ _ ?_
                              clear hK96 K96
                              refine wp_block ?_
                              refine wp_seq_k (fun K99 hK99 => ?_)
                              refine reg_seq (N := 74) (bs := [(56, .int .i64 a0_0), (6, .int .u8 5), (5, .slice A66 (((((((([IntKind.u8.wrap a0_0, 18] ++ t15 : List Int) ++ [IntKind.u8.wrap a0_1, 0] : List Int) ++ t30 : List Int) ++ t38 : List Int) ++ [0, 0, 0, 0] : List Int) ++ t53 : List Int) ++ t61 : List Int).length) C66), (17, .bool (decide (a1 > 400))), (4, .slice none 0 0), (2, .pointer (some ⟨g4, 0, none⟩))]) (I := fun x => Below w.heap.size w x ∧ Below w3.heap.size w3 x ∧ Below w9.heap.size w9 x ∧ Below w65.heap.size w65 x ∧ Below w70.heap.size w70 x ∧ Below w98.heap.size w98 x) (ps := [IsV (.bool (decide (a0_0 = 0))), IsV (.bool (decide (a0_0 = 0)))]) (by kernel_rfl) ?_ ?_ rfl hS ⟨hBw98_w, hBw98_w3, hBw98_w9, hBw98_w65, hBw98_w70, hBw98_w98⟩ ?_ ?_
                              · exact fun x y hI hb => ⟨below_step hI.1 hb, below_step hI.2.1 hb, below_step hI.2.2.1 hb, below_step hI.2.2.2.1 hb, below_step hI.2.2.2.2.1 hb, below_step hI.2.2.2.2.2 hb⟩
                              · exact AllStay.cons (Stays.v _) (AllStay.cons (Stays.v _) (AllStay.nil))
                              · refine Steps.cons (fun a w hS hI hp => ok_on rfl (does_val (x_bin rfl (hS.get 0 rfl) (rfl) (b_eql _ _ _ _ _ _)) rfl)) ?_
                                refine Steps.cons (fun a w hS hI hp => ok_on rfl (does_val (x_assign rfl ((hp.get 0 (by rfl) rfl rfl))) rfl)) ?_
                                exact Steps.nil
                              clear hS
                              intro at100 w101 hS hI hp
                              have hBw101_w := hI.1
                              have hBw101_w3 := hI.2.1
                              have hBw101_w9 := hI.2.2.1
                              have hBw101_w65 := hI.2.2.2.1
                              have hBw101_w70 := hI.2.2.2.2.1
                              have hBw101_w98 := hI.2.2.2.2.2
                              have hv57 : sl _ 57 = .bool (decide (a0_0 = 0)) := hp 1 (by decide)
                              have hBw101_w101 := Below.refl w101.heap.size w101
                              have hS := hS.cons hv57
                              clear hp hI hv57
                              refine hK99 _ _ ?_
                              clear hK99 K99
                              refine wp_cond_false ((hS.get 0 rfl).trans (bF (decide_eq_false d72_0))) ?_
                              refine wp_seq_k (fun K102 hK102 => ?_)
                              refine reg_seq (N := 74) (bs := [(57, .bool (decide (a0_0 = 0))), (56, .int .i64 a0_0), (6, .int .u8 5), (5, .slice A66 (((((((([IntKind.u8.wrap a0_0, 18] ++ t15 : List Int) ++ [IntKind.u8.wrap a0_1, 0] : List Int) ++ t30 : List Int) ++ t38 : List Int) ++ [0, 0, 0, 0] : List Int) ++ t53 : List Int) ++ t61 : List Int).length) C66), (17, .bool (decide (a1 > 400))), (4, .slice none 0 0), (2, .pointer (some ⟨g4, 0, none⟩))]) (I := fun x => Below w.heap.size w x ∧ Below w3.heap.size w3 x ∧ Below w9.heap.size w9 x ∧ Below w65.heap.size w65 x ∧ Below w70.heap.size w70 x ∧ Below w101.heap.size w101 x) (ps := [IsV (.bool (decide (a0_0 = 1))), IsV (.bool (decide (a0_0 = 1)))]) (by kernel_rfl) ?_ ?_ rfl hS ⟨hBw101_w, hBw101_w3, hBw101_w9, hBw101_w65, hBw101_w70, hBw101_w101⟩ ?_ ?_
                              · exact fun x y hI hb => ⟨below_step hI.1 hb, below_step hI.2.1 hb, below_step hI.2.2.1 hb, below_step hI.2.2.2.1 hb, below_step hI.2.2.2.2.1 hb, below_step hI.2.2.2.2.2 hb⟩
                              · exact AllStay.cons (Stays.v _) (AllStay.cons (Stays.v _) (AllStay.nil))
                              · refine Steps.cons (fun a w hS hI hp => ok_on rfl (does_val (x_bin rfl (hS.get 1 rfl) (rfl) (b_eql _ _ _ _ _ _)) rfl)) ?_
                                refine Steps.cons (fun a w hS hI hp => ok_on rfl (does_val (x_assign rfl ((hp.get 0 (by rfl) rfl rfl))) rfl)) ?_
                                exact Steps.nil
                              clear hS
                              intro at103 w104 hS hI hp
                              have hBw104_w := hI.1
                              have hBw104_w3 := hI.2.1
                              have hBw104_w9 := hI.2.2.1
                              have hBw104_w65 := hI.2.2.2.1
                              have hBw104_w70 := hI.2.2.2.2.1
                              have hBw104_w101 := hI.2.2.2.2.2
                              have hv59 : sl _ 59 = .bool (decide (a0_0 = 1)) := hp 1 (by decide)
                              have hBw104_w104 := Below.refl w104.heap.size w104
                              have hS := hS.cons hv59
                              clear hp hI hv59
                              refine hK102 _ _ ?_
                              clear hK102 K102
                              refine wp_cond_true ((hS.get 0 rfl).trans (bT (decide_eq_true d72_1))) ?_
                              replace hS := (((((((hS.nil).cons (hS.get 7 rfl)).cons (hS.get 6 rfl)).cons (hS.get 5 rfl)).cons (hS.get 4 rfl)).cons (hS.get 2 rfl)).cons (hS.get 1 rfl)).cons (hS.get 0 rfl)
                              refine reg_seq (N := 74) (bs := [(59, .bool (decide (a0_0 = 1))), (57, .bool (decide (a0_0 = 0))), (56, .int .i64 a0_0), (5, .slice A66 (((((((([IntKind.u8.wrap a0_0, 18] ++ t15 : List Int) ++ [IntKind.u8.wrap a0_1, 0] : List Int) ++ t30 : List Int) ++ t38 : List Int) ++ [0, 0, 0, 0] : List Int) ++ t53 : List Int) ++ t61 : List Int).length) C66), (17, .bool (decide (a1 > 400))), (4, .slice none 0 0), (2, .pointer (some ⟨g4, 0, none⟩))]) (I := fun x => Below w.heap.size w x ∧ Below w3.heap.size w3 x ∧ Below w9.heap.size w9 x ∧ Below w65.heap.size w65 x ∧ Below w70.heap.size w70 x ∧ Below w104.heap.size w104 x) (ps := [IsV (.int .u8 1)]) (by kernel_rfl) ?_ ?_ rfl hS ⟨hBw104_w, hBw104_w3, hBw104_w9, hBw104_w65, hBw104_w70, hBw104_w104⟩ ?_ ?_
                              · exact fun x y hI hb => ⟨below_step hI.1 hb, below_step hI.2.1 hb, below_step hI.2.2.1 hb, below_step hI.2.2.2.1 hb, below_step hI.2.2.2.2.1 hb, below_step hI.2.2.2.2.2 hb⟩
                              · exact AllStay.cons (Stays.v _) (AllStay.nil)
                              · refine Steps.cons (fun a w hS hI hp => ok_on rfl (does_val (x_assign rfl (rfl)) rfl)) ?_
                                exact Steps.nil
                              clear hS
                              intro at105 w106 hS hI hp
                              have hBw106_w := hI.1
                              have hBw106_w3 := hI.2.1
                              have hBw106_w9 := hI.2.2.1
                              have hBw106_w65 := hI.2.2.2.1
                              have hBw106_w70 := hI.2.2.2.2.1
                              have hBw106_w104 := hI.2.2.2.2.2
                              have hv6 : sl _ 6 = .int .u8 1 := hp 0 (by decide)
                              have hBw106_w106 := Below.refl w106.heap.size w106
                              have hS := hS.cons hv6
                              clear hp hI hv6
                              (try simp only [Exit.then, Exit.inBlock, reduceIte])
                              exact ⟨by trivial, ((((((hS.nil).cons (hS.get 2 rfl)).cons (hS.get 5 rfl)).cons ((hS.get 0 rfl).trans (congrArg (Value.int .u8) (by simp only [if_neg d72_0, if_pos d72_1])))).cons (hS.get 4 rfl)).cons (hS.get 6 rfl)).cons (hS.get 7 rfl), hBw106_w, hBw106_w3, hBw106_w9, hBw106_w65, hBw106_w70⟩
                            · by_cases d72_2 : a0_0 = 8
                              · refine wp_seq_k (fun K119 hK119 => ?_)
                                refine reg_seq (N := 74) (bs := [(6, .int .u8 5), (5, .slice A66 (((((((([IntKind.u8.wrap a0_0, 18] ++ t15 : List Int) ++ [IntKind.u8.wrap a0_1, 0] : List Int) ++ t30 : List Int) ++ t38 : List Int) ++ [0, 0, 0, 0] : List Int) ++ t53 : List Int) ++ t61 : List Int).length) C66), (17, .bool (decide (a1 > 400))), (4, .slice none 0 0), (2, .pointer (some ⟨g4, 0, none⟩))]) (I := fun x => Below w.heap.size w x ∧ Below w3.heap.size w3 x ∧ Below w9.heap.size w9 x ∧ Below w65.heap.size w65 x ∧ Below w70.heap.size w70 x) (ps := [IsV (.pointer (some ⟨g4, 0, none⟩)), IsV (.int .i64 a0_0)]) (by kernel_rfl) ?_ ?_ rfl hS ⟨hBw70_w, hBw70_w3, hBw70_w9, hBw70_w65, hBw70_w70⟩ ?_ ?_
                                · exact fun x y hI hb => ⟨below_step hI.1 hb, below_step hI.2.1 hb, below_step hI.2.2.1 hb, below_step hI.2.2.2.1 hb, below_step hI.2.2.2.2 hb⟩
                                · exact AllStay.cons (Stays.v _) (AllStay.cons (Stays.v _) (AllStay.nil))
                                · refine Steps.cons (fun a w hS hI hp => ok_on rfl (does_val (x_field rfl (hS.get 4 rfl) Try.underlying28 rfl (by kernel_rfl)) rfl)) ?_
                                  refine Steps.cons (fun a w hS hI hp => ok_on rfl (does_val (x_load1 (d := .int .i64) rfl ((hp.get 0 (by rfl) rfl rfl)) (by kernel_rfl) rfl ((blk_cell (((hI.2.1).block g4 (blk_lt hbxg4)).trans hbxg4) 0).trans rfl)) rfl)) ?_
                                  exact Steps.nil
                                clear hS
                                intro at120 w121 hS hI hp
                                have hBw121_w := hI.1
                                have hBw121_w3 := hI.2.1
                                have hBw121_w9 := hI.2.2.1
                                have hBw121_w65 := hI.2.2.2.1
                                have hBw121_w70 := hI.2.2.2.2
                                have hv56 : sl _ 56 = .int .i64 a0_0 := hp 1 (by decide)
                                have hBw121_w121 := Below.refl w121.heap.size w121
                                have hS := hS.cons hv56
                                clear hp hI hv56
                                refine hK119 _ _ ?_
                                clear hK119 K119
                                refine wp_block ?_
                                refine wp_seq_k (fun K122 hK122 => ?_)
                                refine reg_seq (N := 74) (bs := [(56, .int .i64 a0_0), (6, .int .u8 5), (5, .slice A66 (((((((([IntKind.u8.wrap a0_0, 18] ++ t15 : List Int) ++ [IntKind.u8.wrap a0_1, 0] : List Int) ++ t30 : List Int) ++ t38 : List Int) ++ [0, 0, 0, 0] : List Int) ++ t53 : List Int) ++ t61 : List Int).length) C66), (17, .bool (decide (a1 > 400))), (4, .slice none 0 0), (2, .pointer (some ⟨g4, 0, none⟩))]) (I := fun x => Below w.heap.size w x ∧ Below w3.heap.size w3 x ∧ Below w9.heap.size w9 x ∧ Below w65.heap.size w65 x ∧ Below w70.heap.size w70 x ∧ Below w121.heap.size w121 x) (ps := [IsV (.bool (decide (a0_0 = 0))), IsV (.bool (decide (a0_0 = 0)))]) (by kernel_rfl) ?_ ?_ rfl hS ⟨hBw121_w, hBw121_w3, hBw121_w9, hBw121_w65, hBw121_w70, hBw121_w121⟩ ?_ ?_
                                · exact fun x y hI hb => ⟨below_step hI.1 hb, below_step hI.2.1 hb, below_step hI.2.2.1 hb, below_step hI.2.2.2.1 hb, below_step hI.2.2.2.2.1 hb, below_step hI.2.2.2.2.2 hb⟩
                                · exact AllStay.cons (Stays.v _) (AllStay.cons (Stays.v _) (AllStay.nil))
                                · refine Steps.cons (fun a w hS hI hp => ok_on rfl (does_val (x_bin rfl (hS.get 0 rfl) (rfl) (b_eql _ _ _ _ _ _)) rfl)) ?_
                                  refine Steps.cons (fun a w hS hI hp => ok_on rfl (does_val (x_assign rfl ((hp.get 0 (by rfl) rfl rfl))) rfl)) ?_
                                  exact Steps.nil
                                clear hS
                                intro at123 w124 hS hI hp
                                have hBw124_w := hI.1
                                have hBw124_w3 := hI.2.1
                                have hBw124_w9 := hI.2.2.1
                                have hBw124_w65 := hI.2.2.2.1
                                have hBw124_w70 := hI.2.2.2.2.1
                                have hBw124_w121 := hI.2.2.2.2.2
                                have hv57 : sl _ 57 = .bool (decide (a0_0 = 0)) := hp 1 (by decide)
                                have hBw124_w124 := Below.refl w124.heap.size w124
                                have hS := hS.cons hv57
                                clear hp hI hv57
                                refine hK122 _ _ ?_
                                clear hK122 K122
                                refine wp_cond_false ((hS.get 0 rfl).trans (bF (decide_eq_false d72_0))) ?_
                                refine wp_seq_k (fun K125 hK125 => ?_)
                                refine reg_seq (N := 74) (bs := [(57, .bool (decide (a0_0 = 0))), (56, .int .i64 a0_0), (6, .int .u8 5), (5, .slice A66 (((((((([IntKind.u8.wrap a0_0, 18] ++ t15 : List Int) ++ [IntKind.u8.wrap a0_1, 0] : List Int) ++ t30 : List Int) ++ t38 : List Int) ++ [0, 0, 0, 0] : List Int) ++ t53 : List Int) ++ t61 : List Int).length) C66), (17, .bool (decide (a1 > 400))), (4, .slice none 0 0), (2, .pointer (some ⟨g4, 0, none⟩))]) (I := fun x => Below w.heap.size w x ∧ Below w3.heap.size w3 x ∧ Below w9.heap.size w9 x ∧ Below w65.heap.size w65 x ∧ Below w70.heap.size w70 x ∧ Below w124.heap.size w124 x) (ps := [IsV (.bool (decide (a0_0 = 1))), IsV (.bool (decide (a0_0 = 1)))]) (by kernel_rfl) ?_ ?_ rfl hS ⟨hBw124_w, hBw124_w3, hBw124_w9, hBw124_w65, hBw124_w70, hBw124_w124⟩ ?_ ?_
                                · exact fun x y hI hb => ⟨below_step hI.1 hb, below_step hI.2.1 hb, below_step hI.2.2.1 hb, below_step hI.2.2.2.1 hb, below_step hI.2.2.2.2.1 hb, below_step hI.2.2.2.2.2 hb⟩
                                · exact AllStay.cons (Stays.v _) (AllStay.cons (Stays.v _) (AllStay.nil))
                                · refine Steps.cons (fun a w hS hI hp => ok_on rfl (does_val (x_bin rfl (hS.get 1 rfl) (rfl) (b_eql _ _ _ _ _ _)) rfl)) ?_
                                  refine Steps.cons (fun a w hS hI hp => ok_on rfl (does_val (x_assign rfl ((hp.get 0 (by rfl) rfl rfl))) rfl)) ?_
                                  exact Steps.nil
                                clear hS
                                intro at126 w127 hS hI hp
                                have hBw127_w := hI.1
                                have hBw127_w3 := hI.2.1
                                have hBw127_w9 := hI.2.2.1
                                have hBw127_w65 := hI.2.2.2.1
                                have hBw127_w70 := hI.2.2.2.2.1
                                have hBw127_w124 := hI.2.2.2.2.2
                                have hv59 : sl _ 59 = .bool (decide (a0_0 = 1)) := hp 1 (by decide)
                                have hBw127_w127 := Below.refl w127.heap.size w127
                                have hS := hS.cons hv59
                                clear hp hI hv59
                                refine hK125 _ _ ?_
                                clear hK125 K125
                                refine wp_cond_false ((hS.get 0 rfl).trans (bF (decide_eq_false d72_1))) ?_
                                refine wp_seq_k (fun K128 hK128 => ?_)
                                refine reg_seq (N := 74) (bs := [(59, .bool (decide (a0_0 = 1))), (57, .bool (decide (a0_0 = 0))), (56, .int .i64 a0_0), (6, .int .u8 5), (5, .slice A66 (((((((([IntKind.u8.wrap a0_0, 18] ++ t15 : List Int) ++ [IntKind.u8.wrap a0_1, 0] : List Int) ++ t30 : List Int) ++ t38 : List Int) ++ [0, 0, 0, 0] : List Int) ++ t53 : List Int) ++ t61 : List Int).length) C66), (17, .bool (decide (a1 > 400))), (4, .slice none 0 0), (2, .pointer (some ⟨g4, 0, none⟩))]) (I := fun x => Below w.heap.size w x ∧ Below w3.heap.size w3 x ∧ Below w9.heap.size w9 x ∧ Below w65.heap.size w65 x ∧ Below w70.heap.size w70 x ∧ Below w127.heap.size w127 x) (ps := [IsV (.bool (decide (a0_0 = 8))), IsV (.bool (decide (a0_0 = 8)))]) (by kernel_rfl) ?_ ?_ rfl hS ⟨hBw127_w, hBw127_w3, hBw127_w9, hBw127_w65, hBw127_w70, hBw127_w127⟩ ?_ ?_
                                · exact fun x y hI hb => ⟨below_step hI.1 hb, below_step hI.2.1 hb, below_step hI.2.2.1 hb, below_step hI.2.2.2.1 hb, below_step hI.2.2.2.2.1 hb, below_step hI.2.2.2.2.2 hb⟩
                                · exact AllStay.cons (Stays.v _) (AllStay.cons (Stays.v _) (AllStay.nil))
                                · refine Steps.cons (fun a w hS hI hp => ok_on rfl (does_val (x_bin rfl (hS.get 2 rfl) (rfl) (b_eql _ _ _ _ _ _)) rfl)) ?_
                                  refine Steps.cons (fun a w hS hI hp => ok_on rfl (does_val (x_assign rfl ((hp.get 0 (by rfl) rfl rfl))) rfl)) ?_
                                  exact Steps.nil
                                clear hS
                                intro at129 w130 hS hI hp
                                have hBw130_w := hI.1
                                have hBw130_w3 := hI.2.1
                                have hBw130_w9 := hI.2.2.1
                                have hBw130_w65 := hI.2.2.2.1
                                have hBw130_w70 := hI.2.2.2.2.1
                                have hBw130_w127 := hI.2.2.2.2.2
                                have hv61 : sl _ 61 = .bool (decide (a0_0 = 8)) := hp 1 (by decide)
                                have hBw130_w130 := Below.refl w130.heap.size w130
                                have hS := hS.cons hv61
                                clear hp hI hv61
                                refine hK128 _ _ ?_
                                clear hK128 K128
                                refine wp_cond_true ((hS.get 0 rfl).trans (bT (decide_eq_true d72_2))) ?_
                                replace hS := ((((((((hS.nil).cons (hS.get 8 rfl)).cons (hS.get 7 rfl)).cons (hS.get 6 rfl)).cons (hS.get 5 rfl)).cons (hS.get 3 rfl)).cons (hS.get 2 rfl)).cons (hS.get 1 rfl)).cons (hS.get 0 rfl)
                                refine reg_seq (N := 74) (bs := [(61, .bool (decide (a0_0 = 8))), (59, .bool (decide (a0_0 = 1))), (57, .bool (decide (a0_0 = 0))), (56, .int .i64 a0_0), (5, .slice A66 (((((((([IntKind.u8.wrap a0_0, 18] ++ t15 : List Int) ++ [IntKind.u8.wrap a0_1, 0] : List Int) ++ t30 : List Int) ++ t38 : List Int) ++ [0, 0, 0, 0] : List Int) ++ t53 : List Int) ++ t61 : List Int).length) C66), (17, .bool (decide (a1 > 400))), (4, .slice none 0 0), (2, .pointer (some ⟨g4, 0, none⟩))]) (I := fun x => Below w.heap.size w x ∧ Below w3.heap.size w3 x ∧ Below w9.heap.size w9 x ∧ Below w65.heap.size w65 x ∧ Below w70.heap.size w70 x ∧ Below w130.heap.size w130 x) (ps := [IsV (.int .u8 2)]) (by kernel_rfl) ?_ ?_ rfl hS ⟨hBw130_w, hBw130_w3, hBw130_w9, hBw130_w65, hBw130_w70, hBw130_w130⟩ ?_ ?_
                                · exact fun x y hI hb => ⟨below_step hI.1 hb, below_step hI.2.1 hb, below_step hI.2.2.1 hb, below_step hI.2.2.2.1 hb, below_step hI.2.2.2.2.1 hb, below_step hI.2.2.2.2.2 hb⟩
                                · exact AllStay.cons (Stays.v _) (AllStay.nil)
                                · refine Steps.cons (fun a w hS hI hp => ok_on rfl (does_val (x_assign rfl (rfl)) rfl)) ?_
                                  exact Steps.nil
                                clear hS
                                intro at131 w132 hS hI hp
                                have hBw132_w := hI.1
                                have hBw132_w3 := hI.2.1
                                have hBw132_w9 := hI.2.2.1
                                have hBw132_w65 := hI.2.2.2.1
                                have hBw132_w70 := hI.2.2.2.2.1
                                have hBw132_w130 := hI.2.2.2.2.2
                                have hv6 : sl _ 6 = .int .u8 2 := hp 0 (by decide)
                                have hBw132_w132 := Below.refl w132.heap.size w132
                                have hS := hS.cons hv6
                                clear hp hI hv6
                                (try simp only [Exit.then, Exit.inBlock, reduceIte])
                                exact ⟨by trivial, ((((((hS.nil).cons (hS.get 3 rfl)).cons (hS.get 6 rfl)).cons ((hS.get 0 rfl).trans (congrArg (Value.int .u8) (by simp only [if_neg d72_0, if_neg d72_1, if_pos d72_2])))).cons (hS.get 5 rfl)).cons (hS.get 7 rfl)).cons (hS.get 8 rfl), hBw132_w, hBw132_w3, hBw132_w9, hBw132_w65, hBw132_w70⟩
                              · by_cases d72_3 : a0_0 = 9
                                · refine wp_seq_k (fun K148 hK148 => ?_)
                                  refine reg_seq (N := 74) (bs := [(6, .int .u8 5), (5, .slice A66 (((((((([IntKind.u8.wrap a0_0, 18] ++ t15 : List Int) ++ [IntKind.u8.wrap a0_1, 0] : List Int) ++ t30 : List Int) ++ t38 : List Int) ++ [0, 0, 0, 0] : List Int) ++ t53 : List Int) ++ t61 : List Int).length) C66), (17, .bool (decide (a1 > 400))), (4, .slice none 0 0), (2, .pointer (some ⟨g4, 0, none⟩))]) (I := fun x => Below w.heap.size w x ∧ Below w3.heap.size w3 x ∧ Below w9.heap.size w9 x ∧ Below w65.heap.size w65 x ∧ Below w70.heap.size w70 x) (ps := [IsV (.pointer (some ⟨g4, 0, none⟩)), IsV (.int .i64 a0_0)]) (by kernel_rfl) ?_ ?_ rfl hS ⟨hBw70_w, hBw70_w3, hBw70_w9, hBw70_w65, hBw70_w70⟩ ?_ ?_
                                  · exact fun x y hI hb => ⟨below_step hI.1 hb, below_step hI.2.1 hb, below_step hI.2.2.1 hb, below_step hI.2.2.2.1 hb, below_step hI.2.2.2.2 hb⟩
                                  · exact AllStay.cons (Stays.v _) (AllStay.cons (Stays.v _) (AllStay.nil))
                                  · refine Steps.cons (fun a w hS hI hp => ok_on rfl (does_val (x_field rfl (hS.get 4 rfl) Try.underlying28 rfl (by kernel_rfl)) rfl)) ?_
                                    refine Steps.cons (fun a w hS hI hp => ok_on rfl (does_val (x_load1 (d := .int .i64) rfl ((hp.get 0 (by rfl) rfl rfl)) (by kernel_rfl) rfl ((blk_cell (((hI.2.1).block g4 (blk_lt hbxg4)).trans hbxg4) 0).trans rfl)) rfl)) ?_
                                    exact Steps.nil
                                  clear hS
                                  intro at149 w150 hS hI hp
                                  have hBw150_w := hI.1
                                  have hBw150_w3 := hI.2.1
                                  have hBw150_w9 := hI.2.2.1
                                  have hBw150_w65 := hI.2.2.2.1
                                  have hBw150_w70 := hI.2.2.2.2
                                  have hv56 : sl _ 56 = .int .i64 a0_0 := hp 1 (by decide)
                                  have hBw150_w150 := Below.refl w150.heap.size w150
                                  have hS := hS.cons hv56
                                  clear hp hI hv56
                                  refine hK148 _ _ ?_
                                  clear hK148 K148
                                  refine wp_block ?_
                                  refine wp_seq_k (fun K151 hK151 => ?_)
                                  refine reg_seq (N := 74) (bs := [(56, .int .i64 a0_0), (6, .int .u8 5), (5, .slice A66 (((((((([IntKind.u8.wrap a0_0, 18] ++ t15 : List Int) ++ [IntKind.u8.wrap a0_1, 0] : List Int) ++ t30 : List Int) ++ t38 : List Int) ++ [0, 0, 0, 0] : List Int) ++ t53 : List Int) ++ t61 : List Int).length) C66), (17, .bool (decide (a1 > 400))), (4, .slice none 0 0), (2, .pointer (some ⟨g4, 0, none⟩))]) (I := fun x => Below w.heap.size w x ∧ Below w3.heap.size w3 x ∧ Below w9.heap.size w9 x ∧ Below w65.heap.size w65 x ∧ Below w70.heap.size w70 x ∧ Below w150.heap.size w150 x) (ps := [IsV (.bool (decide (a0_0 = 0))), IsV (.bool (decide (a0_0 = 0)))]) (by kernel_rfl) ?_ ?_ rfl hS ⟨hBw150_w, hBw150_w3, hBw150_w9, hBw150_w65, hBw150_w70, hBw150_w150⟩ ?_ ?_
                                  · exact fun x y hI hb => ⟨below_step hI.1 hb, below_step hI.2.1 hb, below_step hI.2.2.1 hb, below_step hI.2.2.2.1 hb, below_step hI.2.2.2.2.1 hb, below_step hI.2.2.2.2.2 hb⟩
                                  · exact AllStay.cons (Stays.v _) (AllStay.cons (Stays.v _) (AllStay.nil))
                                  · refine Steps.cons (fun a w hS hI hp => ok_on rfl (does_val (x_bin rfl (hS.get 0 rfl) (rfl) (b_eql _ _ _ _ _ _)) rfl)) ?_
                                    refine Steps.cons (fun a w hS hI hp => ok_on rfl (does_val (x_assign rfl ((hp.get 0 (by rfl) rfl rfl))) rfl)) ?_
                                    exact Steps.nil
                                  clear hS
                                  intro at152 w153 hS hI hp
                                  have hBw153_w := hI.1
                                  have hBw153_w3 := hI.2.1
                                  have hBw153_w9 := hI.2.2.1
                                  have hBw153_w65 := hI.2.2.2.1
                                  have hBw153_w70 := hI.2.2.2.2.1
                                  have hBw153_w150 := hI.2.2.2.2.2
                                  have hv57 : sl _ 57 = .bool (decide (a0_0 = 0)) := hp 1 (by decide)
                                  have hBw153_w153 := Below.refl w153.heap.size w153
                                  have hS := hS.cons hv57
                                  clear hp hI hv57
                                  refine hK151 _ _ ?_
                                  clear hK151 K151
                                  refine wp_cond_false ((hS.get 0 rfl).trans (bF (decide_eq_false d72_0))) ?_
                                  refine wp_seq_k (fun K154 hK154 => ?_)
                                  refine reg_seq (N := 74) (bs := [(57, .bool (decide (a0_0 = 0))), (56, .int .i64 a0_0), (6, .int .u8 5), (5, .slice A66 (((((((([IntKind.u8.wrap a0_0, 18] ++ t15 : List Int) ++ [IntKind.u8.wrap a0_1, 0] : List Int) ++ t30 : List Int) ++ t38 : List Int) ++ [0, 0, 0, 0] : List Int) ++ t53 : List Int) ++ t61 : List Int).length) C66), (17, .bool (decide (a1 > 400))), (4, .slice none 0 0), (2, .pointer (some ⟨g4, 0, none⟩))]) (I := fun x => Below w.heap.size w x ∧ Below w3.heap.size w3 x ∧ Below w9.heap.size w9 x ∧ Below w65.heap.size w65 x ∧ Below w70.heap.size w70 x ∧ Below w153.heap.size w153 x) (ps := [IsV (.bool (decide (a0_0 = 1))), IsV (.bool (decide (a0_0 = 1)))]) (by kernel_rfl) ?_ ?_ rfl hS ⟨hBw153_w, hBw153_w3, hBw153_w9, hBw153_w65, hBw153_w70, hBw153_w153⟩ ?_ ?_
                                  · exact fun x y hI hb => ⟨below_step hI.1 hb, below_step hI.2.1 hb, below_step hI.2.2.1 hb, below_step hI.2.2.2.1 hb, below_step hI.2.2.2.2.1 hb, below_step hI.2.2.2.2.2 hb⟩
                                  · exact AllStay.cons (Stays.v _) (AllStay.cons (Stays.v _) (AllStay.nil))
                                  · refine Steps.cons (fun a w hS hI hp => ok_on rfl (does_val (x_bin rfl (hS.get 1 rfl) (rfl) (b_eql _ _ _ _ _ _)) rfl)) ?_
                                    refine Steps.cons (fun a w hS hI hp => ok_on rfl (does_val (x_assign rfl ((hp.get 0 (by rfl) rfl rfl))) rfl)) ?_
                                    exact Steps.nil
                                  clear hS
                                  intro at155 w156 hS hI hp
                                  have hBw156_w := hI.1
                                  have hBw156_w3 := hI.2.1
                                  have hBw156_w9 := hI.2.2.1
                                  have hBw156_w65 := hI.2.2.2.1
                                  have hBw156_w70 := hI.2.2.2.2.1
                                  have hBw156_w153 := hI.2.2.2.2.2
                                  have hv59 : sl _ 59 = .bool (decide (a0_0 = 1)) := hp 1 (by decide)
                                  have hBw156_w156 := Below.refl w156.heap.size w156
                                  have hS := hS.cons hv59
                                  clear hp hI hv59
                                  refine hK154 _ _ ?_
                                  clear hK154 K154
                                  refine wp_cond_false ((hS.get 0 rfl).trans (bF (decide_eq_false d72_1))) ?_
                                  refine wp_seq_k (fun K157 hK157 => ?_)
                                  refine reg_seq (N := 74) (bs := [(59, .bool (decide (a0_0 = 1))), (57, .bool (decide (a0_0 = 0))), (56, .int .i64 a0_0), (6, .int .u8 5), (5, .slice A66 (((((((([IntKind.u8.wrap a0_0, 18] ++ t15 : List Int) ++ [IntKind.u8.wrap a0_1, 0] : List Int) ++ t30 : List Int) ++ t38 : List Int) ++ [0, 0, 0, 0] : List Int) ++ t53 : List Int) ++ t61 : List Int).length) C66), (17, .bool (decide (a1 > 400))), (4, .slice none 0 0), (2, .pointer (some ⟨g4, 0, none⟩))]) (I := fun x => Below w.heap.size w x ∧ Below w3.heap.size w3 x ∧ Below w9.heap.size w9 x ∧ Below w65.heap.size w65 x ∧ Below w70.heap.size w70 x ∧ Below w156.heap.size w156 x) (ps := [IsV (.bool (decide (a0_0 = 8))), IsV (.bool (decide (a0_0 = 8)))]) (by kernel_rfl) ?_ ?_ rfl hS ⟨hBw156_w, hBw156_w3, hBw156_w9, hBw156_w65, hBw156_w70, hBw156_w156⟩ ?_ ?_
                                  · exact fun x y hI hb => ⟨below_step hI.1 hb, below_step hI.2.1 hb, below_step hI.2.2.1 hb, below_step hI.2.2.2.1 hb, below_step hI.2.2.2.2.1 hb, below_step hI.2.2.2.2.2 hb⟩
                                  · exact AllStay.cons (Stays.v _) (AllStay.cons (Stays.v _) (AllStay.nil))
                                  · refine Steps.cons (fun a w hS hI hp => ok_on rfl (does_val (x_bin rfl (hS.get 2 rfl) (rfl) (b_eql _ _ _ _ _ _)) rfl)) ?_
                                    refine Steps.cons (fun a w hS hI hp => ok_on rfl (does_val (x_assign rfl ((hp.get 0 (by rfl) rfl rfl))) rfl)) ?_
                                    exact Steps.nil
                                  clear hS
                                  intro at158 w159 hS hI hp
                                  have hBw159_w := hI.1
                                  have hBw159_w3 := hI.2.1
                                  have hBw159_w9 := hI.2.2.1
                                  have hBw159_w65 := hI.2.2.2.1
                                  have hBw159_w70 := hI.2.2.2.2.1
                                  have hBw159_w156 := hI.2.2.2.2.2
                                  have hv61 : sl _ 61 = .bool (decide (a0_0 = 8)) := hp 1 (by decide)
                                  have hBw159_w159 := Below.refl w159.heap.size w159
                                  have hS := hS.cons hv61
                                  clear hp hI hv61
                                  refine hK157 _ _ ?_
                                  clear hK157 K157
                                  refine wp_cond_false ((hS.get 0 rfl).trans (bF (decide_eq_false d72_2))) ?_
                                  refine wp_seq_k (fun K160 hK160 => ?_)
                                  refine reg_seq (N := 74) (bs := [(61, .bool (decide (a0_0 = 8))), (59, .bool (decide (a0_0 = 1))), (57, .bool (decide (a0_0 = 0))), (56, .int .i64 a0_0), (6, .int .u8 5), (5, .slice A66 (((((((([IntKind.u8.wrap a0_0, 18] ++ t15 : List Int) ++ [IntKind.u8.wrap a0_1, 0] : List Int) ++ t30 : List Int) ++ t38 : List Int) ++ [0, 0, 0, 0] : List Int) ++ t53 : List Int) ++ t61 : List Int).length) C66), (17, .bool (decide (a1 > 400))), (4, .slice none 0 0), (2, .pointer (some ⟨g4, 0, none⟩))]) (I := fun x => Below w.heap.size w x ∧ Below w3.heap.size w3 x ∧ Below w9.heap.size w9 x ∧ Below w65.heap.size w65 x ∧ Below w70.heap.size w70 x ∧ Below w159.heap.size w159 x) (ps := [IsV (.bool (decide (a0_0 = 9))), IsV (.bool (decide (a0_0 = 9)))]) (by kernel_rfl) ?_ ?_ rfl hS ⟨hBw159_w, hBw159_w3, hBw159_w9, hBw159_w65, hBw159_w70, hBw159_w159⟩ ?_ ?_
                                  · exact fun x y hI hb => ⟨below_step hI.1 hb, below_step hI.2.1 hb, below_step hI.2.2.1 hb, below_step hI.2.2.2.1 hb, below_step hI.2.2.2.2.1 hb, below_step hI.2.2.2.2.2 hb⟩
                                  · exact AllStay.cons (Stays.v _) (AllStay.cons (Stays.v _) (AllStay.nil))
                                  · refine Steps.cons (fun a w hS hI hp => ok_on rfl (does_val (x_bin rfl (hS.get 3 rfl) (rfl) (b_eql _ _ _ _ _ _)) rfl)) ?_
                                    refine Steps.cons (fun a w hS hI hp => ok_on rfl (does_val (x_assign rfl ((hp.get 0 (by rfl) rfl rfl))) rfl)) ?_
                                    exact Steps.nil
                                  clear hS
                                  intro at161 w162 hS hI hp
                                  have hBw162_w := hI.1
                                  have hBw162_w3 := hI.2.1
                                  have hBw162_w9 := hI.2.2.1
                                  have hBw162_w65 := hI.2.2.2.1
                                  have hBw162_w70 := hI.2.2.2.2.1
                                  have hBw162_w159 := hI.2.2.2.2.2
                                  have hv63 : sl _ 63 = .bool (decide (a0_0 = 9)) := hp 1 (by decide)
                                  have hBw162_w162 := Below.refl w162.heap.size w162
                                  have hS := hS.cons hv63
                                  clear hp hI hv63
                                  refine hK160 _ _ ?_
                                  clear hK160 K160
                                  refine wp_cond_true ((hS.get 0 rfl).trans (bT (decide_eq_true d72_3))) ?_
                                  replace hS := (((((((((hS.nil).cons (hS.get 9 rfl)).cons (hS.get 8 rfl)).cons (hS.get 7 rfl)).cons (hS.get 6 rfl)).cons (hS.get 4 rfl)).cons (hS.get 3 rfl)).cons (hS.get 2 rfl)).cons (hS.get 1 rfl)).cons (hS.get 0 rfl)
                                  refine reg_seq (N := 74) (bs := [(63, .bool (decide (a0_0 = 9))), (61, .bool (decide (a0_0 = 8))), (59, .bool (decide (a0_0 = 1))), (57, .bool (decide (a0_0 = 0))), (56, .int .i64 a0_0), (5, .slice A66 (((((((([IntKind.u8.wrap a0_0, 18] ++ t15 : List Int) ++ [IntKind.u8.wrap a0_1, 0] : List Int) ++ t30 : List Int) ++ t38 : List Int) ++ [0, 0, 0, 0] : List Int) ++ t53 : List Int) ++ t61 : List Int).length) C66), (17, .bool (decide (a1 > 400))), (4, .slice none 0 0), (2, .pointer (some ⟨g4, 0, none⟩))]) (I := fun x => Below w.heap.size w x ∧ Below w3.heap.size w3 x ∧ Below w9.heap.size w9 x ∧ Below w65.heap.size w65 x ∧ Below w70.heap.size w70 x ∧ Below w162.heap.size w162 x) (ps := [IsV (.int .u8 3)]) (by kernel_rfl) ?_ ?_ rfl hS ⟨hBw162_w, hBw162_w3, hBw162_w9, hBw162_w65, hBw162_w70, hBw162_w162⟩ ?_ ?_
                                  · exact fun x y hI hb => ⟨below_step hI.1 hb, below_step hI.2.1 hb, below_step hI.2.2.1 hb, below_step hI.2.2.2.1 hb, below_step hI.2.2.2.2.1 hb, below_step hI.2.2.2.2.2 hb⟩
                                  · exact AllStay.cons (Stays.v _) (AllStay.nil)
                                  · refine Steps.cons (fun a w hS hI hp => ok_on rfl (does_val (x_assign rfl (rfl)) rfl)) ?_
                                    exact Steps.nil
                                  clear hS
                                  intro at163 w164 hS hI hp
                                  have hBw164_w := hI.1
                                  have hBw164_w3 := hI.2.1
                                  have hBw164_w9 := hI.2.2.1
                                  have hBw164_w65 := hI.2.2.2.1
                                  have hBw164_w70 := hI.2.2.2.2.1
                                  have hBw164_w162 := hI.2.2.2.2.2
                                  have hv6 : sl _ 6 = .int .u8 3 := hp 0 (by decide)
                                  have hBw164_w164 := Below.refl w164.heap.size w164
                                  have hS := hS.cons hv6
                                  clear hp hI hv6
                                  (try simp only [Exit.then, Exit.inBlock, reduceIte])
                                  exact ⟨by trivial, ((((((hS.nil).cons (hS.get 4 rfl)).cons (hS.get 7 rfl)).cons ((hS.get 0 rfl).trans (congrArg (Value.int .u8) (by simp only [if_neg d72_0, if_neg d72_1, if_neg d72_2, if_pos d72_3])))).cons (hS.get 6 rfl)).cons (hS.get 8 rfl)).cons (hS.get 9 rfl), hBw164_w, hBw164_w3, hBw164_w9, hBw164_w65, hBw164_w70⟩
                                · by_cases d72_4 : a0_0 = 13
                                  · refine wp_seq_k (fun K183 hK183 => ?_)
                                    refine reg_seq (N := 74) (bs := [(6, .int .u8 5), (5, .slice A66 (((((((([IntKind.u8.wrap a0_0, 18] ++ t15 : List Int) ++ [IntKind.u8.wrap a0_1, 0] : List Int) ++ t30 : List Int) ++ t38 : List Int) ++ [0, 0, 0, 0] : List Int) ++ t53 : List Int) ++ t61 : List Int).length) C66), (17, .bool (decide (a1 > 400))), (4, .slice none 0 0), (2, .pointer (some ⟨g4, 0, none⟩))]) (I := fun x => Below w.heap.size w x ∧ Below w3.heap.size w3 x ∧ Below w9.heap.size w9 x ∧ Below w65.heap.size w65 x ∧ Below w70.heap.size w70 x) (ps := [IsV (.pointer (some ⟨g4, 0, none⟩)), IsV (.int .i64 a0_0)]) (by kernel_rfl) ?_ ?_ rfl hS ⟨hBw70_w, hBw70_w3, hBw70_w9, hBw70_w65, hBw70_w70⟩ ?_ ?_
                                    · exact fun x y hI hb => ⟨below_step hI.1 hb, below_step hI.2.1 hb, below_step hI.2.2.1 hb, below_step hI.2.2.2.1 hb, below_step hI.2.2.2.2 hb⟩
                                    · exact AllStay.cons (Stays.v _) (AllStay.cons (Stays.v _) (AllStay.nil))
                                    · refine Steps.cons (fun a w hS hI hp => ok_on rfl (does_val (x_field rfl (hS.get 4 rfl) Try.underlying28 rfl (by kernel_rfl)) rfl)) ?_
                                      refine Steps.cons (fun a w hS hI hp => ok_on rfl (does_val (x_load1 (d := .int .i64) rfl ((hp.get 0 (by rfl) rfl rfl)) (by kernel_rfl) rfl ((blk_cell (((hI.2.1).block g4 (blk_lt hbxg4)).trans hbxg4) 0).trans rfl)) rfl)) ?_
                                      exact Steps.nil
                                    clear hS
                                    intro at184 w185 hS hI hp
                                    have hBw185_w := hI.1
                                    have hBw185_w3 := hI.2.1
                                    have hBw185_w9 := hI.2.2.1
                                    have hBw185_w65 := hI.2.2.2.1
                                    have hBw185_w70 := hI.2.2.2.2
                                    have hv56 : sl _ 56 = .int .i64 a0_0 := hp 1 (by decide)
                                    have hBw185_w185 := Below.refl w185.heap.size w185
                                    have hS := hS.cons hv56
                                    clear hp hI hv56
                                    refine hK183 _ _ ?_
                                    clear hK183 K183
                                    refine wp_block ?_
                                    refine wp_seq_k (fun K186 hK186 => ?_)
                                    refine reg_seq (N := 74) (bs := [(56, .int .i64 a0_0), (6, .int .u8 5), (5, .slice A66 (((((((([IntKind.u8.wrap a0_0, 18] ++ t15 : List Int) ++ [IntKind.u8.wrap a0_1, 0] : List Int) ++ t30 : List Int) ++ t38 : List Int) ++ [0, 0, 0, 0] : List Int) ++ t53 : List Int) ++ t61 : List Int).length) C66), (17, .bool (decide (a1 > 400))), (4, .slice none 0 0), (2, .pointer (some ⟨g4, 0, none⟩))]) (I := fun x => Below w.heap.size w x ∧ Below w3.heap.size w3 x ∧ Below w9.heap.size w9 x ∧ Below w65.heap.size w65 x ∧ Below w70.heap.size w70 x ∧ Below w185.heap.size w185 x) (ps := [IsV (.bool (decide (a0_0 = 0))), IsV (.bool (decide (a0_0 = 0)))]) (by kernel_rfl) ?_ ?_ rfl hS ⟨hBw185_w, hBw185_w3, hBw185_w9, hBw185_w65, hBw185_w70, hBw185_w185⟩ ?_ ?_
                                    · exact fun x y hI hb => ⟨below_step hI.1 hb, below_step hI.2.1 hb, below_step hI.2.2.1 hb, below_step hI.2.2.2.1 hb, below_step hI.2.2.2.2.1 hb, below_step hI.2.2.2.2.2 hb⟩
                                    · exact AllStay.cons (Stays.v _) (AllStay.cons (Stays.v _) (AllStay.nil))
                                    · refine Steps.cons (fun a w hS hI hp => ok_on rfl (does_val (x_bin rfl (hS.get 0 rfl) (rfl) (b_eql _ _ _ _ _ _)) rfl)) ?_
                                      refine Steps.cons (fun a w hS hI hp => ok_on rfl (does_val (x_assign rfl ((hp.get 0 (by rfl) rfl rfl))) rfl)) ?_
                                      exact Steps.nil
                                    clear hS
                                    intro at187 w188 hS hI hp
                                    have hBw188_w := hI.1
                                    have hBw188_w3 := hI.2.1
                                    have hBw188_w9 := hI.2.2.1
                                    have hBw188_w65 := hI.2.2.2.1
                                    have hBw188_w70 := hI.2.2.2.2.1
                                    have hBw188_w185 := hI.2.2.2.2.2
                                    have hv57 : sl _ 57 = .bool (decide (a0_0 = 0)) := hp 1 (by decide)
                                    have hBw188_w188 := Below.refl w188.heap.size w188
                                    have hS := hS.cons hv57
                                    clear hp hI hv57
                                    refine hK186 _ _ ?_
                                    clear hK186 K186
                                    refine wp_cond_false ((hS.get 0 rfl).trans (bF (decide_eq_false d72_0))) ?_
                                    refine wp_seq_k (fun K189 hK189 => ?_)
                                    refine reg_seq (N := 74) (bs := [(57, .bool (decide (a0_0 = 0))), (56, .int .i64 a0_0), (6, .int .u8 5), (5, .slice A66 (((((((([IntKind.u8.wrap a0_0, 18] ++ t15 : List Int) ++ [IntKind.u8.wrap a0_1, 0] : List Int) ++ t30 : List Int) ++ t38 : List Int) ++ [0, 0, 0, 0] : List Int) ++ t53 : List Int) ++ t61 : List Int).length) C66), (17, .bool (decide (a1 > 400))), (4, .slice none 0 0), (2, .pointer (some ⟨g4, 0, none⟩))]) (I := fun x => Below w.heap.size w x ∧ Below w3.heap.size w3 x ∧ Below w9.heap.size w9 x ∧ Below w65.heap.size w65 x ∧ Below w70.heap.size w70 x ∧ Below w188.heap.size w188 x) (ps := [IsV (.bool (decide (a0_0 = 1))), IsV (.bool (decide (a0_0 = 1)))]) (by kernel_rfl) ?_ ?_ rfl hS ⟨hBw188_w, hBw188_w3, hBw188_w9, hBw188_w65, hBw188_w70, hBw188_w188⟩ ?_ ?_
                                    · exact fun x y hI hb => ⟨below_step hI.1 hb, below_step hI.2.1 hb, below_step hI.2.2.1 hb, below_step hI.2.2.2.1 hb, below_step hI.2.2.2.2.1 hb, below_step hI.2.2.2.2.2 hb⟩
                                    · exact AllStay.cons (Stays.v _) (AllStay.cons (Stays.v _) (AllStay.nil))
                                    · refine Steps.cons (fun a w hS hI hp => ok_on rfl (does_val (x_bin rfl (hS.get 1 rfl) (rfl) (b_eql _ _ _ _ _ _)) rfl)) ?_
                                      refine Steps.cons (fun a w hS hI hp => ok_on rfl (does_val (x_assign rfl ((hp.get 0 (by rfl) rfl rfl))) rfl)) ?_
                                      exact Steps.nil
                                    clear hS
                                    intro at190 w191 hS hI hp
                                    have hBw191_w := hI.1
                                    have hBw191_w3 := hI.2.1
                                    have hBw191_w9 := hI.2.2.1
                                    have hBw191_w65 := hI.2.2.2.1
                                    have hBw191_w70 := hI.2.2.2.2.1
                                    have hBw191_w188 := hI.2.2.2.2.2
                                    have hv59 : sl _ 59 = .bool (decide (a0_0 = 1)) := hp 1 (by decide)
                                    have hBw191_w191 := Below.refl w191.heap.size w191
                                    have hS := hS.cons hv59
                                    clear hp hI hv59
                                    refine hK189 _ _ ?_
                                    clear hK189 K189
                                    refine wp_cond_false ((hS.get 0 rfl).trans (bF (decide_eq_false d72_1))) ?_
                                    refine wp_seq_k (fun K192 hK192 => ?_)
                                    refine reg_seq (N := 74) (bs := [(59, .bool (decide (a0_0 = 1))), (57, .bool (decide (a0_0 = 0))), (56, .int .i64 a0_0), (6, .int .u8 5), (5, .slice A66 (((((((([IntKind.u8.wrap a0_0, 18] ++ t15 : List Int) ++ [IntKind.u8.wrap a0_1, 0] : List Int) ++ t30 : List Int) ++ t38 : List Int) ++ [0, 0, 0, 0] : List Int) ++ t53 : List Int) ++ t61 : List Int).length) C66), (17, .bool (decide (a1 > 400))), (4, .slice none 0 0), (2, .pointer (some ⟨g4, 0, none⟩))]) (I := fun x => Below w.heap.size w x ∧ Below w3.heap.size w3 x ∧ Below w9.heap.size w9 x ∧ Below w65.heap.size w65 x ∧ Below w70.heap.size w70 x ∧ Below w191.heap.size w191 x) (ps := [IsV (.bool (decide (a0_0 = 8))), IsV (.bool (decide (a0_0 = 8)))]) (by kernel_rfl) ?_ ?_ rfl hS ⟨hBw191_w, hBw191_w3, hBw191_w9, hBw191_w65, hBw191_w70, hBw191_w191⟩ ?_ ?_
                                    · exact fun x y hI hb => ⟨below_step hI.1 hb, below_step hI.2.1 hb, below_step hI.2.2.1 hb, below_step hI.2.2.2.1 hb, below_step hI.2.2.2.2.1 hb, below_step hI.2.2.2.2.2 hb⟩
                                    · exact AllStay.cons (Stays.v _) (AllStay.cons (Stays.v _) (AllStay.nil))
                                    · refine Steps.cons (fun a w hS hI hp => ok_on rfl (does_val (x_bin rfl (hS.get 2 rfl) (rfl) (b_eql _ _ _ _ _ _)) rfl)) ?_
                                      refine Steps.cons (fun a w hS hI hp => ok_on rfl (does_val (x_assign rfl ((hp.get 0 (by rfl) rfl rfl))) rfl)) ?_
                                      exact Steps.nil
                                    clear hS
                                    intro at193 w194 hS hI hp
                                    have hBw194_w := hI.1
                                    have hBw194_w3 := hI.2.1
                                    have hBw194_w9 := hI.2.2.1
                                    have hBw194_w65 := hI.2.2.2.1
                                    have hBw194_w70 := hI.2.2.2.2.1
                                    have hBw194_w191 := hI.2.2.2.2.2
                                    have hv61 : sl _ 61 = .bool (decide (a0_0 = 8)) := hp 1 (by decide)
                                    have hBw194_w194 := Below.refl w194.heap.size w194
                                    have hS := hS.cons hv61
                                    clear hp hI hv61
                                    refine hK192 _ _ ?_
                                    clear hK192 K192
                                    refine wp_cond_false ((hS.get 0 rfl).trans (bF (decide_eq_false d72_2))) ?_
                                    refine wp_seq_k (fun K195 hK195 => ?_)
                                    refine reg_seq (N := 74) (bs := [(61, .bool (decide (a0_0 = 8))), (59, .bool (decide (a0_0 = 1))), (57, .bool (decide (a0_0 = 0))), (56, .int .i64 a0_0), (6, .int .u8 5), (5, .slice A66 (((((((([IntKind.u8.wrap a0_0, 18] ++ t15 : List Int) ++ [IntKind.u8.wrap a0_1, 0] : List Int) ++ t30 : List Int) ++ t38 : List Int) ++ [0, 0, 0, 0] : List Int) ++ t53 : List Int) ++ t61 : List Int).length) C66), (17, .bool (decide (a1 > 400))), (4, .slice none 0 0), (2, .pointer (some ⟨g4, 0, none⟩))]) (I := fun x => Below w.heap.size w x ∧ Below w3.heap.size w3 x ∧ Below w9.heap.size w9 x ∧ Below w65.heap.size w65 x ∧ Below w70.heap.size w70 x ∧ Below w194.heap.size w194 x) (ps := [IsV (.bool (decide (a0_0 = 9))), IsV (.bool (decide (a0_0 = 9)))]) (by kernel_rfl) ?_ ?_ rfl hS ⟨hBw194_w, hBw194_w3, hBw194_w9, hBw194_w65, hBw194_w70, hBw194_w194⟩ ?_ ?_
                                    · exact fun x y hI hb => ⟨below_step hI.1 hb, below_step hI.2.1 hb, below_step hI.2.2.1 hb, below_step hI.2.2.2.1 hb, below_step hI.2.2.2.2.1 hb, below_step hI.2.2.2.2.2 hb⟩
                                    · exact AllStay.cons (Stays.v _) (AllStay.cons (Stays.v _) (AllStay.nil))
                                    · refine Steps.cons (fun a w hS hI hp => ok_on rfl (does_val (x_bin rfl (hS.get 3 rfl) (rfl) (b_eql _ _ _ _ _ _)) rfl)) ?_
                                      refine Steps.cons (fun a w hS hI hp => ok_on rfl (does_val (x_assign rfl ((hp.get 0 (by rfl) rfl rfl))) rfl)) ?_
                                      exact Steps.nil
                                    clear hS
                                    intro at196 w197 hS hI hp
                                    have hBw197_w := hI.1
                                    have hBw197_w3 := hI.2.1
                                    have hBw197_w9 := hI.2.2.1
                                    have hBw197_w65 := hI.2.2.2.1
                                    have hBw197_w70 := hI.2.2.2.2.1
                                    have hBw197_w194 := hI.2.2.2.2.2
                                    have hv63 : sl _ 63 = .bool (decide (a0_0 = 9)) := hp 1 (by decide)
                                    have hBw197_w197 := Below.refl w197.heap.size w197
                                    have hS := hS.cons hv63
                                    clear hp hI hv63
                                    refine hK195 _ _ ?_
                                    clear hK195 K195
                                    refine wp_cond_false ((hS.get 0 rfl).trans (bF (decide_eq_false d72_3))) ?_
                                    refine wp_seq_k (fun K198 hK198 => ?_)
                                    refine reg_seq (N := 74) (bs := [(63, .bool (decide (a0_0 = 9))), (61, .bool (decide (a0_0 = 8))), (59, .bool (decide (a0_0 = 1))), (57, .bool (decide (a0_0 = 0))), (56, .int .i64 a0_0), (6, .int .u8 5), (5, .slice A66 (((((((([IntKind.u8.wrap a0_0, 18] ++ t15 : List Int) ++ [IntKind.u8.wrap a0_1, 0] : List Int) ++ t30 : List Int) ++ t38 : List Int) ++ [0, 0, 0, 0] : List Int) ++ t53 : List Int) ++ t61 : List Int).length) C66), (17, .bool (decide (a1 > 400))), (4, .slice none 0 0), (2, .pointer (some ⟨g4, 0, none⟩))]) (I := fun x => Below w.heap.size w x ∧ Below w3.heap.size w3 x ∧ Below w9.heap.size w9 x ∧ Below w65.heap.size w65 x ∧ Below w70.heap.size w70 x ∧ Below w197.heap.size w197 x) (ps := [IsV (.bool (decide (a0_0 = 13))), IsV (.bool (decide (a0_0 = 13)))]) (by kernel_rfl) ?_ ?_ rfl hS ⟨hBw197_w, hBw197_w3, hBw197_w9, hBw197_w65, hBw197_w70, hBw197_w197⟩ ?_ ?_
                                    · exact fun x y hI hb => ⟨below_step hI.1 hb, below_step hI.2.1 hb, below_step hI.2.2.1 hb, below_step hI.2.2.2.1 hb, below_step hI.2.2.2.2.1 hb, below_step hI.2.2.2.2.2 hb⟩
                                    · exact AllStay.cons (Stays.v _) (AllStay.cons (Stays.v _) (AllStay.nil))
                                    · refine Steps.cons (fun a w hS hI hp => ok_on rfl (does_val (x_bin rfl (hS.get 4 rfl) (rfl) (b_eql _ _ _ _ _ _)) rfl)) ?_
                                      refine Steps.cons (fun a w hS hI hp => ok_on rfl (does_val (x_assign rfl ((hp.get 0 (by rfl) rfl rfl))) rfl)) ?_
                                      exact Steps.nil
                                    clear hS
                                    intro at199 w200 hS hI hp
                                    have hBw200_w := hI.1
                                    have hBw200_w3 := hI.2.1
                                    have hBw200_w9 := hI.2.2.1
                                    have hBw200_w65 := hI.2.2.2.1
                                    have hBw200_w70 := hI.2.2.2.2.1
                                    have hBw200_w197 := hI.2.2.2.2.2
                                    replace hS := (((((((((hS.nil).cons (hS.get 9 rfl)).cons (hS.get 8 rfl)).cons (hS.get 7 rfl)).cons (hS.get 6 rfl)).cons (hS.get 5 rfl)).cons (hS.get 3 rfl)).cons (hS.get 2 rfl)).cons (hS.get 1 rfl)).cons (hS.get 0 rfl)
                                    have hv65 : sl _ 65 = .bool (decide (a0_0 = 13)) := hp 1 (by decide)
                                    have hBw200_w200 := Below.refl w200.heap.size w200
                                    have hS := hS.cons hv65
                                    clear hp hI hv65
                                    refine hK198 _ _ ?_
                                    clear hK198 K198
                                    refine wp_cond_true ((hS.get 0 rfl).trans (bT (decide_eq_true d72_4))) ?_
                                    replace hS := (((((((((hS.nil).cons (hS.get 9 rfl)).cons (hS.get 8 rfl)).cons (hS.get 7 rfl)).cons (hS.get 6 rfl)).cons (hS.get 4 rfl)).cons (hS.get 3 rfl)).cons (hS.get 2 rfl)).cons (hS.get 1 rfl)).cons (hS.get 0 rfl)
                                    refine reg_seq (N := 74) (bs := [(65, .bool (decide (a0_0 = 13))), (63, .bool (decide (a0_0 = 9))), (61, .bool (decide (a0_0 = 8))), (59, .bool (decide (a0_0 = 1))), (57, .bool (decide (a0_0 = 0))), (5, .slice A66 (((((((([IntKind.u8.wrap a0_0, 18] ++ t15 : List Int) ++ [IntKind.u8.wrap a0_1, 0] : List Int) ++ t30 : List Int) ++ t38 : List Int) ++ [0, 0, 0, 0] : List Int) ++ t53 : List Int) ++ t61 : List Int).length) C66), (17, .bool (decide (a1 > 400))), (4, .slice none 0 0), (2, .pointer (some ⟨g4, 0, none⟩))]) (I := fun x => Below w.heap.size w x ∧ Below w3.heap.size w3 x ∧ Below w9.heap.size w9 x ∧ Below w65.heap.size w65 x ∧ Below w70.heap.size w70 x ∧ Below w200.heap.size w200 x) (ps := [IsV (.int .u8 4)]) (by kernel_rfl) ?_ ?_ rfl hS ⟨hBw200_w, hBw200_w3, hBw200_w9, hBw200_w65, hBw200_w70, hBw200_w200⟩ ?_ ?_
                                    · exact fun x y hI hb => ⟨below_step hI.1 hb, below_step hI.2.1 hb, below_step hI.2.2.1 hb, below_step hI.2.2.2.1 hb, below_step hI.2.2.2.2.1 hb, below_step hI.2.2.2.2.2 hb⟩
                                    · exact AllStay.cons (Stays.v _) (AllStay.nil)
                                    · refine Steps.cons (fun a w hS hI hp => ok_on rfl (does_val (x_assign rfl (rfl)) rfl)) ?_
                                      exact Steps.nil
                                    clear hS
                                    intro at201 w202 hS hI hp
                                    have hBw202_w := hI.1
                                    have hBw202_w3 := hI.2.1
                                    have hBw202_w9 := hI.2.2.1
                                    have hBw202_w65 := hI.2.2.2.1
                                    have hBw202_w70 := hI.2.2.2.2.1
                                    have hBw202_w200 := hI.2.2.2.2.2
                                    have hv6 : sl _ 6 = .int .u8 4 := hp 0 (by decide)
                                    have hBw202_w202 := Below.refl w202.heap.size w202
                                    have hS := hS.cons hv6
                                    clear hp hI hv6
                                    (try simp only [Exit.then, Exit.inBlock, reduceIte])
                                    exact ⟨by trivial, ((((((hS.nil).cons (hS.get 5 rfl)).cons (hS.get 7 rfl)).cons ((hS.get 0 rfl).trans (congrArg (Value.int .u8) (by simp only [if_neg d72_0, if_neg d72_1, if_neg d72_2, if_neg d72_3, if_pos d72_4])))).cons (hS.get 6 rfl)).cons (hS.get 8 rfl)).cons (hS.get 9 rfl), hBw202_w, hBw202_w3, hBw202_w9, hBw202_w65, hBw202_w70⟩
                                  · refine wp_seq_k (fun K203 hK203 => ?_)
                                    refine reg_seq (N := 74) (bs := [(6, .int .u8 5), (5, .slice A66 (((((((([IntKind.u8.wrap a0_0, 18] ++ t15 : List Int) ++ [IntKind.u8.wrap a0_1, 0] : List Int) ++ t30 : List Int) ++ t38 : List Int) ++ [0, 0, 0, 0] : List Int) ++ t53 : List Int) ++ t61 : List Int).length) C66), (17, .bool (decide (a1 > 400))), (4, .slice none 0 0), (2, .pointer (some ⟨g4, 0, none⟩))]) (I := fun x => Below w.heap.size w x ∧ Below w3.heap.size w3 x ∧ Below w9.heap.size w9 x ∧ Below w65.heap.size w65 x ∧ Below w70.heap.size w70 x) (ps := [IsV (.pointer (some ⟨g4, 0, none⟩)), IsV (.int .i64 a0_0)]) (by kernel_rfl) ?_ ?_ rfl hS ⟨hBw70_w, hBw70_w3, hBw70_w9, hBw70_w65, hBw70_w70⟩ ?_ ?_
                                    · exact fun x y hI hb => ⟨below_step hI.1 hb, below_step hI.2.1 hb, below_step hI.2.2.1 hb, below_step hI.2.2.2.1 hb, below_step hI.2.2.2.2 hb⟩
                                    · exact AllStay.cons (Stays.v _) (AllStay.cons (Stays.v _) (AllStay.nil))
                                    · refine Steps.cons (fun a w hS hI hp => ok_on rfl (does_val (x_field rfl (hS.get 4 rfl) Try.underlying28 rfl (by kernel_rfl)) rfl)) ?_
                                      refine Steps.cons (fun a w hS hI hp => ok_on rfl (does_val (x_load1 (d := .int .i64) rfl ((hp.get 0 (by rfl) rfl rfl)) (by kernel_rfl) rfl ((blk_cell (((hI.2.1).block g4 (blk_lt hbxg4)).trans hbxg4) 0).trans rfl)) rfl)) ?_
                                      exact Steps.nil
                                    clear hS
                                    intro at204 w205 hS hI hp
                                    have hBw205_w := hI.1
                                    have hBw205_w3 := hI.2.1
                                    have hBw205_w9 := hI.2.2.1
                                    have hBw205_w65 := hI.2.2.2.1
                                    have hBw205_w70 := hI.2.2.2.2
                                    have hv56 : sl _ 56 = .int .i64 a0_0 := hp 1 (by decide)
                                    have hBw205_w205 := Below.refl w205.heap.size w205
                                    have hS := hS.cons hv56
                                    clear hp hI hv56
                                    refine hK203 _ _ ?_
                                    clear hK203 K203
                                    refine wp_block ?_
                                    refine wp_seq_k (fun K206 hK206 => ?_)
                                    refine reg_seq (N := 74) (bs := [(56, .int .i64 a0_0), (6, .int .u8 5), (5, .slice A66 (((((((([IntKind.u8.wrap a0_0, 18] ++ t15 : List Int) ++ [IntKind.u8.wrap a0_1, 0] : List Int) ++ t30 : List Int) ++ t38 : List Int) ++ [0, 0, 0, 0] : List Int) ++ t53 : List Int) ++ t61 : List Int).length) C66), (17, .bool (decide (a1 > 400))), (4, .slice none 0 0), (2, .pointer (some ⟨g4, 0, none⟩))]) (I := fun x => Below w.heap.size w x ∧ Below w3.heap.size w3 x ∧ Below w9.heap.size w9 x ∧ Below w65.heap.size w65 x ∧ Below w70.heap.size w70 x ∧ Below w205.heap.size w205 x) (ps := [IsV (.bool (decide (a0_0 = 0))), IsV (.bool (decide (a0_0 = 0)))]) (by kernel_rfl) ?_ ?_ rfl hS ⟨hBw205_w, hBw205_w3, hBw205_w9, hBw205_w65, hBw205_w70, hBw205_w205⟩ ?_ ?_
                                    · exact fun x y hI hb => ⟨below_step hI.1 hb, below_step hI.2.1 hb, below_step hI.2.2.1 hb, below_step hI.2.2.2.1 hb, below_step hI.2.2.2.2.1 hb, below_step hI.2.2.2.2.2 hb⟩
                                    · exact AllStay.cons (Stays.v _) (AllStay.cons (Stays.v _) (AllStay.nil))
                                    · refine Steps.cons (fun a w hS hI hp => ok_on rfl (does_val (x_bin rfl (hS.get 0 rfl) (rfl) (b_eql _ _ _ _ _ _)) rfl)) ?_
                                      refine Steps.cons (fun a w hS hI hp => ok_on rfl (does_val (x_assign rfl ((hp.get 0 (by rfl) rfl rfl))) rfl)) ?_
                                      exact Steps.nil
                                    clear hS
                                    intro at207 w208 hS hI hp
                                    have hBw208_w := hI.1
                                    have hBw208_w3 := hI.2.1
                                    have hBw208_w9 := hI.2.2.1
                                    have hBw208_w65 := hI.2.2.2.1
                                    have hBw208_w70 := hI.2.2.2.2.1
                                    have hBw208_w205 := hI.2.2.2.2.2
                                    have hv57 : sl _ 57 = .bool (decide (a0_0 = 0)) := hp 1 (by decide)
                                    have hBw208_w208 := Below.refl w208.heap.size w208
                                    have hS := hS.cons hv57
                                    clear hp hI hv57
                                    refine hK206 _ _ ?_
                                    clear hK206 K206
                                    refine wp_cond_false ((hS.get 0 rfl).trans (bF (decide_eq_false d72_0))) ?_
                                    refine wp_seq_k (fun K209 hK209 => ?_)
                                    refine reg_seq (N := 74) (bs := [(57, .bool (decide (a0_0 = 0))), (56, .int .i64 a0_0), (6, .int .u8 5), (5, .slice A66 (((((((([IntKind.u8.wrap a0_0, 18] ++ t15 : List Int) ++ [IntKind.u8.wrap a0_1, 0] : List Int) ++ t30 : List Int) ++ t38 : List Int) ++ [0, 0, 0, 0] : List Int) ++ t53 : List Int) ++ t61 : List Int).length) C66), (17, .bool (decide (a1 > 400))), (4, .slice none 0 0), (2, .pointer (some ⟨g4, 0, none⟩))]) (I := fun x => Below w.heap.size w x ∧ Below w3.heap.size w3 x ∧ Below w9.heap.size w9 x ∧ Below w65.heap.size w65 x ∧ Below w70.heap.size w70 x ∧ Below w208.heap.size w208 x) (ps := [IsV (.bool (decide (a0_0 = 1))), IsV (.bool (decide (a0_0 = 1)))]) (by kernel_rfl) ?_ ?_ rfl hS ⟨hBw208_w, hBw208_w3, hBw208_w9, hBw208_w65, hBw208_w70, hBw208_w208⟩ ?_ ?_
                                    · exact fun x y hI hb => ⟨below_step hI.1 hb, below_step hI.2.1 hb, below_step hI.2.2.1 hb, below_step hI.2.2.2.1 hb, below_step hI.2.2.2.2.1 hb, below_step hI.2.2.2.2.2 hb⟩
                                    · exact AllStay.cons (Stays.v _) (AllStay.cons (Stays.v _) (AllStay.nil))
                                    · refine Steps.cons (fun a w hS hI hp => ok_on rfl (does_val (x_bin rfl (hS.get 1 rfl) (rfl) (b_eql _ _ _ _ _ _)) rfl)) ?_
                                      refine Steps.cons (fun a w hS hI hp => ok_on rfl (does_val (x_assign rfl ((hp.get 0 (by rfl) rfl rfl))) rfl)) ?_
                                      exact Steps.nil
                                    clear hS
                                    intro at210 w211 hS hI hp
                                    have hBw211_w := hI.1
                                    have hBw211_w3 := hI.2.1
                                    have hBw211_w9 := hI.2.2.1
                                    have hBw211_w65 := hI.2.2.2.1
                                    have hBw211_w70 := hI.2.2.2.2.1
                                    have hBw211_w208 := hI.2.2.2.2.2
                                    have hv59 : sl _ 59 = .bool (decide (a0_0 = 1)) := hp 1 (by decide)
                                    have hBw211_w211 := Below.refl w211.heap.size w211
                                    have hS := hS.cons hv59
                                    clear hp hI hv59
                                    refine hK209 _ _ ?_
                                    clear hK209 K209
                                    refine wp_cond_false ((hS.get 0 rfl).trans (bF (decide_eq_false d72_1))) ?_
                                    refine wp_seq_k (fun K212 hK212 => ?_)
                                    refine reg_seq (N := 74) (bs := [(59, .bool (decide (a0_0 = 1))), (57, .bool (decide (a0_0 = 0))), (56, .int .i64 a0_0), (6, .int .u8 5), (5, .slice A66 (((((((([IntKind.u8.wrap a0_0, 18] ++ t15 : List Int) ++ [IntKind.u8.wrap a0_1, 0] : List Int) ++ t30 : List Int) ++ t38 : List Int) ++ [0, 0, 0, 0] : List Int) ++ t53 : List Int) ++ t61 : List Int).length) C66), (17, .bool (decide (a1 > 400))), (4, .slice none 0 0), (2, .pointer (some ⟨g4, 0, none⟩))]) (I := fun x => Below w.heap.size w x ∧ Below w3.heap.size w3 x ∧ Below w9.heap.size w9 x ∧ Below w65.heap.size w65 x ∧ Below w70.heap.size w70 x ∧ Below w211.heap.size w211 x) (ps := [IsV (.bool (decide (a0_0 = 8))), IsV (.bool (decide (a0_0 = 8)))]) (by kernel_rfl) ?_ ?_ rfl hS ⟨hBw211_w, hBw211_w3, hBw211_w9, hBw211_w65, hBw211_w70, hBw211_w211⟩ ?_ ?_
                                    · exact fun x y hI hb => ⟨below_step hI.1 hb, below_step hI.2.1 hb, below_step hI.2.2.1 hb, below_step hI.2.2.2.1 hb, below_step hI.2.2.2.2.1 hb, below_step hI.2.2.2.2.2 hb⟩
                                    · exact AllStay.cons (Stays.v _) (AllStay.cons (Stays.v _) (AllStay.nil))
                                    · refine Steps.cons (fun a w hS hI hp => ok_on rfl (does_val (x_bin rfl (hS.get 2 rfl) (rfl) (b_eql _ _ _ _ _ _)) rfl)) ?_
                                      refine Steps.cons (fun a w hS hI hp => ok_on rfl (does_val (x_assign rfl ((hp.get 0 (by rfl) rfl rfl))) rfl)) ?_
                                      exact Steps.nil
                                    clear hS
                                    intro at213 w214 hS hI hp
                                    have hBw214_w := hI.1
                                    have hBw214_w3 := hI.2.1
                                    have hBw214_w9 := hI.2.2.1
                                    have hBw214_w65 := hI.2.2.2.1
                                    have hBw214_w70 := hI.2.2.2.2.1
                                    have hBw214_w211 := hI.2.2.2.2.2
                                    have hv61 : sl _ 61 = .bool (decide (a0_0 = 8)) := hp 1 (by decide)
                                    have hBw214_w214 := Below.refl w214.heap.size w214
                                    have hS := hS.cons hv61
                                    clear hp hI hv61
                                    refine hK212 _ _ ?_
                                    clear hK212 K212
                                    refine wp_cond_false ((hS.get 0 rfl).trans (bF (decide_eq_false d72_2))) ?_
                                    refine wp_seq_k (fun K215 hK215 => ?_)
                                    refine reg_seq (N := 74) (bs := [(61, .bool (decide (a0_0 = 8))), (59, .bool (decide (a0_0 = 1))), (57, .bool (decide (a0_0 = 0))), (56, .int .i64 a0_0), (6, .int .u8 5), (5, .slice A66 (((((((([IntKind.u8.wrap a0_0, 18] ++ t15 : List Int) ++ [IntKind.u8.wrap a0_1, 0] : List Int) ++ t30 : List Int) ++ t38 : List Int) ++ [0, 0, 0, 0] : List Int) ++ t53 : List Int) ++ t61 : List Int).length) C66), (17, .bool (decide (a1 > 400))), (4, .slice none 0 0), (2, .pointer (some ⟨g4, 0, none⟩))]) (I := fun x => Below w.heap.size w x ∧ Below w3.heap.size w3 x ∧ Below w9.heap.size w9 x ∧ Below w65.heap.size w65 x ∧ Below w70.heap.size w70 x ∧ Below w214.heap.size w214 x) (ps := [IsV (.bool (decide (a0_0 = 9))), IsV (.bool (decide (a0_0 = 9)))]) (by kernel_rfl) ?_ ?_ rfl hS ⟨hBw214_w, hBw214_w3, hBw214_w9, hBw214_w65, hBw214_w70, hBw214_w214⟩ ?_ ?_
                                    · exact fun x y hI hb => ⟨below_step hI.1 hb, below_step hI.2.1 hb, below_step hI.2.2.1 hb, below_step hI.2.2.2.1 hb, below_step hI.2.2.2.2.1 hb, below_step hI.2.2.2.2.2 hb⟩
                                    · exact AllStay.cons (Stays.v _) (AllStay.cons (Stays.v _) (AllStay.nil))
                                    · refine Steps.cons (fun a w hS hI hp => ok_on rfl (does_val (x_bin rfl (hS.get 3 rfl) (rfl) (b_eql _ _ _ _ _ _)) rfl)) ?_
                                      refine Steps.cons (fun a w hS hI hp => ok_on rfl (does_val (x_assign rfl ((hp.get 0 (by rfl) rfl rfl))) rfl)) ?_
                                      exact Steps.nil
                                    clear hS
                                    intro at216 w217 hS hI hp
                                    have hBw217_w := hI.1
                                    have hBw217_w3 := hI.2.1
                                    have hBw217_w9 := hI.2.2.1
                                    have hBw217_w65 := hI.2.2.2.1
                                    have hBw217_w70 := hI.2.2.2.2.1
                                    have hBw217_w214 := hI.2.2.2.2.2
                                    have hv63 : sl _ 63 = .bool (decide (a0_0 = 9)) := hp 1 (by decide)
                                    have hBw217_w217 := Below.refl w217.heap.size w217
                                    have hS := hS.cons hv63
                                    clear hp hI hv63
                                    refine hK215 _ _ ?_
                                    clear hK215 K215
                                    refine wp_cond_false ((hS.get 0 rfl).trans (bF (decide_eq_false d72_3))) ?_
                                    refine wp_seq_k (fun K218 hK218 => ?_)
                                    refine reg_seq (N := 74) (bs := [(63, .bool (decide (a0_0 = 9))), (61, .bool (decide (a0_0 = 8))), (59, .bool (decide (a0_0 = 1))), (57, .bool (decide (a0_0 = 0))), (56, .int .i64 a0_0), (6, .int .u8 5), (5, .slice A66 (((((((([IntKind.u8.wrap a0_0, 18] ++ t15 : List Int) ++ [IntKind.u8.wrap a0_1, 0] : List Int) ++ t30 : List Int) ++ t38 : List Int) ++ [0, 0, 0, 0] : List Int) ++ t53 : List Int) ++ t61 : List Int).length) C66), (17, .bool (decide (a1 > 400))), (4, .slice none 0 0), (2, .pointer (some ⟨g4, 0, none⟩))]) (I := fun x => Below w.heap.size w x ∧ Below w3.heap.size w3 x ∧ Below w9.heap.size w9 x ∧ Below w65.heap.size w65 x ∧ Below w70.heap.size w70 x ∧ Below w217.heap.size w217 x) (ps := [IsV (.bool (decide (a0_0 = 13))), IsV (.bool (decide (a0_0 = 13)))]) (by kernel_rfl) ?_ ?_ rfl hS ⟨hBw217_w, hBw217_w3, hBw217_w9, hBw217_w65, hBw217_w70, hBw217_w217⟩ ?_ ?_
                                    · exact fun x y hI hb => ⟨below_step hI.1 hb, below_step hI.2.1 hb, below_step hI.2.2.1 hb, below_step hI.2.2.2.1 hb, below_step hI.2.2.2.2.1 hb, below_step hI.2.2.2.2.2 hb⟩
                                    · exact AllStay.cons (Stays.v _) (AllStay.cons (Stays.v _) (AllStay.nil))
                                    · refine Steps.cons (fun a w hS hI hp => ok_on rfl (does_val (x_bin rfl (hS.get 4 rfl) (rfl) (b_eql _ _ _ _ _ _)) rfl)) ?_
                                      refine Steps.cons (fun a w hS hI hp => ok_on rfl (does_val (x_assign rfl ((hp.get 0 (by rfl) rfl rfl))) rfl)) ?_
                                      exact Steps.nil
                                    clear hS
                                    intro at219 w220 hS hI hp
                                    have hBw220_w := hI.1
                                    have hBw220_w3 := hI.2.1
                                    have hBw220_w9 := hI.2.2.1
                                    have hBw220_w65 := hI.2.2.2.1
                                    have hBw220_w70 := hI.2.2.2.2.1
                                    have hBw220_w217 := hI.2.2.2.2.2
                                    replace hS := (((((((((hS.nil).cons (hS.get 9 rfl)).cons (hS.get 8 rfl)).cons (hS.get 7 rfl)).cons (hS.get 6 rfl)).cons (hS.get 5 rfl)).cons (hS.get 3 rfl)).cons (hS.get 2 rfl)).cons (hS.get 1 rfl)).cons (hS.get 0 rfl)
                                    have hv65 : sl _ 65 = .bool (decide (a0_0 = 13)) := hp 1 (by decide)
                                    have hBw220_w220 := Below.refl w220.heap.size w220
                                    have hS := hS.cons hv65
                                    clear hp hI hv65
                                    refine hK218 _ _ ?_
                                    clear hK218 K218
                                    refine wp_cond_false ((hS.get 0 rfl).trans (bF (decide_eq_false d72_4))) ?_
                                    refine wp_skip ?_
                                    (try simp only [Exit.then, Exit.inBlock, reduceIte])
                                    exact ⟨by trivial, ((((((hS.nil).cons (hS.get 4 rfl)).cons (hS.get 7 rfl)).cons ((hS.get 5 rfl).trans (congrArg (Value.int .u8) (by simp only [if_neg d72_0, if_neg d72_1, if_neg d72_2, if_neg d72_3, if_neg d72_4])))).cons (hS.get 6 rfl)).cons (hS.get 8 rfl)).cons (hS.get 9 rfl), hBw220_w, hBw220_w3, hBw220_w9, hBw220_w65, hBw220_w70⟩
                        rintro e222 at222 w221 ⟨rfl, hS, hBw221_w, hBw221_w3, hBw221_w9, hBw221_w65, hBw221_w70⟩
                        have hBw221_w221 := Below.refl w221.heap.size w221
                        (try simp only [Exit.then, Exit.inBlock, reduceIte])
                        refine hK71 _ _ ?_
                        clear hK71 K71
                        refine wp_seq_k (fun K223 hK223 => ?_)
                        refine reg_seq_tail 6 (N := 74) (bs := [(2, .pointer (some ⟨g4, 0, none⟩)), (4, .slice none 0 0), (5, .slice A66 (((((((([IntKind.u8.wrap a0_0, 18] ++ t15 : List Int) ++ [IntKind.u8.wrap a0_1, 0] : List Int) ++ t30 : List Int) ++ t38 : List Int) ++ [0, 0, 0, 0] : List Int) ++ t53 : List Int) ++ t61 : List Int).length) C66), (6, .int .u8 (if a0_0 = 0 then 0 else (if a0_0 = 1 then 1 else (if a0_0 = 8 then 2 else (if a0_0 = 9 then 3 else (if a0_0 = 13 then 4 else 5)))))), (17, .bool (decide (a1 > 400))), (57, .bool (decide (a0_0 = 0)))]) (I := fun x => Below w.heap.size w x ∧ Below w3.heap.size w3 x ∧ Below w9.heap.size w9 x ∧ Below w65.heap.size w65 x ∧ Below w221.heap.size w221 x) (ps := [IsV (.slice A66 (((((((([IntKind.u8.wrap a0_0, 18] ++ t15 : List Int) ++ [IntKind.u8.wrap a0_1, 0] : List Int) ++ t30 : List Int) ++ t38 : List Int) ++ [0, 0, 0, 0] : List Int) ++ t53 : List Int) ++ t61 : List Int).length) C66), IsV (.int .u8 (if a0_0 = 0 then 0 else (if a0_0 = 1 then 1 else (if a0_0 = 8 then 2 else (if a0_0 = 9 then 3 else (if a0_0 = 13 then 4 else 5)))))), IsV (.pointer (some ⟨g4, 7, none⟩)), IsV (.int .i64 a0_7), IsV (.int .u8 (IntKind.u8.wrap a0_7)), IsR (Kd.int .u8) 5 w221.heap.size [(if a0_0 = 0 then 0 else (if a0_0 = 1 then 1 else (if a0_0 = 8 then 2 else (if a0_0 = 9 then 3 else (if a0_0 = 13 then 4 else 5))))), IntKind.u8.wrap a0_7]]) (by kernel_rfl) ?_ ?_ rfl hS ⟨hBw221_w, hBw221_w3, hBw221_w9, hBw221_w65, hBw221_w221⟩ ?_ ?_
                        · exact fun x y hI hb => ⟨below_step hI.1 hb, below_step hI.2.1 hb, below_step hI.2.2.1 hb, below_step hI.2.2.2.1 hb, below_step hI.2.2.2.2 hb⟩
                        · exact AllStay.cons (Stays.v _) (AllStay.cons (Stays.v _) (AllStay.cons (Stays.v _) (AllStay.cons (Stays.v _) (AllStay.cons (Stays.v _) (AllStay.cons (Stays.r _ _ _ _) (AllStay.nil))))))
                        · refine Steps.cons (fun a w hS hI hp => ok_on rfl (does_val (x_move rfl (hS.get 2 rfl)) rfl)) ?_
                          refine Steps.cons (fun a w hS hI hp => ok_on rfl (does_val (x_move rfl (hS.get 3 rfl)) rfl)) ?_
                          refine Steps.cons (fun a w hS hI hp => ok_on rfl (does_val (x_field rfl (hS.get 0 rfl) Try.underlying28 rfl (by kernel_rfl)) rfl)) ?_
                          refine Steps.cons (fun a w hS hI hp => ok_on rfl (does_val (x_load1 (d := .int .i64) rfl ((hp.get 2 (by rfl) rfl rfl)) (by kernel_rfl) rfl ((blk_cell (((hI.2.1).block g4 (blk_lt hbxg4)).trans hbxg4) 7).trans rfl)) rfl)) ?_
                          refine Steps.cons (fun a w hS hI hp => ok_on rfl (does_val (x_convI rfl (by kernel_rfl) (by kernel_rfl) ((hp.get 3 (by rfl) rfl rfl))) rfl)) ?_
                          refine Steps.cons (fun a w hS hI hp => ok_on rfl (does_lit w221.heap.size 29 5 2 _ [(0, .int .u8 (if a0_0 = 0 then 0 else (if a0_0 = 1 then 1 else (if a0_0 = 8 then 2 else (if a0_0 = 9 then 3 else (if a0_0 = 13 then 4 else 5)))))), (1, .int .u8 (IntKind.u8.wrap a0_7))] [(if a0_0 = 0 then 0 else (if a0_0 = 1 then 1 else (if a0_0 = 8 then 2 else (if a0_0 = 9 then 3 else (if a0_0 = 13 then 4 else 5))))), IntKind.u8.wrap a0_7] rfl (by kernel_rfl) (by rw [Array.toList_map]; exact (show [(0, a.eval (.tmp 68)), (1, a.eval (.tmp 71))] = _ from (li_cons ((hp.get 1 (by rfl) rfl rfl)) (li_cons ((hp.get 4 (by rfl) rfl rfl)) rfl)))) (by kernel_rfl) rfl (hI.2.2.2.2).size (Nat.le_of_ble_eq_true rfl))) ?_
                          exact Steps.nil
                        clear hS
                        intro at224 w225 hS hI hp
                        have hBw225_w := hI.1
                        have hBw225_w3 := hI.2.1
                        have hBw225_w9 := hI.2.2.1
                        have hBw225_w65 := hI.2.2.2.1
                        have hBw225_w221 := hI.2.2.2.2
                        replace hS := (((hS.nil).cons (hS.get 5 rfl)).cons (hS.get 4 rfl)).cons (hS.get 1 rfl)
                        have hv67 : sl _ 67 = .slice A66 (((((((([IntKind.u8.wrap a0_0, 18] ++ t15 : List Int) ++ [IntKind.u8.wrap a0_1, 0] : List Int) ++ t30 : List Int) ++ t38 : List Int) ++ [0, 0, 0, 0] : List Int) ++ t53 : List Int) ++ t61 : List Int).length) C66 := hp 0 (by decide)
                        obtain ⟨A226, C226, hv72, hl226, hc226⟩ := Kd.R_reads (show Kd.R (Kd.int .u8) 5 w225 w221.heap.size (fun _ => True) (sl _ 72) [(if a0_0 = 0 then 0 else (if a0_0 = 1 then 1 else (if a0_0 = 8 then 2 else (if a0_0 = 9 then 3 else (if a0_0 = 13 then 4 else 5))))), IntKind.u8.wrap a0_7] from hp 5 (by decide))
                        have ho226 : Kd.R (Kd.int .u8) 5 w225 w221.heap.size (fun _ => True) (.slice A226 [(if a0_0 = 0 then 0 else (if a0_0 = 1 then 1 else (if a0_0 = 8 then 2 else (if a0_0 = 9 then 3 else (if a0_0 = 13 then 4 else 5))))), IntKind.u8.wrap a0_7].length C226) [(if a0_0 = 0 then 0 else (if a0_0 = 1 then 1 else (if a0_0 = 8 then 2 else (if a0_0 = 9 then 3 else (if a0_0 = 13 then 4 else 5))))), IntKind.u8.wrap a0_7] := hv72 ▸ (hp 5 (by decide))
                        have hBw225_w225 := Below.refl w225.heap.size w225
                        have hS := hS.cons hv67
                        have hS := hS.cons hv72
                        clear hp hI hv67 hv72
                        show wpList _ _ _ [_, _] _ _
                        refine list_step rfl (does_more (W := w9) (.tmp 67) (.tmp 72) 29 5 1 rfl (by kernel_rfl) (by kernel_rfl) (by decide) _ ((((((([IntKind.u8.wrap a0_0, 18] ++ t15 : List Int) ++ [IntKind.u8.wrap a0_1, 0] : List Int) ++ t30 : List Int) ++ t38 : List Int) ++ [0, 0, 0, 0] : List Int) ++ t53 : List Int) ++ t61 : List Int) [(if a0_0 = 0 then 0 else (if a0_0 = 1 then 1 else (if a0_0 = 8 then 2 else (if a0_0 = 9 then 3 else (if a0_0 = 13 then 4 else 5))))), IntKind.u8.wrap a0_7] _ _ (hS.get 1 rfl) (hS.get 0 rfl) (Kd.R_below hr66 hBw225_w65) (Kd.C_below hc226 hBw225_w225) hBw225_w9 c11) ?_
                        rintro vw227 w227 ⟨hb, hr⟩
                        have hBw227_w := below_step hBw9_w hb
                        have hBw227_w3 := below_step hBw9_w3 hb
                        have hBw227_w9 := hb
                        replace hS := (((hS.nil).cons (hS.get 4 rfl)).cons (hS.get 3 rfl)).cons (hS.get 2 rfl)
                        have hBw227_w227 := Below.refl w227.heap.size w227
                        obtain ⟨A228, C228, rfl, hl228, hc228⟩ := Kd.R_reads hr
                        have hr228 := hr
                        clear hr
                        replace hS := hS.put (v := .slice A228 ((((((((([IntKind.u8.wrap a0_0, 18] ++ t15 : List Int) ++ [IntKind.u8.wrap a0_1, 0] : List Int) ++ t30 : List Int) ++ t38 : List Int) ++ [0, 0, 0, 0] : List Int) ++ t53 : List Int) ++ t61 : List Int) ++ [(if a0_0 = 0 then 0 else (if a0_0 = 1 then 1 else (if a0_0 = 8 then 2 else (if a0_0 = 9 then 3 else (if a0_0 = 13 then 4 else 5))))), IntKind.u8.wrap a0_7] : List Int).length) C228) (d := 73) (by decide) (by rfl)
                        refine list_step rfl (R := fun v w' => Below _ _ w' ∧ (IsV (.slice A228 ((((((((([IntKind.u8.wrap a0_0, 18] ++ t15 : List Int) ++ [IntKind.u8.wrap a0_1, 0] : List Int) ++ t30 : List Int) ++ t38 : List Int) ++ [0, 0, 0, 0] : List Int) ++ t53 : List Int) ++ t61 : List Int) ++ [(if a0_0 = 0 then 0 else (if a0_0 = 1 then 1 else (if a0_0 = 8 then 2 else (if a0_0 = 9 then 3 else (if a0_0 = 13 then 4 else 5))))), IntKind.u8.wrap a0_7] : List Int).length) C228)) v w') (does_val (x_assign rfl (hS.get 0 rfl)) rfl) ?_
                        rintro vw229 w229 ⟨hb, he⟩
                        have hBw229_w := below_step hBw227_w hb
                        have hBw229_w3 := below_step hBw227_w3 hb
                        have hBw229_w9 := below_step hBw227_w9 hb
                        have hBw229_w227 := below_step hBw227_w227 hb
                        have hBw229_w229 := Below.refl w229.heap.size w229
                        obtain rfl : vw229 = .slice A228 ((((((((([IntKind.u8.wrap a0_0, 18] ++ t15 : List Int) ++ [IntKind.u8.wrap a0_1, 0] : List Int) ++ t30 : List Int) ++ t38 : List Int) ++ [0, 0, 0, 0] : List Int) ++ t53 : List Int) ++ t61 : List Int) ++ [(if a0_0 = 0 then 0 else (if a0_0 = 1 then 1 else (if a0_0 = 8 then 2 else (if a0_0 = 9 then 3 else (if a0_0 = 13 then 4 else 5))))), IntKind.u8.wrap a0_7] : List Int).length) C228 := he
                        replace hS := (((hS.nil).cons (hS.get 3 rfl)).cons (hS.get 2 rfl)).cons (hS.get 0 rfl)
                        replace hS := hS.put (v := .slice A228 ((((((((([IntKind.u8.wrap a0_0, 18] ++ t15 : List Int) ++ [IntKind.u8.wrap a0_1, 0] : List Int) ++ t30 : List Int) ++ t38 : List Int) ++ [0, 0, 0, 0] : List Int) ++ t53 : List Int) ++ t61 : List Int) ++ [(if a0_0 = 0 then 0 else (if a0_0 = 1 then 1 else (if a0_0 = 8 then 2 else (if a0_0 = 9 then 3 else (if a0_0 = 13 then 4 else 5))))), IntKind.u8.wrap a0_7] : List Int).length) C228) (d := 4) (by decide) (by rfl)
                        refine wpList_nil ?_
                        refine hK223 _ _ ?_
                        clear hK223 K223
                        refine wp_ret ?_
                        (try simp only [Exit.then, Exit.inBlock])
                        exact bodyPost_ret (v := .slice A228 ((((((((([IntKind.u8.wrap a0_0, 18] ++ t15 : List Int) ++ [IntKind.u8.wrap a0_1, 0] : List Int) ++ t30 : List Int) ++ t38 : List Int) ++ [0, 0, 0, 0] : List Int) ++ t53 : List Int) ++ t61 : List Int) ++ [(if a0_0 = 0 then 0 else (if a0_0 = 1 then 1 else (if a0_0 = 8 then 2 else (if a0_0 = 9 then 3 else (if a0_0 = 13 then 4 else 5))))), IntKind.u8.wrap a0_7] : List Int).length) C228) (results_single rfl (Vals.at (hS.get 0 rfl) .nil)) hS.nodef ⟨.slice A228 ((((((((([IntKind.u8.wrap a0_0, 18] ++ t15 : List Int) ++ [IntKind.u8.wrap a0_1, 0] : List Int) ++ t30 : List Int) ++ t38 : List Int) ++ [0, 0, 0, 0] : List Int) ++ t53 : List Int) ++ t61 : List Int) ++ [(if a0_0 = 0 then 0 else (if a0_0 = 1 then 1 else (if a0_0 = 8 then 2 else (if a0_0 = 9 then 3 else (if a0_0 = 13 then 4 else 5))))), IntKind.u8.wrap a0_7] : List Int).length) C228, rfl, Kd.R_lower (Kd.R_below hr228 hBw229_w227) (hBw9_w).size, hBw229_w⟩
                      · rw [if_neg c11] at H
                        exact absurd H (by simp)
                    · rw [if_neg c10] at H
                      exact absurd H (by simp)
                  · rw [if_neg c9] at H
                    exact absurd H (by simp)
                · rw [if_neg c8] at H
                  exact absurd H (by simp)
              · rw [if_neg c7] at H
                exact absurd H (by simp)
            · rw [if_neg c6] at H
              exact absurd H (by simp)
          · rw [if_neg c5] at H
            exact absurd H (by simp)
        · rw [if_neg c4] at H
          exact absurd H (by simp)
  · rw [if_neg c1] at H
    obtain rfl := Option.some.inj H
    refine calls_of_wp (fn := Try.f11) (by kernel_rfl) rfl ?_
    have hS := St.enter #[.agg #[.int .i64 a0_0, .int .i64 a0_1, .int .i64 a0_2, .int .i64 a0_3, .int .u64 a0_4, .int .i64 a0_5, .int .i64 a0_6, .int .i64 a0_7, .int .i64 a0_8, .int .u64 a0_9, .int .i64 a0_10, .int .i64 a0_11, .int .i64 a0_12, .int .i64 a0_13, .int .i64 a0_14, .int .i64 a0_15, .int .i64 a0_16, .int .u64 a0_17, .int .i64 a0_18, .int .i64 a0_19, .int .i64 a0_20, .int .i64 a0_21, .int .i64 a0_22], .int .i64 a1] 74 (by simp) [(0, .agg #[.int .i64 a0_0, .int .i64 a0_1, .int .i64 a0_2, .int .i64 a0_3, .int .u64 a0_4, .int .i64 a0_5, .int .i64 a0_6, .int .i64 a0_7, .int .i64 a0_8, .int .u64 a0_9, .int .i64 a0_10, .int .i64 a0_11, .int .i64 a0_12, .int .i64 a0_13, .int .i64 a0_14, .int .i64 a0_15, .int .i64 a0_16, .int .u64 a0_17, .int .i64 a0_18, .int .i64 a0_19, .int .i64 a0_20, .int .i64 a0_21, .int .i64 a0_22]), (1, .int .i64 a1)] (by simp)
    have HB0 := Below.refl w.heap.size w
    refine wp_seq_k (fun K1 hK1 => ?_)
    refine reg_seq (N := 74) (bs := [(0, .agg #[.int .i64 a0_0, .int .i64 a0_1, .int .i64 a0_2, .int .i64 a0_3, .int .u64 a0_4, .int .i64 a0_5, .int .i64 a0_6, .int .i64 a0_7, .int .i64 a0_8, .int .u64 a0_9, .int .i64 a0_10, .int .i64 a0_11, .int .i64 a0_12, .int .i64 a0_13, .int .i64 a0_14, .int .i64 a0_15, .int .i64 a0_16, .int .u64 a0_17, .int .i64 a0_18, .int .i64 a0_19, .int .i64 a0_20, .int .i64 a0_21, .int .i64 a0_22]), (1, .int .i64 a1)]) (I := fun x => Below w.heap.size w x) (ps := [IsB #[.int .i64 a0_0, .int .i64 a0_1, .int .i64 a0_2, .int .i64 a0_3, .int .u64 a0_4, .int .i64 a0_5, .int .i64 a0_6, .int .i64 a0_7, .int .i64 a0_8, .int .u64 a0_9, .int .i64 a0_10, .int .i64 a0_11, .int .i64 a0_12, .int .i64 a0_13, .int .i64 a0_14, .int .i64 a0_15, .int .i64 a0_16, .int .u64 a0_17, .int .i64 a0_18, .int .i64 a0_19, .int .i64 a0_20, .int .i64 a0_21, .int .i64 a0_22] 28 w.heap.size, IsV (.slice none 0 0)]) (by kernel_rfl) ?_ ?_ rfl hS HB0 ?_ ?_
    · exact fun x y hI hb => below_step hI hb
    · exact AllStay.cons (Stays.b _ _ _) (AllStay.cons (Stays.v _) (AllStay.nil))
    · refine Steps.cons (fun a w hS hI hp => ok_on rfl (does_var (x_box rfl (congrArg Value.cells (hS.get 0 rfl))) (hI).size)) ?_
      refine Steps.cons (fun a w hS hI hp => ok_on rfl (does_val (x_assign rfl (rfl)) rfl)) ?_
      exact Steps.nil
    clear hS
    intro at2 w3 hS hI hp
    have hBw3_w := hI
    replace hS := (hS.nil).cons (hS.get 1 rfl)
    obtain ⟨g4, hv2, hgeg4, hbxg4⟩ := (show IsB _ 28 _ (sl _ 2) _ from hp 0 (by decide))
    have hv4 : sl _ 4 = .slice none 0 0 := hp 1 (by decide)
    have hBw3_w3 := Below.refl w3.heap.size w3
    have hS := hS.cons hv2
    have hS := hS.cons hv4
    clear hp hI hv2 hv4
    refine hK1 _ _ ?_
    clear hK1 K1
    refine wp_seq_k (fun K5 hK5 => ?_)
    refine wp_seq_k (fun K6 hK6 => ?_)
    refine reg_seq (N := 74) (bs := [(4, .slice none 0 0), (2, .pointer (some ⟨g4, 0, none⟩)), (1, .int .i64 a1)]) (I := fun x => Below w.heap.size w x ∧ Below w3.heap.size w3 x) (ps := [IsV (.agg #[.int .i64 a0_0, .int .i64 a0_1, .int .i64 a0_2, .int .i64 a0_3, .int .u64 a0_4, .int .i64 a0_5, .int .i64 a0_6, .int .i64 a0_7, .int .i64 a0_8, .int .u64 a0_9, .int .i64 a0_10, .int .i64 a0_11, .int .i64 a0_12, .int .i64 a0_13, .int .i64 a0_14, .int .i64 a0_15, .int .i64 a0_16, .int .u64 a0_17, .int .i64 a0_18, .int .i64 a0_19, .int .i64 a0_20, .int .i64 a0_21, .int .i64 a0_22]), IsV (.bool t7), IsV (.bool (!t7)), IsV (.bool (!t7)), IsV undef, IsV undef, IsV (.bool true), IsV (.bool true), IsV undef, IsV undef, IsV (.bool true)]) (by kernel_rfl) ?_ ?_ rfl hS ⟨hBw3_w, hBw3_w3⟩ ?_ ?_
    · exact fun x y hI hb => ⟨below_step hI.1 hb, below_step hI.2 hb⟩
    · exact AllStay.cons (Stays.v _) (AllStay.cons (Stays.v _) (AllStay.cons (Stays.v _) (AllStay.cons (Stays.v _) (AllStay.cons (Stays.v _) (AllStay.cons (Stays.v _) (AllStay.cons (Stays.v _) (AllStay.cons (Stays.v _) (AllStay.cons (Stays.v _) (AllStay.cons (Stays.v _) (AllStay.cons (Stays.v _) (AllStay.nil)))))))))))
    · refine Steps.cons (fun a w hS hI hp => ok_on rfl (does_loadrow rfl (hS.get 1 rfl) (((hI.2).block g4 (blk_lt hbxg4)).trans hbxg4) Try.underlying28 rfl (by kernel_rfl) rfl)) ?_
      refine Steps.cons (fun a w hS hI hp => ok_on rfl (does_call (by kernel_rfl) (ar1 ((hp.get 0 (by rfl) rfl rfl))) ((carillonref06_Check.calls a0_0 a0_1 a0_2 a0_3 a0_4 a0_5 a0_6 a0_7 a0_8 a0_9 a0_10 a0_11 a0_12 a0_13 a0_14 a0_15 a0_16 a0_17 a0_18 a0_19 a0_20 a0_21 a0_22 t7 _  At7).mono fun _ _ h => ⟨_, h.1, h.2, rfl⟩))) ?_
      refine Steps.cons (fun a w hS hI hp => ok_on rfl (does_val (x_not rfl ((hp.get 1 (by rfl) rfl rfl))) rfl)) ?_
      refine Steps.cons (fun a w hS hI hp => ok_on rfl (does_val (x_move rfl ((hp.get 2 (by rfl) rfl rfl))) rfl)) ?_
      refine Steps.cons (fun a w hS hI hp => ok_off (d := 10) rfl rfl (by rw [hS.size]; decide) (((hp.get 3 (by rfl) rfl rfl)).trans (bT (congrArg (!·) (Bool.eq_false_iff.2 c1)))) rfl) ?_
      refine Steps.cons (fun a w hS hI hp => ok_off (d := 10) rfl rfl (by rw [hS.size]; decide) (((hp.get 3 (by rfl) rfl rfl)).trans (bT (congrArg (!·) (Bool.eq_false_iff.2 c1)))) rfl) ?_
      refine Steps.cons (fun a w hS hI hp => ok_on rfl (does_val (x_pickT rfl (((hp.get 3 (by rfl) rfl rfl)).trans (bT (congrArg (!·) (Bool.eq_false_iff.2 c1)))) (rfl)) rfl)) ?_
      refine Steps.cons (fun a w hS hI hp => ok_on rfl (does_val (x_move rfl ((hp.get 6 (by rfl) rfl rfl))) rfl)) ?_
      refine Steps.cons (fun a w hS hI hp => ok_off (d := 14) rfl rfl (by rw [hS.size]; decide) (((hp.get 7 (by rfl) rfl rfl)).trans (bT rfl)) rfl) ?_
      refine Steps.cons (fun a w hS hI hp => ok_off (d := 14) rfl rfl (by rw [hS.size]; decide) (((hp.get 7 (by rfl) rfl rfl)).trans (bT rfl)) rfl) ?_
      refine Steps.cons (fun a w hS hI hp => ok_on rfl (does_val (x_pickT rfl (((hp.get 7 (by rfl) rfl rfl)).trans (bT rfl)) (rfl)) rfl)) ?_
      exact Steps.nil
    clear hS
    intro at8 w9 hS hI hp
    have hBw9_w := hI.1
    have hBw9_w3 := hI.2
    have hv17 : sl _ 17 = .bool true := hp 10 (by decide)
    have hBw9_w9 := Below.refl w9.heap.size w9
    have hS := hS.cons hv17
    clear hp hI hv17
    refine hK6 _ _ ?_
    clear hK6 K6
    refine wp_cond_true ((hS.get 0 rfl).trans (bT rfl)) ?_
    refine wp_seq_k (fun K10 hK10 => ?_)
    replace hS := (((hS.nil).cons (hS.get 3 rfl)).cons (hS.get 2 rfl)).cons (hS.get 0 rfl)
    refine reg_seq (N := 74) (bs := [(17, .bool true), (2, .pointer (some ⟨g4, 0, none⟩)), (1, .int .i64 a1)]) (I := fun x => Below w.heap.size w x ∧ Below w3.heap.size w3 x ∧ Below w9.heap.size w9 x) (ps := [IsV (.slice none 0 0)]) (by kernel_rfl) ?_ ?_ rfl hS ⟨hBw9_w, hBw9_w3, hBw9_w9⟩ ?_ ?_
    · exact fun x y hI hb => ⟨below_step hI.1 hb, below_step hI.2.1 hb, below_step hI.2.2 hb⟩
    · exact AllStay.cons (Stays.v _) (AllStay.nil)
    · refine Steps.cons (fun a w hS hI hp => ok_on rfl (does_val (x_assign rfl (rfl)) rfl)) ?_
      exact Steps.nil
    clear hS
    intro at11 w12 hS hI hp
    have hBw12_w := hI.1
    have hBw12_w3 := hI.2.1
    have hBw12_w9 := hI.2.2
    have hv4 : sl _ 4 = .slice none 0 0 := hp 0 (by decide)
    have hBw12_w12 := Below.refl w12.heap.size w12
    have hS := hS.cons hv4
    clear hp hI hv4
    refine hK10 _ _ ?_
    clear hK10 K10
    refine wp_ret ?_
    (try simp only [Exit.then, Exit.inBlock])
    exact bodyPost_ret (v := .slice none 0 0) (results_single rfl (Vals.at (hS.get 0 rfl) .nil)) hS.nodef ⟨.slice none 0 0, rfl, Kd.R_nil _ _ _ _ _, hBw12_w⟩

end Go.Proofs.Ytcflafkafbpibaa.P
