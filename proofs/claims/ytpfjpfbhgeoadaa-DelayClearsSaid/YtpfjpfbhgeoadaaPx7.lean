/- Functions and loops of the given program as Lean functions, and that the code comes to what they say: written by this session's own program; Lean checks it. -/
import Derived.Test.YtpfjpfbhgeoadaaPx0
import Derived.Test.YtpfjpfbhgeoadaaPx1
import Derived.Test.YtpfjpfbhgeoadaaPx2
import Derived.Test.YtpfjpfbhgeoadaaPx3
import Derived.Test.YtpfjpfbhgeoadaaPx4
namespace Go.Proofs.Ytpfjpfbhgeoadaa.P
open Go.RowKit Go.Proofs.YtpfjpfbhgeoadaaW.PrintWords Go.Proofs.YtpfjpfbhgeoadaaW.PrintLast Go.Proofs.YtpfjpfbhgeoadaaW.PrintMore
attribute [local go_sem] max2_int min2_int max_two min_two max_three min_three max_four min_four   -- for this text's walks alone
set_option linter.unusedVariables false
set_option linter.unusedSimpArgs false

/-! ### carillonlaw17_DelayClears: function 6: by our own printer -/
def carillonlaw17_DelayClears.f (a0_0 : Int) (a0_1 : Int) (a1 : Int) : Option (Bool) := (delay_New.f a0_0 a0_1 0).bind fun t6 => ((delay_Exchange_Request.f t6.1 t6.2.1 t6.2.2.1 t6.2.2.2.1 t6.2.2.2.2.1 t6.2.2.2.2.2.1 t6.2.2.2.2.2.2 a1 0).bind fun t19 => ((delay_Exchange_Sent.f t19.2.2.2.2.2.2.2.2.2.2.2.2.2.2.2.2.2.2.2.2.2.2.2.1 t19.2.2.2.2.2.2.2.2.2.2.2.2.2.2.2.2.2.2.2.2.2.2.2.2.1 t19.2.2.2.2.2.2.2.2.2.2.2.2.2.2.2.2.2.2.2.2.2.2.2.2.2.1 t19.2.2.2.2.2.2.2.2.2.2.2.2.2.2.2.2.2.2.2.2.2.2.2.2.2.2.1 t19.2.2.2.2.2.2.2.2.2.2.2.2.2.2.2.2.2.2.2.2.2.2.2.2.2.2.2.1 t19.2.2.2.2.2.2.2.2.2.2.2.2.2.2.2.2.2.2.2.2.2.2.2.2.2.2.2.2.1 t19.2.2.2.2.2.2.2.2.2.2.2.2.2.2.2.2.2.2.2.2.2.2.2.2.2.2.2.2.2 t19.2.2.2.2.2.2.1 10).bind fun t31 => ((delay_Answer.f t19.1 t19.2.1 t19.2.2.1 t19.2.2.2.1 t19.2.2.2.2.1 t19.2.2.2.2.2.1 t19.2.2.2.2.2.2.1 t19.2.2.2.2.2.2.2.1 t19.2.2.2.2.2.2.2.2.1 t19.2.2.2.2.2.2.2.2.2.1 t19.2.2.2.2.2.2.2.2.2.2.1 t19.2.2.2.2.2.2.2.2.2.2.2.1 t19.2.2.2.2.2.2.2.2.2.2.2.2.1 t19.2.2.2.2.2.2.2.2.2.2.2.2.2.1 t19.2.2.2.2.2.2.2.2.2.2.2.2.2.2.1 t19.2.2.2.2.2.2.2.2.2.2.2.2.2.2.2.1 t19.2.2.2.2.2.2.2.2.2.2.2.2.2.2.2.2.1 t19.2.2.2.2.2.2.2.2.2.2.2.2.2.2.2.2.2.1 t19.2.2.2.2.2.2.2.2.2.2.2.2.2.2.2.2.2.2.1 t19.2.2.2.2.2.2.2.2.2.2.2.2.2.2.2.2.2.2.2.1 t19.2.2.2.2.2.2.2.2.2.2.2.2.2.2.2.2.2.2.2.2.1 t19.2.2.2.2.2.2.2.2.2.2.2.2.2.2.2.2.2.2.2.2.2.1 t19.2.2.2.2.2.2.2.2.2.2.2.2.2.2.2.2.2.2.2.2.2.2.1 8 1 50 3).bind fun t35 => ((delay_Exchange_Clear.f t31.2.1 t31.2.2.1 t31.2.2.2.1 t31.2.2.2.2.1 t31.2.2.2.2.2.1 t31.2.2.2.2.2.2.1 t31.2.2.2.2.2.2.2).bind fun t49 => ((delay_Exchange_Response.f t49.1 t49.2.1 t49.2.2.1 t49.2.2.2.1 t49.2.2.2.2.1 t49.2.2.2.2.2.1 t49.2.2.2.2.2.2 t35.1 t35.2.1 t35.2.2.1 t35.2.2.2.1 t35.2.2.2.2.1 t35.2.2.2.2.2.1 t35.2.2.2.2.2.2.1 t35.2.2.2.2.2.2.2.1 t35.2.2.2.2.2.2.2.2.1 t35.2.2.2.2.2.2.2.2.2.1 t35.2.2.2.2.2.2.2.2.2.2.1 t35.2.2.2.2.2.2.2.2.2.2.2.1 t35.2.2.2.2.2.2.2.2.2.2.2.2.1 t35.2.2.2.2.2.2.2.2.2.2.2.2.2.1 t35.2.2.2.2.2.2.2.2.2.2.2.2.2.2.1 t35.2.2.2.2.2.2.2.2.2.2.2.2.2.2.2.1 t35.2.2.2.2.2.2.2.2.2.2.2.2.2.2.2.2.1 t35.2.2.2.2.2.2.2.2.2.2.2.2.2.2.2.2.2.1 t35.2.2.2.2.2.2.2.2.2.2.2.2.2.2.2.2.2.2.1 t35.2.2.2.2.2.2.2.2.2.2.2.2.2.2.2.2.2.2.2.1 t35.2.2.2.2.2.2.2.2.2.2.2.2.2.2.2.2.2.2.2.2.1 t35.2.2.2.2.2.2.2.2.2.2.2.2.2.2.2.2.2.2.2.2.2.1 t35.2.2.2.2.2.2.2.2.2.2.2.2.2.2.2.2.2.2.2.2.2.2.1).bind fun t57 => (if t35.2.2.2.2.2.2.2.2.2.2.2.2.2.2.2.2.2.2.2.2.2.2.2 = true then (if t57.2.1 = true then (some false) else ((delay_Exchange_Sent.f t57.2.2.1 t57.2.2.2.1 t57.2.2.2.2.1 t57.2.2.2.2.2.1 t57.2.2.2.2.2.2.1 t57.2.2.2.2.2.2.2.1 t57.2.2.2.2.2.2.2.2 t19.2.2.2.2.2.2.1 11).bind fun t75 => (if t75.1 = true then (some false) else (if t35.2.2.2.2.2.2.2.1 = 3 then (if t35.1 = 9 then ((carillonlaw17_awake.f ).bind fun t106 => (some t106)) else (some false)) else (some false))))) else (some false)))))))
open Go.Proofs.Ytpfjpfbhgeoadaa.E in
set_option maxHeartbeats 8000000 in
set_option maxRecDepth 100000 in
theorem carillonlaw17_DelayClears.calls (a0_0 : Int) (a0_1 : Int) (a1 : Int) (w : World) (h : carillonlaw17_DelayClears.f a0_0 a0_1 a1 = some true) :
    Calls Try.prog 6 #[.agg #[.int .u64 a0_0, .int .i64 a0_1], .int .i64 a1] w fun e w' => e = .returned (.bool true) ∧ Below w.heap.size w w' := by
  have H := h
  clear h
  unfold carillonlaw17_DelayClears.f at H
  obtain ⟨t6, At6, H⟩ := Option.bind_eq_some_iff.mp H
  obtain ⟨t6_1, t6_2, t6_3, t6_4, t6_5, t6_6, t6_7⟩ := t6
  (try dsimp only at H)
  obtain ⟨t19, At19, H⟩ := Option.bind_eq_some_iff.mp H
  obtain ⟨t19_1, t19_2, t19_3, t19_4, t19_5, t19_6, t19_7, t19_8, t19_9, t19_10, t19_11, t19_12, t19_13, t19_14, t19_15, t19_16, t19_17, t19_18, t19_19, t19_20, t19_21, t19_22, t19_23, t19_24, t19_25, t19_26, t19_27, t19_28, t19_29, t19_30⟩ := t19
  (try dsimp only at H)
  obtain ⟨t31, At31, H⟩ := Option.bind_eq_some_iff.mp H
  obtain ⟨t31_1, t31_2, t31_3, t31_4, t31_5, t31_6, t31_7, t31_8⟩ := t31
  (try dsimp only at H)
  obtain ⟨t35, At35, H⟩ := Option.bind_eq_some_iff.mp H
  obtain ⟨t35_1, t35_2, t35_3, t35_4, t35_5, t35_6, t35_7, t35_8, t35_9, t35_10, t35_11, t35_12, t35_13, t35_14, t35_15, t35_16, t35_17, t35_18, t35_19, t35_20, t35_21, t35_22, t35_23, t35_24⟩ := t35
  (try dsimp only at H)
  obtain ⟨t49, At49, H⟩ := Option.bind_eq_some_iff.mp H
  obtain ⟨t49_1, t49_2, t49_3, t49_4, t49_5, t49_6, t49_7⟩ := t49
  (try dsimp only at H)
  obtain ⟨t57, At57, H⟩ := Option.bind_eq_some_iff.mp H
  obtain ⟨t57_1, t57_2, t57_3, t57_4, t57_5, t57_6, t57_7, t57_8, t57_9⟩ := t57
  (try dsimp only at H)
  by_cases c1 : t35_24 = true
  · rw [if_pos c1] at H
    by_cases c2 : t57_2 = true
    · rw [if_pos c2] at H
      exact absurd H (by simp)
    · rw [if_neg c2] at H
      obtain ⟨t75, At75, H⟩ := Option.bind_eq_some_iff.mp H
      obtain ⟨t75_1, t75_2, t75_3, t75_4, t75_5, t75_6, t75_7, t75_8⟩ := t75
      (try dsimp only at H)
      by_cases c3 : t75_1 = true
      · rw [if_pos c3] at H
        exact absurd H (by simp)
      · rw [if_neg c3] at H
        by_cases c4 : t35_8 = 3
        · rw [if_pos c4] at H
          by_cases c5 : t35_1 = 9
          · rw [if_pos c5] at H
            obtain ⟨t106, At106, H⟩ := Option.bind_eq_some_iff.mp H
            have hret := Option.some.inj H
            clear H
            refine calls_of_wp (fn := Try.f6) (by kernel_rfl) rfl ?_
            have hS := St.enter #[.agg #[.int .u64 a0_0, .int .i64 a0_1], .int .i64 a1] 61 (by simp) [(0, .agg #[.int .u64 a0_0, .int .i64 a0_1]), (1, .int .i64 a1)] (by simp)
            have HB0 := Below.refl w.heap.size w
            refine wp_seq_k (fun K1 hK1 => ?_)
            refine reg_seq (N := 61) (bs := [(0, .agg #[.int .u64 a0_0, .int .i64 a0_1]), (1, .int .i64 a1)]) (I := fun x => Below w.heap.size w x) (ps := [IsB #[.int .u64 a0_0, .int .i64 a0_1] 24 w.heap.size, IsV (.bool false)]) (by kernel_rfl) ?_ ?_ rfl hS HB0 ?_ ?_
            · exact fun x y hI hb => below_step hI hb
            · exact AllStay.cons (Stays.b _ _ _) (AllStay.cons (Stays.v _) (AllStay.nil))
            · refine Steps.cons (fun a w hS hI hp => ok_on rfl (does_var (x_box rfl (congrArg Value.cells (hS.get 0 rfl))) (hI).size)) ?_
              refine Steps.cons (fun a w hS hI hp => ok_on rfl (does_val (x_assign rfl (rfl)) rfl)) ?_
              exact Steps.nil
            clear hS
            intro at2 w3 hS hI hp
            have hBw3_w := hI
            replace hS := (hS.nil).cons (hS.get 1 rfl)
            obtain ⟨g4, hv2, hgeg4, hbxg4⟩ := (show IsB _ 24 _ (sl _ 2) _ from hp 0 (by decide))
            have hv4 : sl _ 4 = .bool false := hp 1 (by decide)
            have hBw3_w3 := Below.refl w3.heap.size w3
            have hS := hS.cons hv2
            have hS := hS.cons hv4
            clear hp hI hv2 hv4
            refine hK1 _ _ ?_
            clear hK1 K1
            refine wp_seq_k (fun K5 hK5 => ?_)
            refine reg_seq (N := 61) (bs := [(4, .bool false), (2, .pointer (some ⟨g4, 0, none⟩)), (1, .int .i64 a1)]) (I := fun x => Below w.heap.size w x ∧ Below w3.heap.size w3 x) (ps := [IsV (.agg #[.int .u64 a0_0, .int .i64 a0_1]), IsB #[.int .u64 t6_1, .int .i64 t6_2, .int .i64 t6_3, .int .i64 t6_4, .int .i64 t6_5, .bool t6_6, .bool t6_7] 54 w3.heap.size, IsB #[.int .u64 t6_1, .int .i64 t6_2, .int .i64 t6_3, .int .i64 t6_4, .int .i64 t6_5, .bool t6_6, .bool t6_7] 54 w3.heap.size]) (by kernel_rfl) ?_ ?_ rfl hS ⟨hBw3_w, hBw3_w3⟩ ?_ ?_
            · exact fun x y hI hb => ⟨below_step hI.1 hb, below_step hI.2 hb⟩
            · exact AllStay.cons (Stays.v _) (AllStay.cons (Stays.b _ _ _) (AllStay.cons (Stays.b _ _ _) (AllStay.nil)))
            · refine Steps.cons (fun a w hS hI hp => ok_on rfl (does_loadrow rfl (hS.get 1 rfl) (((hI.2).block g4 (blk_lt hbxg4)).trans hbxg4) Try.underlying24 rfl (by kernel_rfl) rfl)) ?_
              refine Steps.cons (fun a w hS hI hp => ok_on rfl (does_call (by kernel_rfl) (ar2 ((hp.get 0 (by rfl) rfl rfl)) (rfl)) ((delay_New.calls a0_0 a0_1 0 t6_1 t6_2 t6_3 t6_4 t6_5 t6_6 t6_7 _  At6).mono fun _ _ h => h.elim fun g_ h => ⟨_, h.1, h.2.2.2, g_, rfl, Nat.le_trans hI.2.size h.2.1, h.2.2.1⟩))) ?_
              refine Steps.cons (fun a w hS hI hp => ok_on rfl (does_val (x_assign rfl rfl) ((hp.get 1 (by rfl) rfl rfl)))) ?_
              exact Steps.nil
            clear hS
            intro at7 w8 hS hI hp
            have hBw8_w := hI.1
            have hBw8_w3 := hI.2
            replace hS := ((hS.nil).cons (hS.get 2 rfl)).cons (hS.get 0 rfl)
            obtain ⟨g9, hv5, hgeg9, hbxg9⟩ := (show IsB _ 54 _ (sl _ 5) _ from hp 2 (by decide))
            have hne10 : g9 ≠ g4 := Nat.ne_of_gt (Nat.lt_of_lt_of_le (blk_lt ((hBw3_w3.block g4 (blk_lt hbxg4)).trans hbxg4)) hgeg9)
            have hBw8_w8 := Below.refl w8.heap.size w8
            have hS := hS.cons hv5
            clear hp hI hv5
            refine hK5 _ _ ?_
            clear hK5 K5
            refine wp_seq_k (fun K11 hK11 => ?_)
            refine wp_seq_k (fun K12 hK12 => ?_)
            refine reg_seq (N := 61) (bs := [(5, .pointer (some ⟨g9, 0, none⟩)), (4, .bool false), (1, .int .i64 a1)]) (I := fun x => Below w.heap.size w x ∧ Below w3.heap.size w3 x ∧ Below w8.heap.size w8 x) (ps := [IsV (.pointer (some ⟨g9, 0, none⟩)), IsV (.bool false)]) (by kernel_rfl) ?_ ?_ rfl hS ⟨hBw8_w, hBw8_w3, hBw8_w8⟩ ?_ ?_
            · exact fun x y hI hb => ⟨below_step hI.1 hb, below_step hI.2.1 hb, below_step hI.2.2 hb⟩
            · exact AllStay.cons (Stays.v _) (AllStay.cons (Stays.v _) (AllStay.nil))
            · refine Steps.cons (fun a w hS hI hp => ok_on rfl (does_val (x_move rfl (hS.get 0 rfl)) rfl)) ?_
              refine Steps.cons (fun a w hS hI hp => ok_on rfl (does_val (x_bin rfl ((hp.get 0 (by rfl) rfl rfl)) (rfl) (b_eqp 26 54 _ _ _ Try.underlying26)) rfl)) ?_
              exact Steps.nil
            clear hS
            intro at13 w14 hS hI hp
            have hBw14_w := hI.1
            have hBw14_w3 := hI.2.1
            have hBw14_w8 := hI.2.2
            have hv14 : sl _ 14 = .bool false := hp 1 (by decide)
            have hBw14_w14 := Below.refl w14.heap.size w14
            have hS := hS.cons hv14
            clear hp hI hv14
            refine hK12 _ _ ?_
            clear hK12 K12
            refine wp_cond_false ((hS.get 0 rfl).trans (bF rfl)) ?_
            refine wp_skip ?_
            refine hK11 _ _ ?_
            clear hK11 K11
            refine wp_seq_k (fun K15 hK15 => ?_)
            refine reg_seq_tail 2 (N := 61) (bs := [(14, .bool false), (5, .pointer (some ⟨g9, 0, none⟩)), (4, .bool false), (1, .int .i64 a1)]) (I := fun x => Below w.heap.size w x ∧ Below w3.heap.size w3 x ∧ Below w8.heap.size w8 x ∧ Below w14.heap.size w14 x) (ps := [IsV (.pointer (some ⟨g9, 0, none⟩)), IsV (.int .i64 a1)]) (by kernel_rfl) ?_ ?_ rfl hS ⟨hBw14_w, hBw14_w3, hBw14_w8, hBw14_w14⟩ ?_ ?_
            · exact fun x y hI hb => ⟨below_step hI.1 hb, below_step hI.2.1 hb, below_step hI.2.2.1 hb, below_step hI.2.2.2 hb⟩
            · exact AllStay.cons (Stays.v _) (AllStay.cons (Stays.v _) (AllStay.nil))
            · refine Steps.cons (fun a w hS hI hp => ok_on rfl (does_val (x_move rfl (hS.get 1 rfl)) rfl)) ?_
              refine Steps.cons (fun a w hS hI hp => ok_on rfl (does_val (x_move rfl (hS.get 3 rfl)) rfl)) ?_
              exact Steps.nil
            clear hS
            intro at16 w17 hS hI hp
            have hBw17_w := hI.1
            have hBw17_w3 := hI.2.1
            have hBw17_w8 := hI.2.2.1
            have hBw17_w14 := hI.2.2.2
            replace hS := (((hS.nil).cons (hS.get 2 rfl)).cons (hS.get 1 rfl)).cons (hS.get 0 rfl)
            have hv15 : sl _ 15 = .pointer (some ⟨g9, 0, none⟩) := hp 0 (by decide)
            have hv16 : sl _ 16 = .int .i64 a1 := hp 1 (by decide)
            have hBw17_w17 := Below.refl w17.heap.size w17
            have hS := hS.cons hv15
            have hS := hS.cons hv16
            clear hp hI hv15 hv16
            show wpList _ _ _ [_, _, _] _ _
            refine list_step rfl (R := fun v w' => v = .agg #[.int .i64 t19_1, .int .i64 t19_2, .int .i64 t19_3, .int .i64 t19_4, .int .u64 t19_5, .int .i64 t19_6, .int .i64 t19_7, .int .i64 t19_8, .int .i64 t19_9, .int .u64 t19_10, .int .i64 t19_11, .int .i64 t19_12, .int .i64 t19_13, .int .i64 t19_14, .int .i64 t19_15, .int .i64 t19_16, .int .i64 t19_17, .int .u64 t19_18, .int .i64 t19_19, .int .i64 t19_20, .int .i64 t19_21, .int .i64 t19_22, .int .i64 t19_23] ∧ w'.heap[g9]? = some (.cells #[.int .u64 t19_24, .int .i64 t19_25, .int .i64 t19_26, .int .i64 t19_27, .int .i64 t19_28, .bool t19_29, .bool t19_30] 54 (0, 0)) ∧ Tch g9 _ w') (does_call (by kernel_rfl) (ar3 (hS.get 1 rfl) (hS.get 0 rfl) (rfl)) ((delay_Exchange_Request.calls g9 t6_1 t6_2 t6_3 t6_4 t6_5 t6_6 t6_7 a1 0 t19_1 t19_2 t19_3 t19_4 t19_5 t19_6 t19_7 t19_8 t19_9 t19_10 t19_11 t19_12 t19_13 t19_14 t19_15 t19_16 t19_17 t19_18 t19_19 t19_20 t19_21 t19_22 t19_23 t19_24 t19_25 t19_26 t19_27 t19_28 t19_29 t19_30 _ ((hBw17_w8.block g9 (blk_lt hbxg9)).trans hbxg9) At19).mono fun _ _ h => ⟨_, h.1, rfl, h.2⟩)) ?_
            rintro vw18 w18 ⟨rfl, hbxw18, hT⟩
            have hBw18_w := hT.below hBw17_w (Nat.le_trans (hBw3_w).size hgeg9) (hBw17_w).size
            have hBw18_w3 := hT.below hBw17_w3 hgeg9 (hBw17_w3).size
            have hBw18_w18 := Below.refl w18.heap.size w18
            clear hT
            refine hS.next (v := .agg #[.int .i64 t19_1, .int .i64 t19_2, .int .i64 t19_3, .int .i64 t19_4, .int .u64 t19_5, .int .i64 t19_6, .int .i64 t19_7, .int .i64 t19_8, .int .i64 t19_9, .int .u64 t19_10, .int .i64 t19_11, .int .i64 t19_12, .int .i64 t19_13, .int .i64 t19_14, .int .i64 t19_15, .int .i64 t19_16, .int .i64 t19_17, .int .u64 t19_18, .int .i64 t19_19, .int .i64 t19_20, .int .i64 t19_21, .int .i64 t19_22, .int .i64 t19_23]) (d := 17) rfl (by decide) (by rfl) ?_
            clear hS
            intro at20 hS
            refine list_step rfl (R := fun v w' => Below _ _ w' ∧ (IsB #[.int .i64 0, .int .i64 0, .int .i64 0, .int .i64 0, .int .u64 0, .int .i64 0, .int .i64 0, .int .i64 0, .int .i64 0, .int .u64 0, .int .i64 0, .int .i64 0, .int .i64 0, .int .i64 0, .int .i64 0, .int .i64 0, .int .i64 0, .int .u64 0, .int .i64 0, .int .i64 0, .int .i64 0, .int .i64 0, .int .i64 0] 34 w18.heap.size) v w') (does_var (x_alloc rfl (by kernel_rfl)) (hBw18_w18).size) ?_
            rintro vw21 w21 ⟨hb, he⟩
            have hBw21_w := below_step hBw18_w hb
            have hBw21_w3 := below_step hBw18_w3 hb
            have hBw21_w18 := below_step hBw18_w18 hb
            have hBw21_w21 := Below.refl w21.heap.size w21
            obtain ⟨g22, rfl, hgeg22, hbxg22⟩ := he
            have hne23 : g22 ≠ g4 := Nat.ne_of_gt (Nat.lt_of_lt_of_le (blk_lt ((hBw18_w3.block g4 (blk_lt hbxg4)).trans hbxg4)) hgeg22)
            have hne24 : g22 ≠ g9 := Nat.ne_of_gt (Nat.lt_of_lt_of_le (blk_lt ((hBw18_w18.block g9 (blk_lt hbxw18)).trans hbxw18)) hgeg22)
            refine hS.next (v := .pointer (some ⟨g22, 0, none⟩)) (d := 6) rfl (by decide) (by rfl) ?_
            clear hS
            intro at25 hS
            refine list_step rfl (does_storeAll (g := g22) (cs := #[.int .i64 t19_1, .int .i64 t19_2, .int .i64 t19_3, .int .i64 t19_4, .int .u64 t19_5, .int .i64 t19_6, .int .i64 t19_7, .int .i64 t19_8, .int .i64 t19_9, .int .u64 t19_10, .int .i64 t19_11, .int .i64 t19_12, .int .i64 t19_13, .int .i64 t19_14, .int .i64 t19_15, .int .i64 t19_16, .int .i64 t19_17, .int .u64 t19_18, .int .i64 t19_19, .int .i64 t19_20, .int .i64 t19_21, .int .i64 t19_22, .int .i64 t19_23]) rfl (hS.get 0 rfl) (hS.get 1 rfl) ((hBw21_w21.block g22 (blk_lt hbxg22)).trans hbxg22) (by kernel_rfl) (by kernel_rfl) (by kernel_rfl)) ?_
            rintro vw26 w26 ⟨rfl, hbxw26, hT⟩
            have hBw26_w := hT.below hBw21_w (Nat.le_trans (hBw18_w).size hgeg22) (hBw21_w).size
            have hBw26_w3 := hT.below hBw21_w3 (Nat.le_trans (hBw18_w3).size hgeg22) (hBw21_w3).size
            have hBw26_w18 := hT.below hBw21_w18 hgeg22 (hBw21_w18).size
            have hBw26_w26 := Below.refl w26.heap.size w26
            clear hT
            refine wpList_nil ?_
            refine hK15 _ _ ?_
            clear hK15 K15
            refine wp_seq_k (fun K27 hK27 => ?_)
            refine reg_seq_tail 3 (N := 61) (bs := [(6, .pointer (some ⟨g22, 0, none⟩)), (17, .agg #[.int .i64 t19_1, .int .i64 t19_2, .int .i64 t19_3, .int .i64 t19_4, .int .u64 t19_5, .int .i64 t19_6, .int .i64 t19_7, .int .i64 t19_8, .int .i64 t19_9, .int .u64 t19_10, .int .i64 t19_11, .int .i64 t19_12, .int .i64 t19_13, .int .i64 t19_14, .int .i64 t19_15, .int .i64 t19_16, .int .i64 t19_17, .int .u64 t19_18, .int .i64 t19_19, .int .i64 t19_20, .int .i64 t19_21, .int .i64 t19_22, .int .i64 t19_23]), (16, .int .i64 a1), (15, .pointer (some ⟨g9, 0, none⟩)), (14, .bool false), (5, .pointer (some ⟨g9, 0, none⟩)), (4, .bool false)]) (I := fun x => Below w.heap.size w x ∧ Below w3.heap.size w3 x ∧ Below w18.heap.size w18 x ∧ Below w26.heap.size w26 x) (ps := [IsV (.pointer (some ⟨g9, 0, none⟩)), IsV (.pointer (some ⟨g22, 6, none⟩)), IsV (.int .i64 t19_7)]) (by kernel_rfl) ?_ ?_ rfl hS ⟨hBw26_w, hBw26_w3, hBw26_w18, hBw26_w26⟩ ?_ ?_
            · exact fun x y hI hb => ⟨below_step hI.1 hb, below_step hI.2.1 hb, below_step hI.2.2.1 hb, below_step hI.2.2.2 hb⟩
            · exact AllStay.cons (Stays.v _) (AllStay.cons (Stays.v _) (AllStay.cons (Stays.v _) (AllStay.nil)))
            · refine Steps.cons (fun a w hS hI hp => ok_on rfl (does_val (x_move rfl (hS.get 5 rfl)) rfl)) ?_
              refine Steps.cons (fun a w hS hI hp => ok_on rfl (does_val (x_field rfl (hS.get 0 rfl) Try.underlying34 rfl (by kernel_rfl)) rfl)) ?_
              refine Steps.cons (fun a w hS hI hp => ok_on rfl (does_val (x_load1 (d := .int .i64) rfl ((hp.get 1 (by rfl) rfl rfl)) (by kernel_rfl) rfl ((blk_cell (((hI.2.2.2).block g22 (blk_lt hbxw26)).trans hbxw26) 6).trans rfl)) rfl)) ?_
              exact Steps.nil
            clear hS
            intro at28 w29 hS hI hp
            have hBw29_w := hI.1
            have hBw29_w3 := hI.2.1
            have hBw29_w18 := hI.2.2.1
            have hBw29_w26 := hI.2.2.2
            replace hS := ((((hS.nil).cons (hS.get 6 rfl)).cons (hS.get 5 rfl)).cons (hS.get 4 rfl)).cons (hS.get 0 rfl)
            have hv18 : sl _ 18 = .pointer (some ⟨g9, 0, none⟩) := hp 0 (by decide)
            have hv20 : sl _ 20 = .int .i64 t19_7 := hp 2 (by decide)
            have hBw29_w29 := Below.refl w29.heap.size w29
            have hS := hS.cons hv18
            have hS := hS.cons hv20
            clear hp hI hv18 hv20
            show wpList _ _ _ [_] _ _
            refine list_step rfl (R := fun v w' => v = .bool t31_1 ∧ w'.heap[g9]? = some (.cells #[.int .u64 t31_2, .int .i64 t31_3, .int .i64 t31_4, .int .i64 t31_5, .int .i64 t31_6, .bool t31_7, .bool t31_8] 54 (0, 0)) ∧ Tch g9 _ w') (does_call (by kernel_rfl) (ar3 (hS.get 1 rfl) (hS.get 0 rfl) (rfl)) ((delay_Exchange_Sent.calls g9 t19_24 t19_25 t19_26 t19_27 t19_28 t19_29 t19_30 t19_7 10 t31_1 t31_2 t31_3 t31_4 t31_5 t31_6 t31_7 t31_8 _ ((hBw29_w18.block g9 (blk_lt hbxw18)).trans hbxw18) At31).mono fun _ _ h => ⟨_, h.1, rfl, h.2⟩)) ?_
            rintro vw30 w30 ⟨rfl, hbxw30, hT⟩
            have hn32 := hT.blk ((hBw29_w26.block g22 (blk_lt hbxw26)).trans hbxw26) hne24
            have hBw30_w := hT.below hBw29_w (Nat.le_trans (hBw3_w).size hgeg9) (hBw29_w).size
            have hBw30_w3 := hT.below hBw29_w3 hgeg9 (hBw29_w3).size
            have hBw30_w30 := Below.refl w30.heap.size w30
            clear hT
            refine hS.next (v := .bool t31_1) (d := 21) rfl (by decide) (by rfl) ?_
            clear hS
            intro at33 hS
            refine wpList_nil ?_
            refine hK27 _ _ ?_
            clear hK27 K27
            refine wp_seq_k (fun K34 hK34 => ?_)
            refine reg_seq_tail 7 (N := 61) (bs := [(21, .bool t31_1), (20, .int .i64 t19_7), (18, .pointer (some ⟨g9, 0, none⟩)), (6, .pointer (some ⟨g22, 0, none⟩)), (14, .bool false), (5, .pointer (some ⟨g9, 0, none⟩)), (4, .bool false)]) (I := fun x => Below w.heap.size w x ∧ Below w3.heap.size w3 x ∧ Below w30.heap.size w30 x) (ps := [IsV (.agg #[.int .i64 t19_1, .int .i64 t19_2, .int .i64 t19_3, .int .i64 t19_4, .int .u64 t19_5, .int .i64 t19_6, .int .i64 t19_7, .int .i64 t19_8, .int .i64 t19_9, .int .u64 t19_10, .int .i64 t19_11, .int .i64 t19_12, .int .i64 t19_13, .int .i64 t19_14, .int .i64 t19_15, .int .i64 t19_16, .int .i64 t19_17, .int .u64 t19_18, .int .i64 t19_19, .int .i64 t19_20, .int .i64 t19_21, .int .i64 t19_22, .int .i64 t19_23]), IsV (.agg #[.int .u64 8, .int .i64 1]), IsV (.tuple #[.agg #[.int .i64 t35_1, .int .i64 t35_2, .int .i64 t35_3, .int .i64 t35_4, .int .u64 t35_5, .int .i64 t35_6, .int .i64 t35_7, .int .i64 t35_8, .int .i64 t35_9, .int .u64 t35_10, .int .i64 t35_11, .int .i64 t35_12, .int .i64 t35_13, .int .i64 t35_14, .int .i64 t35_15, .int .i64 t35_16, .int .i64 t35_17, .int .u64 t35_18, .int .i64 t35_19, .int .i64 t35_20, .int .i64 t35_21, .int .i64 t35_22, .int .i64 t35_23], .bool t35_24]), IsV (.tuple #[.agg #[.int .i64 t35_1, .int .i64 t35_2, .int .i64 t35_3, .int .i64 t35_4, .int .u64 t35_5, .int .i64 t35_6, .int .i64 t35_7, .int .i64 t35_8, .int .i64 t35_9, .int .u64 t35_10, .int .i64 t35_11, .int .i64 t35_12, .int .i64 t35_13, .int .i64 t35_14, .int .i64 t35_15, .int .i64 t35_16, .int .i64 t35_17, .int .u64 t35_18, .int .i64 t35_19, .int .i64 t35_20, .int .i64 t35_21, .int .i64 t35_22, .int .i64 t35_23], .bool t35_24]), IsV (.agg #[.int .i64 t35_1, .int .i64 t35_2, .int .i64 t35_3, .int .i64 t35_4, .int .u64 t35_5, .int .i64 t35_6, .int .i64 t35_7, .int .i64 t35_8, .int .i64 t35_9, .int .u64 t35_10, .int .i64 t35_11, .int .i64 t35_12, .int .i64 t35_13, .int .i64 t35_14, .int .i64 t35_15, .int .i64 t35_16, .int .i64 t35_17, .int .u64 t35_18, .int .i64 t35_19, .int .i64 t35_20, .int .i64 t35_21, .int .i64 t35_22, .int .i64 t35_23]), IsV (.bool t35_24), IsB #[.int .i64 0, .int .i64 0, .int .i64 0, .int .i64 0, .int .u64 0, .int .i64 0, .int .i64 0, .int .i64 0, .int .i64 0, .int .u64 0, .int .i64 0, .int .i64 0, .int .i64 0, .int .i64 0, .int .i64 0, .int .i64 0, .int .i64 0, .int .u64 0, .int .i64 0, .int .i64 0, .int .i64 0, .int .i64 0, .int .i64 0] 34 w30.heap.size]) (by kernel_rfl) ?_ ?_ rfl hS ⟨hBw30_w, hBw30_w3, hBw30_w30⟩ ?_ ?_
            · exact fun x y hI hb => ⟨below_step hI.1 hb, below_step hI.2.1 hb, below_step hI.2.2 hb⟩
            · exact AllStay.cons (Stays.v _) (AllStay.cons (Stays.v _) (AllStay.cons (Stays.v _) (AllStay.cons (Stays.v _) (AllStay.cons (Stays.v _) (AllStay.cons (Stays.v _) (AllStay.cons (Stays.b _ _ _) (AllStay.nil)))))))
            · refine Steps.cons (fun a w hS hI hp => ok_on rfl (does_loadrow rfl (hS.get 3 rfl) (((hI.2.2).block g22 (blk_lt hn32)).trans hn32) Try.underlying34 rfl (by kernel_rfl) rfl)) ?_
              refine Steps.cons (fun a w hS hI hp => ok_on rfl (does_val (x_build (vs := [(0, .int .u64 8), (1, .int .i64 1)]) rfl (by rw [Array.toList_map]; exact (show [(0, a.eval (.const (.int .u64 8))), (1, a.eval (.const (.int .i64 1)))] = _ from (li_cons (rfl) (li_cons (rfl) rfl)))) (by kernel_rfl)) rfl)) ?_
              refine Steps.cons (fun a w hS hI hp => ok_on rfl (does_call (by kernel_rfl) (ar4 ((hp.get 0 (by rfl) rfl rfl)) ((hp.get 1 (by rfl) rfl rfl)) (rfl) (rfl)) ((delay_Answer.calls t19_1 t19_2 t19_3 t19_4 t19_5 t19_6 t19_7 t19_8 t19_9 t19_10 t19_11 t19_12 t19_13 t19_14 t19_15 t19_16 t19_17 t19_18 t19_19 t19_20 t19_21 t19_22 t19_23 8 1 50 3 t35_1 t35_2 t35_3 t35_4 t35_5 t35_6 t35_7 t35_8 t35_9 t35_10 t35_11 t35_12 t35_13 t35_14 t35_15 t35_16 t35_17 t35_18 t35_19 t35_20 t35_21 t35_22 t35_23 t35_24 _  At35).mono fun _ _ h => ⟨_, h.1, h.2, rfl⟩))) ?_
              refine Steps.cons (fun a w hS hI hp => ok_on rfl (does_val (x_move rfl ((hp.get 2 (by rfl) rfl rfl))) rfl)) ?_
              refine Steps.cons (fun a w hS hI hp => ok_on rfl (does_val (x_extract rfl ((hp.get 3 (by rfl) rfl rfl)) rfl) rfl)) ?_
              refine Steps.cons (fun a w hS hI hp => ok_on rfl (does_val (x_extract rfl ((hp.get 3 (by rfl) rfl rfl)) rfl) rfl)) ?_
              refine Steps.cons (fun a w hS hI hp => ok_on rfl (does_var (x_alloc rfl (by kernel_rfl)) (hI.2.2).size)) ?_
              exact Steps.nil
            clear hS
            intro at36 w37 hS hI hp
            have hBw37_w := hI.1
            have hBw37_w3 := hI.2.1
            have hBw37_w30 := hI.2.2
            replace hS := ((((hS.nil).cons (hS.get 6 rfl)).cons (hS.get 5 rfl)).cons (hS.get 4 rfl)).cons (hS.get 3 rfl)
            have hv26 : sl _ 26 = .agg #[.int .i64 t35_1, .int .i64 t35_2, .int .i64 t35_3, .int .i64 t35_4, .int .u64 t35_5, .int .i64 t35_6, .int .i64 t35_7, .int .i64 t35_8, .int .i64 t35_9, .int .u64 t35_10, .int .i64 t35_11, .int .i64 t35_12, .int .i64 t35_13, .int .i64 t35_14, .int .i64 t35_15, .int .i64 t35_16, .int .i64 t35_17, .int .u64 t35_18, .int .i64 t35_19, .int .i64 t35_20, .int .i64 t35_21, .int .i64 t35_22, .int .i64 t35_23] := hp 4 (by decide)
            have hv27 : sl _ 27 = .bool t35_24 := hp 5 (by decide)
            obtain ⟨g38, hv7, hgeg38, hbxg38⟩ := (show IsB _ 34 _ (sl _ 7) _ from hp 6 (by decide))
            have hne39 : g38 ≠ g4 := Nat.ne_of_gt (Nat.lt_of_lt_of_le (blk_lt ((hBw30_w3.block g4 (blk_lt hbxg4)).trans hbxg4)) hgeg38)
            have hne40 : g38 ≠ g9 := Nat.ne_of_gt (Nat.lt_of_lt_of_le (blk_lt ((hBw30_w30.block g9 (blk_lt hbxw30)).trans hbxw30)) hgeg38)
            have hne41 : g38 ≠ g22 := Nat.ne_of_gt (Nat.lt_of_lt_of_le (blk_lt ((hBw30_w30.block g22 (blk_lt hn32)).trans hn32)) hgeg38)
            have hBw37_w37 := Below.refl w37.heap.size w37
            have hS := hS.cons hv26
            have hS := hS.cons hv27
            have hS := hS.cons hv7
            clear hp hI hv26 hv27 hv7
            show wpList _ _ _ [_, _] _ _
            refine list_step rfl (does_storeAll (g := g38) (cs := #[.int .i64 t35_1, .int .i64 t35_2, .int .i64 t35_3, .int .i64 t35_4, .int .u64 t35_5, .int .i64 t35_6, .int .i64 t35_7, .int .i64 t35_8, .int .i64 t35_9, .int .u64 t35_10, .int .i64 t35_11, .int .i64 t35_12, .int .i64 t35_13, .int .i64 t35_14, .int .i64 t35_15, .int .i64 t35_16, .int .i64 t35_17, .int .u64 t35_18, .int .i64 t35_19, .int .i64 t35_20, .int .i64 t35_21, .int .i64 t35_22, .int .i64 t35_23]) rfl (hS.get 0 rfl) (hS.get 2 rfl) ((hBw37_w37.block g38 (blk_lt hbxg38)).trans hbxg38) (by kernel_rfl) (by kernel_rfl) (by kernel_rfl)) ?_
            rintro vw42 w42 ⟨rfl, hbxw42, hT⟩
            have hBw42_w := hT.below hBw37_w (Nat.le_trans (hBw30_w).size hgeg38) (hBw37_w).size
            have hBw42_w3 := hT.below hBw37_w3 (Nat.le_trans (hBw30_w3).size hgeg38) (hBw37_w3).size
            have hBw42_w30 := hT.below hBw37_w30 hgeg38 (hBw37_w30).size
            have hBw42_w42 := Below.refl w42.heap.size w42
            clear hT
            refine list_step rfl (R := fun v w' => Below _ _ w' ∧ (IsV (.bool t35_24)) v w') (does_val (x_assign rfl (hS.get 1 rfl)) rfl) ?_
            rintro vw43 w43 ⟨hb, he⟩
            have hBw43_w := below_step hBw42_w hb
            have hBw43_w3 := below_step hBw42_w3 hb
            have hBw43_w30 := below_step hBw42_w30 hb
            have hBw43_w42 := below_step hBw42_w42 hb
            have hBw43_w43 := Below.refl w43.heap.size w43
            obtain rfl : vw43 = .bool t35_24 := he
            refine hS.next (v := .bool t35_24) (d := 8) rfl (by decide) (by rfl) ?_
            clear hS
            intro at44 hS
            refine wpList_nil ?_
            refine hK34 _ _ ?_
            clear hK34 K34
            refine wp_seq_k (fun K45 hK45 => ?_)
            refine reg_seq_tail 1 (N := 61) (bs := [(8, .bool t35_24), (7, .pointer (some ⟨g38, 0, none⟩)), (27, .bool t35_24), (26, .agg #[.int .i64 t35_1, .int .i64 t35_2, .int .i64 t35_3, .int .i64 t35_4, .int .u64 t35_5, .int .i64 t35_6, .int .i64 t35_7, .int .i64 t35_8, .int .i64 t35_9, .int .u64 t35_10, .int .i64 t35_11, .int .i64 t35_12, .int .i64 t35_13, .int .i64 t35_14, .int .i64 t35_15, .int .i64 t35_16, .int .i64 t35_17, .int .u64 t35_18, .int .i64 t35_19, .int .i64 t35_20, .int .i64 t35_21, .int .i64 t35_22, .int .i64 t35_23]), (6, .pointer (some ⟨g22, 0, none⟩)), (14, .bool false), (5, .pointer (some ⟨g9, 0, none⟩)), (4, .bool false)]) (I := fun x => Below w.heap.size w x ∧ Below w3.heap.size w3 x ∧ Below w30.heap.size w30 x ∧ Below w42.heap.size w42 x ∧ Below w43.heap.size w43 x) (ps := [IsV (.pointer (some ⟨g9, 0, none⟩))]) (by kernel_rfl) ?_ ?_ rfl hS ⟨hBw43_w, hBw43_w3, hBw43_w30, hBw43_w42, hBw43_w43⟩ ?_ ?_
            · exact fun x y hI hb => ⟨below_step hI.1 hb, below_step hI.2.1 hb, below_step hI.2.2.1 hb, below_step hI.2.2.2.1 hb, below_step hI.2.2.2.2 hb⟩
            · exact AllStay.cons (Stays.v _) (AllStay.nil)
            · refine Steps.cons (fun a w hS hI hp => ok_on rfl (does_val (x_move rfl (hS.get 6 rfl)) rfl)) ?_
              exact Steps.nil
            clear hS
            intro at46 w47 hS hI hp
            have hBw47_w := hI.1
            have hBw47_w3 := hI.2.1
            have hBw47_w30 := hI.2.2.1
            have hBw47_w42 := hI.2.2.2.1
            have hBw47_w43 := hI.2.2.2.2
            replace hS := ((((((hS.nil).cons (hS.get 7 rfl)).cons (hS.get 6 rfl)).cons (hS.get 5 rfl)).cons (hS.get 4 rfl)).cons (hS.get 1 rfl)).cons (hS.get 0 rfl)
            have hv28 : sl _ 28 = .pointer (some ⟨g9, 0, none⟩) := hp 0 (by decide)
            have hBw47_w47 := Below.refl w47.heap.size w47
            have hS := hS.cons hv28
            clear hp hI hv28
            show wpList _ _ _ [_] _ _
            refine list_step rfl (R := fun v w' => v = .tuple #[] ∧ w'.heap[g9]? = some (.cells #[.int .u64 t49_1, .int .i64 t49_2, .int .i64 t49_3, .int .i64 t49_4, .int .i64 t49_5, .bool t49_6, .bool t49_7] 54 (0, 0)) ∧ Tch g9 _ w') (does_call (by kernel_rfl) (ar1 (hS.get 0 rfl)) ((delay_Exchange_Clear.calls g9 t31_2 t31_3 t31_4 t31_5 t31_6 t31_7 t31_8 t49_1 t49_2 t49_3 t49_4 t49_5 t49_6 t49_7 _ ((hBw47_w30.block g9 (blk_lt hbxw30)).trans hbxw30) At49).mono fun _ _ h => ⟨_, h.1, rfl, h.2⟩)) ?_
            rintro vw48 w48 ⟨rfl, hbxw48, hT⟩
            have hn50 := hT.blk ((hBw47_w30.block g22 (blk_lt hn32)).trans hn32) hne24
            have hn51 := hT.blk ((hBw47_w42.block g38 (blk_lt hbxw42)).trans hbxw42) hne40
            have hBw48_w := hT.below hBw47_w (Nat.le_trans (hBw3_w).size hgeg9) (hBw47_w).size
            have hBw48_w3 := hT.below hBw47_w3 hgeg9 (hBw47_w3).size
            have hBw48_w48 := Below.refl w48.heap.size w48
            clear hT
            refine hS.next (v := .tuple #[]) (d := 29) rfl (by decide) (by rfl) ?_
            clear hS
            intro at52 hS
            refine wpList_nil ?_
            refine hK45 _ _ ?_
            clear hK45 K45
            refine wp_seq_k (fun K53 hK53 => ?_)
            refine reg_seq_tail 2 (N := 61) (bs := [(29, .tuple #[]), (28, .pointer (some ⟨g9, 0, none⟩)), (8, .bool t35_24), (7, .pointer (some ⟨g38, 0, none⟩)), (6, .pointer (some ⟨g22, 0, none⟩)), (14, .bool false), (5, .pointer (some ⟨g9, 0, none⟩)), (4, .bool false)]) (I := fun x => Below w.heap.size w x ∧ Below w3.heap.size w3 x ∧ Below w48.heap.size w48 x) (ps := [IsV (.pointer (some ⟨g9, 0, none⟩)), IsV (.agg #[.int .i64 t35_1, .int .i64 t35_2, .int .i64 t35_3, .int .i64 t35_4, .int .u64 t35_5, .int .i64 t35_6, .int .i64 t35_7, .int .i64 t35_8, .int .i64 t35_9, .int .u64 t35_10, .int .i64 t35_11, .int .i64 t35_12, .int .i64 t35_13, .int .i64 t35_14, .int .i64 t35_15, .int .i64 t35_16, .int .i64 t35_17, .int .u64 t35_18, .int .i64 t35_19, .int .i64 t35_20, .int .i64 t35_21, .int .i64 t35_22, .int .i64 t35_23])]) (by kernel_rfl) ?_ ?_ rfl hS ⟨hBw48_w, hBw48_w3, hBw48_w48⟩ ?_ ?_
            · exact fun x y hI hb => ⟨below_step hI.1 hb, below_step hI.2.1 hb, below_step hI.2.2 hb⟩
            · exact AllStay.cons (Stays.v _) (AllStay.cons (Stays.v _) (AllStay.nil))
            · refine Steps.cons (fun a w hS hI hp => ok_on rfl (does_val (x_move rfl (hS.get 6 rfl)) rfl)) ?_
              refine Steps.cons (fun a w hS hI hp => ok_on rfl (does_loadrow rfl (hS.get 3 rfl) (((hI.2.2).block g38 (blk_lt hn51)).trans hn51) Try.underlying34 rfl (by kernel_rfl) rfl)) ?_
              exact Steps.nil
            clear hS
            intro at54 w55 hS hI hp
            have hBw55_w := hI.1
            have hBw55_w3 := hI.2.1
            have hBw55_w48 := hI.2.2
            replace hS := ((((((hS.nil).cons (hS.get 7 rfl)).cons (hS.get 6 rfl)).cons (hS.get 5 rfl)).cons (hS.get 4 rfl)).cons (hS.get 3 rfl)).cons (hS.get 2 rfl)
            have hv31 : sl _ 31 = .pointer (some ⟨g9, 0, none⟩) := hp 0 (by decide)
            have hv32 : sl _ 32 = .agg #[.int .i64 t35_1, .int .i64 t35_2, .int .i64 t35_3, .int .i64 t35_4, .int .u64 t35_5, .int .i64 t35_6, .int .i64 t35_7, .int .i64 t35_8, .int .i64 t35_9, .int .u64 t35_10, .int .i64 t35_11, .int .i64 t35_12, .int .i64 t35_13, .int .i64 t35_14, .int .i64 t35_15, .int .i64 t35_16, .int .i64 t35_17, .int .u64 t35_18, .int .i64 t35_19, .int .i64 t35_20, .int .i64 t35_21, .int .i64 t35_22, .int .i64 t35_23] := hp 1 (by decide)
            have hBw55_w55 := Below.refl w55.heap.size w55
            have hS := hS.cons hv31
            have hS := hS.cons hv32
            clear hp hI hv31 hv32
            show wpList _ _ _ [_, _, _, _, _, _] _ _
            refine list_step rfl (R := fun v w' => v = .tuple #[.int .i64 t57_1, .bool t57_2] ∧ w'.heap[g9]? = some (.cells #[.int .u64 t57_3, .int .i64 t57_4, .int .i64 t57_5, .int .i64 t57_6, .int .i64 t57_7, .bool t57_8, .bool t57_9] 54 (0, 0)) ∧ Tch g9 _ w') (does_call (by kernel_rfl) (ar2 (hS.get 1 rfl) (hS.get 0 rfl)) ((delay_Exchange_Response.calls g9 t49_1 t49_2 t49_3 t49_4 t49_5 t49_6 t49_7 t35_1 t35_2 t35_3 t35_4 t35_5 t35_6 t35_7 t35_8 t35_9 t35_10 t35_11 t35_12 t35_13 t35_14 t35_15 t35_16 t35_17 t35_18 t35_19 t35_20 t35_21 t35_22 t35_23 t57_1 t57_2 t57_3 t57_4 t57_5 t57_6 t57_7 t57_8 t57_9 _ ((hBw55_w48.block g9 (blk_lt hbxw48)).trans hbxw48) At57).mono fun _ _ h => ⟨_, h.1, rfl, h.2⟩)) ?_
            rintro vw56 w56 ⟨rfl, hbxw56, hT⟩
            have hn58 := hT.blk ((hBw55_w48.block g22 (blk_lt hn50)).trans hn50) hne24
            have hn59 := hT.blk ((hBw55_w48.block g38 (blk_lt hn51)).trans hn51) hne40
            have hBw56_w := hT.below hBw55_w (Nat.le_trans (hBw3_w).size hgeg9) (hBw55_w).size
            have hBw56_w3 := hT.below hBw55_w3 hgeg9 (hBw55_w3).size
            have hBw56_w56 := Below.refl w56.heap.size w56
            clear hT
            refine hS.next (v := .tuple #[.int .i64 t57_1, .bool t57_2]) (d := 33) rfl (by decide) (by rfl) ?_
            clear hS
            intro at60 hS
            refine list_step rfl (R := fun v w' => Below _ _ w' ∧ (IsV (.tuple #[.int .i64 t57_1, .bool t57_2])) v w') (does_val (x_move rfl (hS.get 0 rfl)) rfl) ?_
            rintro vw61 w61 ⟨hb, he⟩
            have hBw61_w := below_step hBw56_w hb
            have hBw61_w3 := below_step hBw56_w3 hb
            have hBw61_w56 := below_step hBw56_w56 hb
            have hBw61_w61 := Below.refl w61.heap.size w61
            obtain rfl : vw61 = .tuple #[.int .i64 t57_1, .bool t57_2] := he
            refine hS.next (v := .tuple #[.int .i64 t57_1, .bool t57_2]) (d := 30) rfl (by decide) (by rfl) ?_
            clear hS
            intro at62 hS
            refine list_step rfl (R := fun v w' => Below _ _ w' ∧ (IsV (.int .i64 t57_1)) v w') (does_val (x_extract rfl (hS.get 0 rfl) rfl) rfl) ?_
            rintro vw63 w63 ⟨hb, he⟩
            have hBw63_w := below_step hBw61_w hb
            have hBw63_w3 := below_step hBw61_w3 hb
            have hBw63_w56 := below_step hBw61_w56 hb
            have hBw63_w61 := below_step hBw61_w61 hb
            have hBw63_w63 := Below.refl w63.heap.size w63
            obtain rfl : vw63 = .int .i64 t57_1 := he
            refine hS.next (v := .int .i64 t57_1) (d := 34) rfl (by decide) (by rfl) ?_
            clear hS
            intro at64 hS
            refine list_step rfl (R := fun v w' => Below _ _ w' ∧ (IsV (.bool t57_2)) v w') (does_val (x_extract rfl (hS.get 1 rfl) rfl) rfl) ?_
            rintro vw65 w65 ⟨hb, he⟩
            have hBw65_w := below_step hBw63_w hb
            have hBw65_w3 := below_step hBw63_w3 hb
            have hBw65_w56 := below_step hBw63_w56 hb
            have hBw65_w63 := below_step hBw63_w63 hb
            have hBw65_w65 := Below.refl w65.heap.size w65
            obtain rfl : vw65 = .bool t57_2 := he
            refine hS.next (v := .bool t57_2) (d := 35) rfl (by decide) (by rfl) ?_
            clear hS
            intro at66 hS
            refine list_step rfl (R := fun v w' => Below _ _ w' ∧ (IsV (.int .i64 t57_1)) v w') (does_val (x_assign rfl (hS.get 1 rfl)) rfl) ?_
            rintro vw67 w67 ⟨hb, he⟩
            have hBw67_w := below_step hBw65_w hb
            have hBw67_w3 := below_step hBw65_w3 hb
            have hBw67_w56 := below_step hBw65_w56 hb
            have hBw67_w65 := below_step hBw65_w65 hb
            have hBw67_w67 := Below.refl w67.heap.size w67
            obtain rfl : vw67 = .int .i64 t57_1 := he
            refine hS.next (v := .int .i64 t57_1) (d := 9) rfl (by decide) (by rfl) ?_
            clear hS
            intro at68 hS
            refine list_step rfl (R := fun v w' => Below _ _ w' ∧ (IsV (.bool t57_2)) v w') (does_val (x_assign rfl (hS.get 1 rfl)) rfl) ?_
            rintro vw69 w69 ⟨hb, he⟩
            have hBw69_w := below_step hBw67_w hb
            have hBw69_w3 := below_step hBw67_w3 hb
            have hBw69_w56 := below_step hBw67_w56 hb
            have hBw69_w67 := below_step hBw67_w67 hb
            have hBw69_w69 := Below.refl w69.heap.size w69
            obtain rfl : vw69 = .bool t57_2 := he
            refine hS.next (v := .bool t57_2) (d := 10) rfl (by decide) (by rfl) ?_
            clear hS
            intro at70 hS
            refine wpList_nil ?_
            refine hK53 _ _ ?_
            clear hK53 K53
            refine wp_seq_k (fun K71 hK71 => ?_)
            refine reg_seq_tail 9 (N := 61) (bs := [(10, .bool t57_2), (9, .int .i64 t57_1), (35, .bool t57_2), (34, .int .i64 t57_1), (30, .tuple #[.int .i64 t57_1, .bool t57_2]), (33, .tuple #[.int .i64 t57_1, .bool t57_2]), (32, .agg #[.int .i64 t35_1, .int .i64 t35_2, .int .i64 t35_3, .int .i64 t35_4, .int .u64 t35_5, .int .i64 t35_6, .int .i64 t35_7, .int .i64 t35_8, .int .i64 t35_9, .int .u64 t35_10, .int .i64 t35_11, .int .i64 t35_12, .int .i64 t35_13, .int .i64 t35_14, .int .i64 t35_15, .int .i64 t35_16, .int .i64 t35_17, .int .u64 t35_18, .int .i64 t35_19, .int .i64 t35_20, .int .i64 t35_21, .int .i64 t35_22, .int .i64 t35_23]), (31, .pointer (some ⟨g9, 0, none⟩)), (8, .bool t35_24), (7, .pointer (some ⟨g38, 0, none⟩)), (6, .pointer (some ⟨g22, 0, none⟩)), (14, .bool false), (5, .pointer (some ⟨g9, 0, none⟩)), (4, .bool false)]) (I := fun x => Below w.heap.size w x ∧ Below w3.heap.size w3 x ∧ Below w56.heap.size w56 x ∧ Below w69.heap.size w69 x) (ps := [IsV (.bool t35_24), IsV (.bool t35_24), IsV (.bool t57_2), IsV (.bool (!t57_2)), IsV (.bool (!t57_2)), IsV (.bool (!t57_2)), IsV (.pointer (some ⟨g9, 0, none⟩)), IsV (.pointer (some ⟨g22, 6, none⟩)), IsV (.int .i64 t19_7)]) (by kernel_rfl) ?_ ?_ rfl hS ⟨hBw69_w, hBw69_w3, hBw69_w56, hBw69_w69⟩ ?_ ?_
            · exact fun x y hI hb => ⟨below_step hI.1 hb, below_step hI.2.1 hb, below_step hI.2.2.1 hb, below_step hI.2.2.2 hb⟩
            · exact AllStay.cons (Stays.v _) (AllStay.cons (Stays.v _) (AllStay.cons (Stays.v _) (AllStay.cons (Stays.v _) (AllStay.cons (Stays.v _) (AllStay.cons (Stays.v _) (AllStay.cons (Stays.v _) (AllStay.cons (Stays.v _) (AllStay.cons (Stays.v _) (AllStay.nil)))))))))
            · refine Steps.cons (fun a w hS hI hp => ok_on rfl (does_val (x_move rfl (hS.get 8 rfl)) rfl)) ?_
              refine Steps.cons (fun a w hS hI hp => ok_on rfl (does_val (x_move rfl ((hp.get 0 (by rfl) rfl rfl))) rfl)) ?_
              refine Steps.cons (fun a w hS hI hp => ok_if (d := 37) rfl rfl (by rw [hS.size]; decide) (((hp.get 1 (by rfl) rfl rfl)).trans (bT c1)) (does_val (x_move rfl (hS.get 0 rfl)) rfl)) ?_
              refine Steps.cons (fun a w hS hI hp => ok_if (d := 37) rfl rfl (by rw [hS.size]; decide) (((hp.get 1 (by rfl) rfl rfl)).trans (bT c1)) (does_val (x_not rfl ((hp.get 2 (by rfl) rfl rfl))) rfl)) ?_
              refine Steps.cons (fun a w hS hI hp => ok_on rfl (does_val (x_pickT rfl (((hp.get 1 (by rfl) rfl rfl)).trans (bT c1)) ((hp.get 3 (by rfl) rfl rfl))) rfl)) ?_
              refine Steps.cons (fun a w hS hI hp => ok_on rfl (does_val (x_move rfl ((hp.get 4 (by rfl) rfl rfl))) rfl)) ?_
              refine Steps.cons (fun a w hS hI hp => ok_if (d := 41) rfl rfl (by rw [hS.size]; decide) (((hp.get 5 (by rfl) rfl rfl)).trans (bT (congrArg (!·) (Bool.eq_false_iff.2 c2)))) (does_val (x_move rfl (hS.get 12 rfl)) rfl)) ?_
              refine Steps.cons (fun a w hS hI hp => ok_if (d := 41) rfl rfl (by rw [hS.size]; decide) (((hp.get 5 (by rfl) rfl rfl)).trans (bT (congrArg (!·) (Bool.eq_false_iff.2 c2)))) (does_val (x_field rfl (hS.get 10 rfl) Try.underlying34 rfl (by kernel_rfl)) rfl)) ?_
              refine Steps.cons (fun a w hS hI hp => ok_if (d := 41) rfl rfl (by rw [hS.size]; decide) (((hp.get 5 (by rfl) rfl rfl)).trans (bT (congrArg (!·) (Bool.eq_false_iff.2 c2)))) (does_val (x_load1 (d := .int .i64) rfl ((hp.get 7 (by rfl) rfl rfl)) (by kernel_rfl) rfl ((blk_cell (((hI.2.2.1).block g22 (blk_lt hn58)).trans hn58) 6).trans rfl)) rfl)) ?_
              exact Steps.nil
            clear hS
            intro at72 w73 hS hI hp
            have hBw73_w := hI.1
            have hBw73_w3 := hI.2.1
            have hBw73_w56 := hI.2.2.1
            have hBw73_w69 := hI.2.2.2
            replace hS := (((hS.nil).cons (hS.get 13 rfl)).cons (hS.get 11 rfl)).cons (hS.get 9 rfl)
            have hv41 : sl _ 41 = .bool (!t57_2) := hp 5 (by decide)
            have hv42 : sl _ 42 = .pointer (some ⟨g9, 0, none⟩) := hp 6 (by decide)
            have hv44 : sl _ 44 = .int .i64 t19_7 := hp 8 (by decide)
            have hBw73_w73 := Below.refl w73.heap.size w73
            have hS := hS.cons hv41
            have hS := hS.cons hv42
            have hS := hS.cons hv44
            clear hp hI hv41 hv42 hv44
            show wpList _ _ _ [_, _, _, _, _, _, _, _, _, _, _, _, _, _, _, _, _] _ _
            refine list_if (d := 41) rfl rfl (by rw [hS.size]; decide) ((hS.get 2 rfl).trans (bT (congrArg (!·) (Bool.eq_false_iff.2 c2)))) (R := fun v w' => v = .bool t75_1 ∧ w'.heap[g9]? = some (.cells #[.int .u64 t75_2, .int .i64 t75_3, .int .i64 t75_4, .int .i64 t75_5, .int .i64 t75_6, .bool t75_7, .bool t75_8] 54 (0, 0)) ∧ Tch g9 _ w') (does_call (by kernel_rfl) (ar3 (hS.get 1 rfl) (hS.get 0 rfl) (rfl)) ((delay_Exchange_Sent.calls g9 t57_3 t57_4 t57_5 t57_6 t57_7 t57_8 t57_9 t19_7 11 t75_1 t75_2 t75_3 t75_4 t75_5 t75_6 t75_7 t75_8 _ ((hBw73_w56.block g9 (blk_lt hbxw56)).trans hbxw56) At75).mono fun _ _ h => ⟨_, h.1, rfl, h.2⟩)) ?_
            rintro vw74 w74 ⟨rfl, hbxw74, hT⟩
            have hn76 := hT.blk ((hBw73_w56.block g22 (blk_lt hn58)).trans hn58) hne24
            have hn77 := hT.blk ((hBw73_w56.block g38 (blk_lt hn59)).trans hn59) hne40
            have hBw74_w := hT.below hBw73_w (Nat.le_trans (hBw3_w).size hgeg9) (hBw73_w).size
            have hBw74_w3 := hT.below hBw73_w3 hgeg9 (hBw73_w3).size
            have hBw74_w74 := Below.refl w74.heap.size w74
            clear hT
            refine hS.next (v := .bool t75_1) (d := 45) rfl (by decide) (by rfl) ?_
            clear hS
            intro at78 hS
            refine list_if (d := 41) rfl rfl (by rw [hS.size]; decide) ((hS.get 3 rfl).trans (bT (congrArg (!·) (Bool.eq_false_iff.2 c2)))) (R := fun v w' => Below _ _ w' ∧ (IsV (.bool (!t75_1))) v w') (does_val (x_not rfl (hS.get 0 rfl)) rfl) ?_
            rintro vw79 w79 ⟨hb, he⟩
            have hBw79_w := below_step hBw74_w hb
            have hBw79_w3 := below_step hBw74_w3 hb
            have hBw79_w74 := below_step hBw74_w74 hb
            have hBw79_w79 := Below.refl w79.heap.size w79
            obtain rfl : vw79 = .bool (!t75_1) := he
            refine hS.next (v := .bool (!t75_1)) (d := 46) rfl (by decide) (by rfl) ?_
            clear hS
            intro at80 hS
            refine list_step rfl (R := fun v w' => Below _ _ w' ∧ (IsV (.bool (!t75_1))) v w') (does_val (x_pickT rfl ((hS.get 4 rfl).trans (bT (congrArg (!·) (Bool.eq_false_iff.2 c2)))) (hS.get 0 rfl)) rfl) ?_
            rintro vw81 w81 ⟨hb, he⟩
            have hBw81_w := below_step hBw79_w hb
            have hBw81_w3 := below_step hBw79_w3 hb
            have hBw81_w74 := below_step hBw79_w74 hb
            have hBw81_w79 := below_step hBw79_w79 hb
            have hBw81_w81 := Below.refl w81.heap.size w81
            obtain rfl : vw81 = .bool (!t75_1) := he
            refine hS.next (v := .bool (!t75_1)) (d := 47) rfl (by decide) (by rfl) ?_
            clear hS
            intro at82 hS
            refine list_step rfl (R := fun v w' => Below _ _ w' ∧ (IsV (.bool (!t75_1))) v w') (does_val (x_move rfl (hS.get 0 rfl)) rfl) ?_
            rintro vw83 w83 ⟨hb, he⟩
            have hBw83_w := below_step hBw81_w hb
            have hBw83_w3 := below_step hBw81_w3 hb
            have hBw83_w74 := below_step hBw81_w74 hb
            have hBw83_w81 := below_step hBw81_w81 hb
            have hBw83_w83 := Below.refl w83.heap.size w83
            obtain rfl : vw83 = .bool (!t75_1) := he
            refine hS.next (v := .bool (!t75_1)) (d := 48) rfl (by decide) (by rfl) ?_
            clear hS
            intro at84 hS
            refine list_if (d := 48) rfl rfl (by rw [hS.size]; decide) ((hS.get 0 rfl).trans (bT (congrArg (!·) (Bool.eq_false_iff.2 c3)))) (R := fun v w' => Below _ _ w' ∧ (IsV (.pointer (some ⟨g38, 7, none⟩))) v w') (does_val (x_field rfl (hS.get 7 rfl) Try.underlying34 rfl (by kernel_rfl)) rfl) ?_
            rintro vw85 w85 ⟨hb, he⟩
            have hBw85_w := below_step hBw83_w hb
            have hBw85_w3 := below_step hBw83_w3 hb
            have hBw85_w74 := below_step hBw83_w74 hb
            have hBw85_w83 := below_step hBw83_w83 hb
            have hBw85_w85 := Below.refl w85.heap.size w85
            obtain rfl : vw85 = .pointer (some ⟨g38, 7, none⟩) := he
            refine hS.next (v := .pointer (some ⟨g38, 7, none⟩)) (d := 49) rfl (by decide) (by rfl) ?_
            clear hS
            intro at86 hS
            refine list_if (d := 48) rfl rfl (by rw [hS.size]; decide) ((hS.get 1 rfl).trans (bT (congrArg (!·) (Bool.eq_false_iff.2 c3)))) (R := fun v w' => Below _ _ w' ∧ (IsV (.int .i64 t35_8)) v w') (does_val (x_load1 (d := .int .i64) rfl (hS.get 0 rfl) (by kernel_rfl) rfl ((blk_cell (((hBw85_w74).block g38 (blk_lt hn77)).trans hn77) 7).trans rfl)) rfl) ?_
            rintro vw87 w87 ⟨hb, he⟩
            have hBw87_w := below_step hBw85_w hb
            have hBw87_w3 := below_step hBw85_w3 hb
            have hBw87_w74 := below_step hBw85_w74 hb
            have hBw87_w85 := below_step hBw85_w85 hb
            have hBw87_w87 := Below.refl w87.heap.size w87
            obtain rfl : vw87 = .int .i64 t35_8 := he
            refine hS.next (v := .int .i64 t35_8) (d := 50) rfl (by decide) (by rfl) ?_
            clear hS
            intro at88 hS
            refine list_if (d := 48) rfl rfl (by rw [hS.size]; decide) ((hS.get 2 rfl).trans (bT (congrArg (!·) (Bool.eq_false_iff.2 c3)))) (R := fun v w' => Below _ _ w' ∧ (IsV (.bool (decide (t35_8 = 3)))) v w') (does_val (x_bin rfl (hS.get 0 rfl) (rfl) (b_eql _ _ _ _ _ _)) rfl) ?_
            rintro vw89 w89 ⟨hb, he⟩
            have hBw89_w := below_step hBw87_w hb
            have hBw89_w3 := below_step hBw87_w3 hb
            have hBw89_w74 := below_step hBw87_w74 hb
            have hBw89_w87 := below_step hBw87_w87 hb
            have hBw89_w89 := Below.refl w89.heap.size w89
            obtain rfl : vw89 = .bool (decide (t35_8 = 3)) := he
            refine hS.next (v := .bool (decide (t35_8 = 3))) (d := 51) rfl (by decide) (by rfl) ?_
            clear hS
            intro at90 hS
            refine list_step rfl (R := fun v w' => Below _ _ w' ∧ (IsV (.bool (decide (t35_8 = 3)))) v w') (does_val (x_pickT rfl ((hS.get 3 rfl).trans (bT (congrArg (!·) (Bool.eq_false_iff.2 c3)))) (hS.get 0 rfl)) rfl) ?_
            rintro vw91 w91 ⟨hb, he⟩
            have hBw91_w := below_step hBw89_w hb
            have hBw91_w3 := below_step hBw89_w3 hb
            have hBw91_w74 := below_step hBw89_w74 hb
            have hBw91_w89 := below_step hBw89_w89 hb
            have hBw91_w91 := Below.refl w91.heap.size w91
            obtain rfl : vw91 = .bool (decide (t35_8 = 3)) := he
            refine hS.next (v := .bool (decide (t35_8 = 3))) (d := 52) rfl (by decide) (by rfl) ?_
            clear hS
            intro at92 hS
            refine list_step rfl (R := fun v w' => Below _ _ w' ∧ (IsV (.bool (decide (t35_8 = 3)))) v w') (does_val (x_move rfl (hS.get 0 rfl)) rfl) ?_
            rintro vw93 w93 ⟨hb, he⟩
            have hBw93_w := below_step hBw91_w hb
            have hBw93_w3 := below_step hBw91_w3 hb
            have hBw93_w74 := below_step hBw91_w74 hb
            have hBw93_w91 := below_step hBw91_w91 hb
            have hBw93_w93 := Below.refl w93.heap.size w93
            obtain rfl : vw93 = .bool (decide (t35_8 = 3)) := he
            refine hS.next (v := .bool (decide (t35_8 = 3))) (d := 53) rfl (by decide) (by rfl) ?_
            clear hS
            intro at94 hS
            refine list_if (d := 53) rfl rfl (by rw [hS.size]; decide) ((hS.get 0 rfl).trans (bT (decide_eq_true c4))) (R := fun v w' => Below _ _ w' ∧ (IsV (.pointer (some ⟨g38, 0, none⟩))) v w') (does_val (x_field rfl (hS.get 12 rfl) Try.underlying34 rfl (by kernel_rfl)) rfl) ?_
            rintro vw95 w95 ⟨hb, he⟩
            have hBw95_w := below_step hBw93_w hb
            have hBw95_w3 := below_step hBw93_w3 hb
            have hBw95_w74 := below_step hBw93_w74 hb
            have hBw95_w93 := below_step hBw93_w93 hb
            have hBw95_w95 := Below.refl w95.heap.size w95
            obtain rfl : vw95 = .pointer (some ⟨g38, 0, none⟩) := he
            refine hS.next (v := .pointer (some ⟨g38, 0, none⟩)) (d := 54) rfl (by decide) (by rfl) ?_
            clear hS
            intro at96 hS
            refine list_if (d := 53) rfl rfl (by rw [hS.size]; decide) ((hS.get 1 rfl).trans (bT (decide_eq_true c4))) (R := fun v w' => Below _ _ w' ∧ (IsV (.int .i64 t35_1)) v w') (does_val (x_load1 (d := .int .i64) rfl (hS.get 0 rfl) (by kernel_rfl) rfl ((blk_cell (((hBw95_w74).block g38 (blk_lt hn77)).trans hn77) 0).trans rfl)) rfl) ?_
            rintro vw97 w97 ⟨hb, he⟩
            have hBw97_w := below_step hBw95_w hb
            have hBw97_w3 := below_step hBw95_w3 hb
            have hBw97_w74 := below_step hBw95_w74 hb
            have hBw97_w95 := below_step hBw95_w95 hb
            have hBw97_w97 := Below.refl w97.heap.size w97
            obtain rfl : vw97 = .int .i64 t35_1 := he
            refine hS.next (v := .int .i64 t35_1) (d := 55) rfl (by decide) (by rfl) ?_
            clear hS
            intro at98 hS
            refine list_if (d := 53) rfl rfl (by rw [hS.size]; decide) ((hS.get 2 rfl).trans (bT (decide_eq_true c4))) (R := fun v w' => Below _ _ w' ∧ (IsV (.bool (decide (t35_1 = 9)))) v w') (does_val (x_bin rfl (hS.get 0 rfl) (rfl) (b_eql _ _ _ _ _ _)) rfl) ?_
            rintro vw99 w99 ⟨hb, he⟩
            have hBw99_w := below_step hBw97_w hb
            have hBw99_w3 := below_step hBw97_w3 hb
            have hBw99_w74 := below_step hBw97_w74 hb
            have hBw99_w97 := below_step hBw97_w97 hb
            have hBw99_w99 := Below.refl w99.heap.size w99
            obtain rfl : vw99 = .bool (decide (t35_1 = 9)) := he
            refine hS.next (v := .bool (decide (t35_1 = 9))) (d := 56) rfl (by decide) (by rfl) ?_
            clear hS
            intro at100 hS
            refine list_step rfl (R := fun v w' => Below _ _ w' ∧ (IsV (.bool (decide (t35_1 = 9)))) v w') (does_val (x_pickT rfl ((hS.get 3 rfl).trans (bT (decide_eq_true c4))) (hS.get 0 rfl)) rfl) ?_
            rintro vw101 w101 ⟨hb, he⟩
            have hBw101_w := below_step hBw99_w hb
            have hBw101_w3 := below_step hBw99_w3 hb
            have hBw101_w74 := below_step hBw99_w74 hb
            have hBw101_w99 := below_step hBw99_w99 hb
            have hBw101_w101 := Below.refl w101.heap.size w101
            obtain rfl : vw101 = .bool (decide (t35_1 = 9)) := he
            refine hS.next (v := .bool (decide (t35_1 = 9))) (d := 57) rfl (by decide) (by rfl) ?_
            clear hS
            intro at102 hS
            refine list_step rfl (R := fun v w' => Below _ _ w' ∧ (IsV (.bool (decide (t35_1 = 9)))) v w') (does_val (x_move rfl (hS.get 0 rfl)) rfl) ?_
            rintro vw103 w103 ⟨hb, he⟩
            have hBw103_w := below_step hBw101_w hb
            have hBw103_w3 := below_step hBw101_w3 hb
            have hBw103_w74 := below_step hBw101_w74 hb
            have hBw103_w101 := below_step hBw101_w101 hb
            have hBw103_w103 := Below.refl w103.heap.size w103
            obtain rfl : vw103 = .bool (decide (t35_1 = 9)) := he
            refine hS.next (v := .bool (decide (t35_1 = 9))) (d := 58) rfl (by decide) (by rfl) ?_
            clear hS
            intro at104 hS
            refine list_if (d := 58) rfl rfl (by rw [hS.size]; decide) ((hS.get 0 rfl).trans (bT (decide_eq_true c5))) (R := fun v w' => Below _ _ w' ∧ (IsV (.bool t106)) v w') (does_call (by kernel_rfl) rfl ((carillonlaw17_awake.calls  t106 _  At106).mono fun _ _ h => ⟨_, h.1, h.2, rfl⟩)) ?_
            rintro vw105 w105 ⟨hb, he⟩
            have hBw105_w := below_step hBw103_w hb
            have hBw105_w3 := below_step hBw103_w3 hb
            have hBw105_w74 := below_step hBw103_w74 hb
            have hBw105_w103 := below_step hBw103_w103 hb
            have hBw105_w105 := Below.refl w105.heap.size w105
            obtain rfl : vw105 = .bool t106 := he
            refine hS.next (v := .bool t106) (d := 59) rfl (by decide) (by rfl) ?_
            clear hS
            intro at107 hS
            refine list_step rfl (R := fun v w' => Below _ _ w' ∧ (IsV (.bool t106)) v w') (does_val (x_pickT rfl ((hS.get 1 rfl).trans (bT (decide_eq_true c5))) (hS.get 0 rfl)) rfl) ?_
            rintro vw108 w108 ⟨hb, he⟩
            have hBw108_w := below_step hBw105_w hb
            have hBw108_w3 := below_step hBw105_w3 hb
            have hBw108_w74 := below_step hBw105_w74 hb
            have hBw108_w105 := below_step hBw105_w105 hb
            have hBw108_w108 := Below.refl w108.heap.size w108
            obtain rfl : vw108 = .bool t106 := he
            refine hS.next (v := .bool t106) (d := 60) rfl (by decide) (by rfl) ?_
            clear hS
            intro at109 hS
            refine list_step rfl (R := fun v w' => Below _ _ w' ∧ (IsV (.bool t106)) v w') (does_val (x_assign rfl (hS.get 0 rfl)) rfl) ?_
            rintro vw110 w110 ⟨hb, he⟩
            have hBw110_w := below_step hBw108_w hb
            have hBw110_w3 := below_step hBw108_w3 hb
            have hBw110_w74 := below_step hBw108_w74 hb
            have hBw110_w108 := below_step hBw108_w108 hb
            have hBw110_w110 := Below.refl w110.heap.size w110
            obtain rfl : vw110 = .bool t106 := he
            replace hS := (((((((((((((((((((((hS.nil).cons (hS.get 20 rfl)).cons (hS.get 19 rfl)).cons (hS.get 18 rfl)).cons (hS.get 17 rfl)).cons (hS.get 16 rfl)).cons (hS.get 15 rfl)).cons (hS.get 14 rfl)).cons (hS.get 13 rfl)).cons (hS.get 12 rfl)).cons (hS.get 11 rfl)).cons (hS.get 10 rfl)).cons (hS.get 9 rfl)).cons (hS.get 8 rfl)).cons (hS.get 7 rfl)).cons (hS.get 6 rfl)).cons (hS.get 5 rfl)).cons (hS.get 4 rfl)).cons (hS.get 3 rfl)).cons (hS.get 2 rfl)).cons (hS.get 1 rfl)).cons (hS.get 0 rfl)
            refine hS.next (v := .bool t106) (d := 4) rfl (by decide) (by rfl) ?_
            clear hS
            intro at111 hS
            refine wpList_nil ?_
            refine hK71 _ _ ?_
            clear hK71 K71
            refine wp_ret ?_
            (try simp only [Exit.then, Exit.inBlock])
            exact bodyPost_ret (v := .bool true) (by rw [results_tmp rfl]; exact congrArg (Result.ok · _) ((hS.get 0 rfl).trans (congrArg Value.bool hret))) hS.nodef ⟨rfl, hBw110_w⟩
          · rw [if_neg c5] at H
            exact absurd H (by simp)
        · rw [if_neg c4] at H
          exact absurd H (by simp)
  · rw [if_neg c1] at H
    exact absurd H (by simp)

/-- The one pure statement of carillonlaw17_DelayClears. -/
def carillonlaw17_DelayClears.Pure : Prop := ∀ (a0_0 : Int) (a0_1 : Int) (a1 : Int), (Lit.int .u64 a0_0).wf = true → (Lit.int .i64 a0_1).wf = true → (Lit.int .i64 a1).wf = true → carillonlaw17_DelayClears.f a0_0 a0_1 a1 = some true
theorem carillonlaw17_DelayClears.walk (P : carillonlaw17_DelayClears.Pure) (a0_0 : Int) (a0_1 : Int) (a1 : Int) (w : World) (w0_0 : (Lit.int .u64 a0_0).wf = true) (w0_1 : (Lit.int .i64 a0_1).wf = true) (w1 : (Lit.int .i64 a1).wf = true) :
    Calls Try.prog 6 #[.agg #[.int .u64 a0_0, .int .i64 a0_1], .int .i64 a1] w fun e w' => e = .returned (.bool true) ∧ Below w.heap.size w w' := by
  have h := P a0_0 a0_1 a1 w0_0 w0_1 w1
  refine (carillonlaw17_DelayClears.calls a0_0 a0_1 a1 w  h).mono ?_
  rintro e w' ⟨rfl, hd⟩
  exact ⟨rfl, hd⟩

end Go.Proofs.Ytpfjpfbhgeoadaa.P
