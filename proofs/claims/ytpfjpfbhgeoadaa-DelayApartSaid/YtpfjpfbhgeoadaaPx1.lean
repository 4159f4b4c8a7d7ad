/- Functions and loops of the given program as Lean functions, and that the code comes to what they say: written by this session's own program; Lean checks it. -/
import Derived.Test.YtpfjpfbhgeoadaaPx0
namespace Go.Proofs.Ytpfjpfbhgeoadaa.P
open Go.RowKit Go.Proofs.YtpfjpfbhgeoadaaW.PrintWords Go.Proofs.YtpfjpfbhgeoadaaW.PrintLast Go.Proofs.YtpfjpfbhgeoadaaW.PrintMore
attribute [local go_sem] max2_int min2_int max_two min_two max_three min_three max_four min_four   -- for this text's walks alone
set_option linter.unusedVariables false
set_option linter.unusedSimpArgs false

/-! ### delay_New: function 8: by our own printer -/
def delay_New.f (a0_0 : Int) (a0_1 : Int) (a1 : Int) : Option (Int × Int × Int × Int × Int × Bool × Bool) := some (a0_0, a0_1, a1, 0, 0, false, false)
open Go.Proofs.Ytpfjpfbhgeoadaa.E in
set_option maxHeartbeats 8000000 in
set_option maxRecDepth 100000 in
theorem delay_New.calls (a0_0 : Int) (a0_1 : Int) (a1 : Int) (r1 : Int) (r2 : Int) (r3 : Int) (r4 : Int) (r5 : Int) (r6 : Bool) (r7 : Bool) (w : World) (h : delay_New.f a0_0 a0_1 a1 = some (r1, r2, r3, r4, r5, r6, r7)) :
    Calls Try.prog 8 #[.agg #[.int .u64 a0_0, .int .i64 a0_1], .int .i64 a1] w fun e w' => ∃ gr0_ : Nat, e = .returned (.pointer (some ⟨gr0_, 0, none⟩)) ∧ w.heap.size ≤ gr0_ ∧ w'.heap[gr0_]? = some (.cells #[.int .u64 r1, .int .i64 r2, .int .i64 r3, .int .i64 r4, .int .i64 r5, .bool r6, .bool r7] 54 (0, 0)) ∧ Below w.heap.size w w' := by
  have H := h
  clear h
  unfold delay_New.f at H
  simp only [Option.some.injEq, Prod.mk.injEq] at H
  obtain ⟨rfl, rfl, rfl, rfl, rfl, rfl, rfl⟩ := H
  refine calls_of_wp (fn := Try.f8) (by kernel_rfl) rfl ?_
  have hS := St.enter #[.agg #[.int .u64 a0_0, .int .i64 a0_1], .int .i64 a1] 9 (by simp) [(0, .agg #[.int .u64 a0_0, .int .i64 a0_1]), (1, .int .i64 a1)] (by simp)
  have HB0 := Below.refl w.heap.size w
  refine wp_seq_k (fun K1 hK1 => ?_)
  refine reg_seq (N := 9) (bs := [(0, .agg #[.int .u64 a0_0, .int .i64 a0_1]), (1, .int .i64 a1)]) (I := fun x => Below w.heap.size w x) (ps := [IsB #[.int .u64 a0_0, .int .i64 a0_1] 24 w.heap.size, IsV (.pointer none)]) (by kernel_rfl) ?_ ?_ rfl hS HB0 ?_ ?_
  · exact fun x y hI hb => below_step hI hb
  · exact AllStay.cons (Stays.b _ _ _) (AllStay.cons (Stays.v _) (AllStay.nil))
  · refine Steps.cons (fun a w hS hI hp => ok_on rfl (does_var (x_box rfl (congrArg Value.cells (hS.get 0 rfl))) (hI).size)) ?_
    refine Steps.cons (fun a w hS hI hp => ok_on rfl (does_val (x_assign rfl (rfl)) rfl)) ?_
    exact Steps.nil
  clear hS
  intro at2 w3 hS hI hp
  have hBw3_w := hI
  replace hS := (hS.nil).cons (hS.get 1 rfl)
  obtain ⟨g4, hv2, hgeg4, hbxg4⟩ := (show IsB _ 24 _ (sl _ 2) _ from hp 0 (by decide))
  have hv4 : sl _ 4 = .pointer none := hp 1 (by decide)
  have hBw3_w3 := Below.refl w3.heap.size w3
  have hS := hS.cons hv2
  have hS := hS.cons hv4
  clear hp hI hv2 hv4
  refine hK1 _ _ ?_
  clear hK1 K1
  refine wp_seq_k (fun K5 hK5 => ?_)
  replace hS := ((hS.nil).cons (hS.get 2 rfl)).cons (hS.get 1 rfl)
  refine reg_seq (N := 9) (bs := [(2, .pointer (some ⟨g4, 0, none⟩)), (1, .int .i64 a1)]) (I := fun x => Below w.heap.size w x ∧ Below w3.heap.size w3 x) (ps := [IsV (.agg #[.int .u64 a0_0, .int .i64 a0_1]), IsV (.int .i64 a1), IsV (.agg #[.int .u64 a0_0, .int .i64 a0_1, .int .i64 a1, .int .i64 0, .int .i64 0, .bool false, .bool false]), IsB #[.int .u64 a0_0, .int .i64 a0_1, .int .i64 a1, .int .i64 0, .int .i64 0, .bool false, .bool false] 54 w3.heap.size, IsB #[.int .u64 a0_0, .int .i64 a0_1, .int .i64 a1, .int .i64 0, .int .i64 0, .bool false, .bool false] 54 w3.heap.size]) (by kernel_rfl) ?_ ?_ rfl hS ⟨hBw3_w, hBw3_w3⟩ ?_ ?_
  · exact fun x y hI hb => ⟨below_step hI.1 hb, below_step hI.2 hb⟩
  · exact AllStay.cons (Stays.v _) (AllStay.cons (Stays.v _) (AllStay.cons (Stays.v _) (AllStay.cons (Stays.b _ _ _) (AllStay.cons (Stays.b _ _ _) (AllStay.nil)))))
  · refine Steps.cons (fun a w hS hI hp => ok_on rfl (does_loadrow rfl (hS.get 0 rfl) (((hI.2).block g4 (blk_lt hbxg4)).trans hbxg4) Try.underlying24 rfl (by kernel_rfl) rfl)) ?_
    refine Steps.cons (fun a w hS hI hp => ok_on rfl (does_val (x_move rfl (hS.get 1 rfl)) rfl)) ?_
    refine Steps.cons (fun a w hS hI hp => ok_on rfl (does_val (x_build (vs := [(0, .agg #[.int .u64 a0_0, .int .i64 a0_1]), (1, .int .i64 a1)]) rfl (by rw [Array.toList_map]; exact (show [(0, a.eval (.tmp 5)), (1, a.eval (.tmp 6))] = _ from (li_cons ((hp.get 0 (by rfl) rfl rfl)) (li_cons ((hp.get 1 (by rfl) rfl rfl)) rfl)))) (by kernel_rfl)) rfl)) ?_
    refine Steps.cons (fun a w hS hI hp => ok_on rfl (does_var (x_box rfl (congrArg Value.cells ((hp.get 2 (by rfl) rfl rfl)))) (hI.2).size)) ?_
    refine Steps.cons (fun a w hS hI hp => ok_on rfl (does_val (x_assign rfl rfl) ((hp.get 3 (by rfl) rfl rfl)))) ?_
    exact Steps.nil
  clear hS
  intro at6 w7 hS hI hp
  have hBw7_w := hI.1
  have hBw7_w3 := hI.2
  replace hS := hS.nil
  obtain ⟨g8, hv4, hgeg8, hbxg8⟩ := (show IsB _ 54 _ (sl _ 4) _ from hp 4 (by decide))
  have hBw7_w7 := Below.refl w7.heap.size w7
  have hS := hS.cons hv4
  clear hp hI hv4
  refine hK5 _ _ ?_
  clear hK5 K5
  refine wp_ret ?_
  (try simp only [Exit.then, Exit.inBlock])
  exact bodyPost_ret (v := .pointer (some ⟨g8, 0, none⟩)) (results_single rfl (Vals.at (hS.get 0 rfl) .nil)) hS.nodef ⟨g8, rfl, (Nat.le_trans (hBw3_w).size hgeg8), ((hBw7_w7.block g8 (blk_lt hbxg8)).trans hbxg8), hBw7_w⟩

/-! ### stamp_May: function 21 -/
def stamp_May.f (a0 : Int) : Option (Bool) := if a0 ≥ 0 then (some (decide (a0 ≤ 4000000000000000))) else (some false)
set_option maxHeartbeats 8000000 in
set_option maxRecDepth 100000 in
theorem stamp_May.calls (a0 : Int) (r : Bool) (w : World) (h : stamp_May.f a0 = some r) :
    Calls Try.prog 21 #[.int .i64 a0] w fun e w' => e = .returned (.bool r) ∧ Drawn0 w w' := by
  have H : (if a0 ≥ 0 then (some (decide (a0 ≤ 4000000000000000))) else (some false)) = some r := h
  clear h
  by_cases c2 : a0 ≥ 0
  · rw [if_pos c2] at H
    have c2b0 : decide (0 ≤ a0) = true := decide_eq_true c2
    clear c2
    obtain rfl := Option.some.inj H
    go_enter Try.func21, Try.ntmps21
    go_wp2
    all_goals
      go_ret
      exact ⟨by first | rfl | (simp; done) | (simp [*]; done), by repeat (first | exact Drawn0.refl _ | apply Drawn0.step)⟩
  · rw [if_neg c2] at H
    have c2b0 : decide (0 ≤ a0) = false := decide_eq_false c2
    clear c2
    obtain rfl := Option.some.inj H
    go_enter Try.func21, Try.ntmps21
    go_wp2
    all_goals
      go_ret
      exact ⟨by first | rfl | (simp; done) | (simp [*]; done), by repeat (first | exact Drawn0.refl _ | apply Drawn0.step)⟩

/-! ### delay_Answer: function 9: by our own printer -/
def delay_Answer.f (a0_0 : Int) (a0_1 : Int) (a0_2 : Int) (a0_3 : Int) (a0_4 : Int) (a0_5 : Int) (a0_6 : Int) (a0_7 : Int) (a0_8 : Int) (a0_9 : Int) (a0_10 : Int) (a0_11 : Int) (a0_12 : Int) (a0_13 : Int) (a0_14 : Int) (a0_15 : Int) (a0_16 : Int) (a0_17 : Int) (a0_18 : Int) (a0_19 : Int) (a0_20 : Int) (a0_21 : Int) (a0_22 : Int) (a1_0 : Int) (a1_1 : Int) (a2 : Int) (a3 : Int) : Option (Int × Int × Int × Int × Int × Int × Int × Int × Int × Int × Int × Int × Int × Int × Int × Int × Int × Int × Int × Int × Int × Int × Int × Bool) := if a0_0 = 1 then ((stamp_May.f a2).bind fun t15 => (if t15 = true then (some (9, a0_1, 0, a0_3, a1_0, a1_1, a0_6, a3, a2, a0_4, a0_5, 0, 0, 0, 0, 0, 0, 0, 0, 0, 0, 0, 0, true)) else (some (0, 0, 0, 0, 0, 0, 0, 0, 0, 0, 0, 0, 0, 0, 0, 0, 0, 0, 0, 0, 0, 0, 0, false)))) else (some (0, 0, 0, 0, 0, 0, 0, 0, 0, 0, 0, 0, 0, 0, 0, 0, 0, 0, 0, 0, 0, 0, 0, false))
open Go.Proofs.Ytpfjpfbhgeoadaa.E in
set_option maxHeartbeats 8000000 in
set_option maxRecDepth 100000 in
theorem delay_Answer.calls (a0_0 : Int) (a0_1 : Int) (a0_2 : Int) (a0_3 : Int) (a0_4 : Int) (a0_5 : Int) (a0_6 : Int) (a0_7 : Int) (a0_8 : Int) (a0_9 : Int) (a0_10 : Int) (a0_11 : Int) (a0_12 : Int) (a0_13 : Int) (a0_14 : Int) (a0_15 : Int) (a0_16 : Int) (a0_17 : Int) (a0_18 : Int) (a0_19 : Int) (a0_20 : Int) (a0_21 : Int) (a0_22 : Int) (a1_0 : Int) (a1_1 : Int) (a2 : Int) (a3 : Int) (r1 : Int) (r2 : Int) (r3 : Int) (r4 : Int) (r5 : Int) (r6 : Int) (r7 : Int) (r8 : Int) (r9 : Int) (r10 : Int) (r11 : Int) (r12 : Int) (r13 : Int) (r14 : Int) (r15 : Int) (r16 : Int) (r17 : Int) (r18 : Int) (r19 : Int) (r20 : Int) (r21 : Int) (r22 : Int) (r23 : Int) (r24 : Bool) (w : World) (h : delay_Answer.f a0_0 a0_1 a0_2 a0_3 a0_4 a0_5 a0_6 a0_7 a0_8 a0_9 a0_10 a0_11 a0_12 a0_13 a0_14 a0_15 a0_16 a0_17 a0_18 a0_19 a0_20 a0_21 a0_22 a1_0 a1_1 a2 a3 = some (r1, r2, r3, r4, r5, r6, r7, r8, r9, r10, r11, r12, r13, r14, r15, r16, r17, r18, r19, r20, r21, r22, r23, r24)) :
    Calls Try.prog 9 #[.agg #[.int .i64 a0_0, .int .i64 a0_1, .int .i64 a0_2, .int .i64 a0_3, .int .u64 a0_4, .int .i64 a0_5, .int .i64 a0_6, .int .i64 a0_7, .int .i64 a0_8, .int .u64 a0_9, .int .i64 a0_10, .int .i64 a0_11, .int .i64 a0_12, .int .i64 a0_13, .int .i64 a0_14, .int .i64 a0_15, .int .i64 a0_16, .int .u64 a0_17, .int .i64 a0_18, .int .i64 a0_19, .int .i64 a0_20, .int .i64 a0_21, .int .i64 a0_22], .agg #[.int .u64 a1_0, .int .i64 a1_1], .int .i64 a2, .int .i64 a3] w fun e w' => e = .returned (.tuple #[.agg #[.int .i64 r1, .int .i64 r2, .int .i64 r3, .int .i64 r4, .int .u64 r5, .int .i64 r6, .int .i64 r7, .int .i64 r8, .int .i64 r9, .int .u64 r10, .int .i64 r11, .int .i64 r12, .int .i64 r13, .int .i64 r14, .int .i64 r15, .int .i64 r16, .int .i64 r17, .int .u64 r18, .int .i64 r19, .int .i64 r20, .int .i64 r21, .int .i64 r22, .int .i64 r23], .bool r24]) ∧ Below w.heap.size w w' := by
  have H := h
  clear h
  unfold delay_Answer.f at H
  by_cases c1 : a0_0 = 1
  · rw [if_pos c1] at H
    obtain ⟨t15, At15, H⟩ := Option.bind_eq_some_iff.mp H
    by_cases c2 : t15 = true
    · rw [if_pos c2] at H
      simp only [Option.some.injEq, Prod.mk.injEq] at H
      obtain ⟨rfl, rfl, rfl, rfl, rfl, rfl, rfl, rfl, rfl, rfl, rfl, rfl, rfl, rfl, rfl, rfl, rfl, rfl, rfl, rfl, rfl, rfl, rfl, rfl⟩ := H
      refine calls_of_wp (fn := Try.f9) (by kernel_rfl) rfl ?_
      have hS := St.enter #[.agg #[.int .i64 a0_0, .int .i64 a0_1, .int .i64 a0_2, .int .i64 a0_3, .int .u64 a0_4, .int .i64 a0_5, .int .i64 a0_6, .int .i64 a0_7, .int .i64 a0_8, .int .u64 a0_9, .int .i64 a0_10, .int .i64 a0_11, .int .i64 a0_12, .int .i64 a0_13, .int .i64 a0_14, .int .i64 a0_15, .int .i64 a0_16, .int .u64 a0_17, .int .i64 a0_18, .int .i64 a0_19, .int .i64 a0_20, .int .i64 a0_21, .int .i64 a0_22], .agg #[.int .u64 a1_0, .int .i64 a1_1], .int .i64 a2, .int .i64 a3] 31 (by simp) [(0, .agg #[.int .i64 a0_0, .int .i64 a0_1, .int .i64 a0_2, .int .i64 a0_3, .int .u64 a0_4, .int .i64 a0_5, .int .i64 a0_6, .int .i64 a0_7, .int .i64 a0_8, .int .u64 a0_9, .int .i64 a0_10, .int .i64 a0_11, .int .i64 a0_12, .int .i64 a0_13, .int .i64 a0_14, .int .i64 a0_15, .int .i64 a0_16, .int .u64 a0_17, .int .i64 a0_18, .int .i64 a0_19, .int .i64 a0_20, .int .i64 a0_21, .int .i64 a0_22]), (1, .agg #[.int .u64 a1_0, .int .i64 a1_1]), (2, .int .i64 a2), (3, .int .i64 a3)] (by simp)
      have HB0 := Below.refl w.heap.size w
      refine wp_seq_k (fun K1 hK1 => ?_)
      refine reg_seq_tail 1 (N := 31) (bs := [(0, .agg #[.int .i64 a0_0, .int .i64 a0_1, .int .i64 a0_2, .int .i64 a0_3, .int .u64 a0_4, .int .i64 a0_5, .int .i64 a0_6, .int .i64 a0_7, .int .i64 a0_8, .int .u64 a0_9, .int .i64 a0_10, .int .i64 a0_11, .int .i64 a0_12, .int .i64 a0_13, .int .i64 a0_14, .int .i64 a0_15, .int .i64 a0_16, .int .u64 a0_17, .int .i64 a0_18, .int .i64 a0_19, .int .i64 a0_20, .int .i64 a0_21, .int .i64 a0_22]), (1, .agg #[.int .u64 a1_0, .int .i64 a1_1]), (2, .int .i64 a2), (3, .int .i64 a3)]) (I := fun x => Below w.heap.size w x) (ps := [IsB #[.int .i64 a0_0, .int .i64 a0_1, .int .i64 a0_2, .int .i64 a0_3, .int .u64 a0_4, .int .i64 a0_5, .int .i64 a0_6, .int .i64 a0_7, .int .i64 a0_8, .int .u64 a0_9, .int .i64 a0_10, .int .i64 a0_11, .int .i64 a0_12, .int .i64 a0_13, .int .i64 a0_14, .int .i64 a0_15, .int .i64 a0_16, .int .u64 a0_17, .int .i64 a0_18, .int .i64 a0_19, .int .i64 a0_20, .int .i64 a0_21, .int .i64 a0_22] 34 w.heap.size]) (by kernel_rfl) ?_ ?_ rfl hS HB0 ?_ ?_
      · exact fun x y hI hb => below_step hI hb
      · exact AllStay.cons (Stays.b _ _ _) (AllStay.nil)
      · refine Steps.cons (fun a w hS hI hp => ok_on rfl (does_var (x_box rfl (congrArg Value.cells (hS.get 0 rfl))) (hI).size)) ?_
        exact Steps.nil
      clear hS
      intro at2 w3 hS hI hp
      have hBw3_w := hI
      replace hS := (((hS.nil).cons (hS.get 3 rfl)).cons (hS.get 2 rfl)).cons (hS.get 1 rfl)
      obtain ⟨g4, hv4, hgeg4, hbxg4⟩ := (show IsB _ 34 _ (sl _ 4) _ from hp 0 (by decide))
      have hBw3_w3 := Below.refl w3.heap.size w3
      have hS := hS.cons hv4
      clear hp hI hv4
      show wpList _ _ _ [_, _, _] _ _
      refine list_step rfl (R := fun v w' => Below _ _ w' ∧ (IsB #[.int .u64 a1_0, .int .i64 a1_1] 24 w3.heap.size) v w') (does_var (x_box rfl (congrArg Value.cells (hS.get 1 rfl))) (hBw3_w3).size) ?_
      rintro vw5 w5 ⟨hb, he⟩
      have hBw5_w := below_step hBw3_w hb
      have hBw5_w3 := below_step hBw3_w3 hb
      have hBw5_w5 := Below.refl w5.heap.size w5
      obtain ⟨g6, rfl, hgeg6, hbxg6⟩ := he
      refine hS.next (v := .pointer (some ⟨g6, 0, none⟩)) (d := 5) rfl (by decide) (by rfl) ?_
      clear hS
      intro at7 hS
      refine list_step rfl (R := fun v w' => Below _ _ w' ∧ (IsB #[.int .i64 0, .int .i64 0, .int .i64 0, .int .i64 0, .int .u64 0, .int .i64 0, .int .i64 0, .int .i64 0, .int .i64 0, .int .u64 0, .int .i64 0, .int .i64 0, .int .i64 0, .int .i64 0, .int .i64 0, .int .i64 0, .int .i64 0, .int .u64 0, .int .i64 0, .int .i64 0, .int .i64 0, .int .i64 0, .int .i64 0] 34 w5.heap.size) v w') (does_var (x_alloc rfl (by kernel_rfl)) (hBw5_w5).size) ?_
      rintro vw8 w8 ⟨hb, he⟩
      have hBw8_w := below_step hBw5_w hb
      have hBw8_w3 := below_step hBw5_w3 hb
      have hBw8_w5 := below_step hBw5_w5 hb
      have hBw8_w8 := Below.refl w8.heap.size w8
      obtain ⟨g9, rfl, hgeg9, hbxg9⟩ := he
      refine hS.next (v := .pointer (some ⟨g9, 0, none⟩)) (d := 8) rfl (by decide) (by rfl) ?_
      clear hS
      intro at10 hS
      refine list_step rfl (R := fun v w' => Below _ _ w' ∧ (IsV (.bool false)) v w') (does_val (x_assign rfl (rfl)) rfl) ?_
      rintro vw11 w11 ⟨hb, he⟩
      have hBw11_w := below_step hBw8_w hb
      have hBw11_w3 := below_step hBw8_w3 hb
      have hBw11_w5 := below_step hBw8_w5 hb
      have hBw11_w8 := below_step hBw8_w8 hb
      have hBw11_w11 := Below.refl w11.heap.size w11
      obtain rfl : vw11 = .bool false := he
      refine hS.next (v := .bool false) (d := 9) rfl (by decide) (by rfl) ?_
      clear hS
      intro at12 hS
      refine wpList_nil ?_
      refine hK1 _ _ ?_
      clear hK1 K1
      refine wp_seq_k (fun K13 hK13 => ?_)
      refine wp_seq_k (fun K14 hK14 => ?_)
      refine reg_seq (N := 31) (bs := [(9, .bool false), (8, .pointer (some ⟨g9, 0, none⟩)), (5, .pointer (some ⟨g6, 0, none⟩)), (4, .pointer (some ⟨g4, 0, none⟩)), (1, .agg #[.int .u64 a1_0, .int .i64 a1_1]), (2, .int .i64 a2), (3, .int .i64 a3)]) (I := fun x => Below w.heap.size w x ∧ Below w3.heap.size w3 x ∧ Below w5.heap.size w5 x ∧ Below w8.heap.size w8 x ∧ Below w11.heap.size w11 x) (ps := [IsV (.pointer (some ⟨g4, 0, none⟩)), IsV (.int .i64 a0_0), IsV (.bool (!decide (a0_0 = 1))), IsV (.bool (!decide (a0_0 = 1))), IsV (.int .i64 a2), IsV (.bool t15), IsV (.bool (!t15)), IsV (.bool (!t15))]) (by kernel_rfl) ?_ ?_ rfl hS ⟨hBw11_w, hBw11_w3, hBw11_w5, hBw11_w8, hBw11_w11⟩ ?_ ?_
      · exact fun x y hI hb => ⟨below_step hI.1 hb, below_step hI.2.1 hb, below_step hI.2.2.1 hb, below_step hI.2.2.2.1 hb, below_step hI.2.2.2.2 hb⟩
      · exact AllStay.cons (Stays.v _) (AllStay.cons (Stays.v _) (AllStay.cons (Stays.v _) (AllStay.cons (Stays.v _) (AllStay.cons (Stays.v _) (AllStay.cons (Stays.v _) (AllStay.cons (Stays.v _) (AllStay.cons (Stays.v _) (AllStay.nil))))))))
      · refine Steps.cons (fun a w hS hI hp => ok_on rfl (does_val (x_field rfl (hS.get 3 rfl) Try.underlying34 rfl (by kernel_rfl)) rfl)) ?_
        refine Steps.cons (fun a w hS hI hp => ok_on rfl (does_val (x_load1 (d := .int .i64) rfl ((hp.get 0 (by rfl) rfl rfl)) (by kernel_rfl) rfl ((blk_cell (((hI.2.1).block g4 (blk_lt hbxg4)).trans hbxg4) 0).trans rfl)) rfl)) ?_
        refine Steps.cons (fun a w hS hI hp => ok_on rfl (does_val (x_bin rfl ((hp.get 1 (by rfl) rfl rfl)) (rfl) (b_neq _ _ _ _ _ _)) rfl)) ?_
        refine Steps.cons (fun a w hS hI hp => ok_on rfl (does_val (x_move rfl ((hp.get 2 (by rfl) rfl rfl))) rfl)) ?_
        refine Steps.cons (fun a w hS hI hp => ok_if (d := 13) rfl rfl (by rw [hS.size]; decide) (((hp.get 3 (by rfl) rfl rfl)).trans (bF (congrArg (!·) (decide_eq_true c1)))) (does_val (x_move rfl (hS.get 5 rfl)) rfl)) ?_
        refine Steps.cons (fun a w hS hI hp => ok_if (d := 13) rfl rfl (by rw [hS.size]; decide) (((hp.get 3 (by rfl) rfl rfl)).trans (bF (congrArg (!·) (decide_eq_true c1)))) (does_call (by kernel_rfl) (ar1 ((hp.get 4 (by rfl) rfl rfl))) ((stamp_May.calls a2 t15 _  At15).mono fun _ _ h => ⟨_, h.1, h.2.below, rfl⟩))) ?_
        refine Steps.cons (fun a w hS hI hp => ok_if (d := 13) rfl rfl (by rw [hS.size]; decide) (((hp.get 3 (by rfl) rfl rfl)).trans (bF (congrArg (!·) (decide_eq_true c1)))) (does_val (x_not rfl ((hp.get 5 (by rfl) rfl rfl))) rfl)) ?_
        refine Steps.cons (fun a w hS hI hp => ok_on rfl (does_val (x_pickF rfl (((hp.get 3 (by rfl) rfl rfl)).trans (bF (congrArg (!·) (decide_eq_true c1)))) ((hp.get 6 (by rfl) rfl rfl))) rfl)) ?_
        exact Steps.nil
      clear hS
      intro at16 w17 hS hI hp
      have hBw17_w := hI.1
      have hBw17_w3 := hI.2.1
      have hBw17_w5 := hI.2.2.1
      have hBw17_w8 := hI.2.2.2.1
      have hBw17_w11 := hI.2.2.2.2
      replace hS := ((((((hS.nil).cons (hS.get 6 rfl)).cons (hS.get 5 rfl)).cons (hS.get 3 rfl)).cons (hS.get 2 rfl)).cons (hS.get 1 rfl)).cons (hS.get 0 rfl)
      have hv17 : sl _ 17 = .bool (!t15) := hp 7 (by decide)
      have hBw17_w17 := Below.refl w17.heap.size w17
      have hS := hS.cons hv17
      clear hp hI hv17
      refine hK14 _ _ ?_
      clear hK14 K14
      refine wp_cond_false ((hS.get 0 rfl).trans (bF (congrArg (!·) c2))) ?_
      refine wp_skip ?_
      refine hK13 _ _ ?_
      clear hK13 K13
      refine wp_seq_k (fun K18 hK18 => ?_)
      refine reg_seq_tail 12 (N := 31) (bs := [(17, .bool (!t15)), (9, .bool false), (8, .pointer (some ⟨g9, 0, none⟩)), (5, .pointer (some ⟨g6, 0, none⟩)), (4, .pointer (some ⟨g4, 0, none⟩)), (2, .int .i64 a2), (3, .int .i64 a3)]) (I := fun x => Below w.heap.size w x ∧ Below w3.heap.size w3 x ∧ Below w5.heap.size w5 x ∧ Below w8.heap.size w8 x ∧ Below w17.heap.size w17 x) (ps := [IsV (.pointer (some ⟨g4, 1, none⟩)), IsV (.int .i64 a0_1), IsV (.agg #[.int .u64 a1_0, .int .i64 a1_1]), IsV (.pointer (some ⟨g4, 6, none⟩)), IsV (.int .i64 a0_6), IsV (.pointer (some ⟨g4, 3, none⟩)), IsV (.int .i64 a0_3), IsV (.int .i64 a2), IsV (.pointer (some ⟨g4, 4, none⟩)), IsV (.agg #[.int .u64 a0_4, .int .i64 a0_5]), IsV (.int .i64 a3), IsV (.agg #[.int .i64 9, .int .i64 a0_1, .int .i64 0, .int .i64 a0_3, .int .u64 a1_0, .int .i64 a1_1, .int .i64 a0_6, .int .i64 a3, .int .i64 a2, .int .u64 a0_4, .int .i64 a0_5, .int .i64 0, .int .i64 0, .int .i64 0, .int .i64 0, .int .i64 0, .int .i64 0, .int .u64 0, .int .i64 0, .int .i64 0, .int .i64 0, .int .i64 0, .int .i64 0])]) (by kernel_rfl) ?_ ?_ rfl hS ⟨hBw17_w, hBw17_w3, hBw17_w5, hBw17_w8, hBw17_w17⟩ ?_ ?_
      · exact fun x y hI hb => ⟨below_step hI.1 hb, below_step hI.2.1 hb, below_step hI.2.2.1 hb, below_step hI.2.2.2.1 hb, below_step hI.2.2.2.2 hb⟩
      · exact AllStay.cons (Stays.v _) (AllStay.cons (Stays.v _) (AllStay.cons (Stays.v _) (AllStay.cons (Stays.v _) (AllStay.cons (Stays.v _) (AllStay.cons (Stays.v _) (AllStay.cons (Stays.v _) (AllStay.cons (Stays.v _) (AllStay.cons (Stays.v _) (AllStay.cons (Stays.v _) (AllStay.cons (Stays.v _) (AllStay.cons (Stays.v _) (AllStay.nil))))))))))))
      · refine Steps.cons (fun a w hS hI hp => ok_on rfl (does_val (x_field rfl (hS.get 4 rfl) Try.underlying34 rfl (by kernel_rfl)) rfl)) ?_
        refine Steps.cons (fun a w hS hI hp => ok_on rfl (does_val (x_load1 (d := .int .i64) rfl ((hp.get 0 (by rfl) rfl rfl)) (by kernel_rfl) rfl ((blk_cell (((hI.2.1).block g4 (blk_lt hbxg4)).trans hbxg4) 1).trans rfl)) rfl)) ?_
        refine Steps.cons (fun a w hS hI hp => ok_on rfl (does_loadrow rfl (hS.get 3 rfl) (((hI.2.2.1).block g6 (blk_lt hbxg6)).trans hbxg6) Try.underlying24 rfl (by kernel_rfl) rfl)) ?_
        refine Steps.cons (fun a w hS hI hp => ok_on rfl (does_val (x_field rfl (hS.get 4 rfl) Try.underlying34 rfl (by kernel_rfl)) rfl)) ?_
        refine Steps.cons (fun a w hS hI hp => ok_on rfl (does_val (x_load1 (d := .int .i64) rfl ((hp.get 3 (by rfl) rfl rfl)) (by kernel_rfl) rfl ((blk_cell (((hI.2.1).block g4 (blk_lt hbxg4)).trans hbxg4) 6).trans rfl)) rfl)) ?_
        refine Steps.cons (fun a w hS hI hp => ok_on rfl (does_val (x_field rfl (hS.get 4 rfl) Try.underlying34 rfl (by kernel_rfl)) rfl)) ?_
        refine Steps.cons (fun a w hS hI hp => ok_on rfl (does_val (x_load1 (d := .int .i64) rfl ((hp.get 5 (by rfl) rfl rfl)) (by kernel_rfl) rfl ((blk_cell (((hI.2.1).block g4 (blk_lt hbxg4)).trans hbxg4) 3).trans rfl)) rfl)) ?_
        refine Steps.cons (fun a w hS hI hp => ok_on rfl (does_val (x_move rfl (hS.get 5 rfl)) rfl)) ?_
        refine Steps.cons (fun a w hS hI hp => ok_on rfl (does_val (x_field rfl (hS.get 4 rfl) Try.underlying34 rfl (by kernel_rfl)) rfl)) ?_
        refine Steps.cons (fun a w hS hI hp => ok_on rfl (does_loadmid (cs := [.int .u64 a0_4, .int .i64 a0_5]) rfl ((hp.get 8 (by rfl) rfl rfl)) (((hI.2.1).block g4 (blk_lt hbxg4)).trans hbxg4) rfl Try.underlying24 rfl (by kernel_rfl) rfl)) ?_
        refine Steps.cons (fun a w hS hI hp => ok_on rfl (does_val (x_move rfl (hS.get 6 rfl)) rfl)) ?_
        refine Steps.cons (fun a w hS hI hp => ok_on rfl (does_val (x_build (vs := [(0, .int .i64 9), (1, .int .i64 a0_1), (4, .agg #[.int .u64 a1_0, .int .i64 a1_1]), (5, .int .i64 a0_6), (3, .int .i64 a0_3), (7, .int .i64 a2), (8, .agg #[.int .u64 a0_4, .int .i64 a0_5]), (6, .int .i64 a3)]) rfl (by rw [Array.toList_map]; exact (show [(0, a.eval (.const (.int .i64 9))), (1, a.eval (.tmp 20)), (4, a.eval (.tmp 21)), (5, a.eval (.tmp 23)), (3, a.eval (.tmp 25)), (7, a.eval (.tmp 26)), (8, a.eval (.tmp 28)), (6, a.eval (.tmp 29))] = _ from (li_cons (rfl) (li_cons ((hp.get 1 (by rfl) rfl rfl)) (li_cons ((hp.get 2 (by rfl) rfl rfl)) (li_cons ((hp.get 4 (by rfl) rfl rfl)) (li_cons ((hp.get 6 (by rfl) rfl rfl)) (li_cons ((hp.get 7 (by rfl) rfl rfl)) (li_cons ((hp.get 9 (by rfl) rfl rfl)) (li_cons ((hp.get 10 (by rfl) rfl rfl)) rfl)))))))))) (by kernel_rfl)) rfl)) ?_
        exact Steps.nil
      clear hS
      intro at19 w20 hS hI hp
      have hBw20_w := hI.1
      have hBw20_w3 := hI.2.1
      have hBw20_w5 := hI.2.2.1
      have hBw20_w8 := hI.2.2.2.1
      have hBw20_w17 := hI.2.2.2.2
      replace hS := (((hS.nil).cons (hS.get 2 rfl)).cons (hS.get 1 rfl)).cons (hS.get 0 rfl)
      have hv30 : sl _ 30 = .agg #[.int .i64 9, .int .i64 a0_1, .int .i64 0, .int .i64 a0_3, .int .u64 a1_0, .int .i64 a1_1, .int .i64 a0_6, .int .i64 a3, .int .i64 a2, .int .u64 a0_4, .int .i64 a0_5, .int .i64 0, .int .i64 0, .int .i64 0, .int .i64 0, .int .i64 0, .int .i64 0, .int .u64 0, .int .i64 0, .int .i64 0, .int .i64 0, .int .i64 0, .int .i64 0] := hp 11 (by decide)
      have hBw20_w20 := Below.refl w20.heap.size w20
      have hS := hS.cons hv30
      clear hp hI hv30
      show wpList _ _ _ [_, _] _ _
      refine list_step rfl (does_storeAll (g := g9) (cs := #[.int .i64 9, .int .i64 a0_1, .int .i64 0, .int .i64 a0_3, .int .u64 a1_0, .int .i64 a1_1, .int .i64 a0_6, .int .i64 a3, .int .i64 a2, .int .u64 a0_4, .int .i64 a0_5, .int .i64 0, .int .i64 0, .int .i64 0, .int .i64 0, .int .i64 0, .int .i64 0, .int .u64 0, .int .i64 0, .int .i64 0, .int .i64 0, .int .i64 0, .int .i64 0]) rfl (hS.get 3 rfl) (hS.get 0 rfl) ((hBw20_w8.block g9 (blk_lt hbxg9)).trans hbxg9) (by kernel_rfl) (by kernel_rfl) (by kernel_rfl)) ?_
      rintro vw21 w21 ⟨rfl, hbxw21, hT⟩
      have hBw21_w := hT.below hBw20_w (Nat.le_trans (hBw5_w).size hgeg9) (hBw20_w).size
      have hBw21_w3 := hT.below hBw20_w3 (Nat.le_trans (hBw5_w3).size hgeg9) (hBw20_w3).size
      have hBw21_w5 := hT.below hBw20_w5 hgeg9 (hBw20_w5).size
      have hBw21_w21 := Below.refl w21.heap.size w21
      clear hT
      refine list_step rfl (R := fun v w' => Below _ _ w' ∧ (IsV (.bool true)) v w') (does_val (x_assign rfl (rfl)) rfl) ?_
      rintro vw22 w22 ⟨hb, he⟩
      have hBw22_w := below_step hBw21_w hb
      have hBw22_w3 := below_step hBw21_w3 hb
      have hBw22_w5 := below_step hBw21_w5 hb
      have hBw22_w21 := below_step hBw21_w21 hb
      have hBw22_w22 := Below.refl w22.heap.size w22
      obtain rfl : vw22 = .bool true := he
      replace hS := (((hS.nil).cons (hS.get 3 rfl)).cons (hS.get 1 rfl)).cons (hS.get 0 rfl)
      refine hS.next (v := .bool true) (d := 9) rfl (by decide) (by rfl) ?_
      clear hS
      intro at23 hS
      refine wpList_nil ?_
      refine hK18 _ _ ?_
      clear hK18 K18
      refine wp_ret ?_
      (try simp only [Exit.then, Exit.inBlock])
      exact bodyPost_ret (v := .tuple #[.agg #[.int .i64 9, .int .i64 a0_1, .int .i64 0, .int .i64 a0_3, .int .u64 a1_0, .int .i64 a1_1, .int .i64 a0_6, .int .i64 a3, .int .i64 a2, .int .u64 a0_4, .int .i64 a0_5, .int .i64 0, .int .i64 0, .int .i64 0, .int .i64 0, .int .i64 0, .int .i64 0, .int .u64 0, .int .i64 0, .int .i64 0, .int .i64 0, .int .i64 0, .int .i64 0], .bool true]) (results_list (rs := [.cell 8 34, .tmp 9]) rfl (by simp) (Vals.cell g9 34 #[.int .i64 9, .int .i64 a0_1, .int .i64 0, .int .i64 a0_3, .int .u64 a1_0, .int .i64 a1_1, .int .i64 a0_6, .int .i64 a3, .int .i64 a2, .int .u64 a0_4, .int .i64 a0_5, .int .i64 0, .int .i64 0, .int .i64 0, .int .i64 0, .int .i64 0, .int .i64 0, .int .u64 0, .int .i64 0, .int .i64 0, .int .i64 0, .int .i64 0, .int .i64 0] (0, 0) _ (hS.get 3 rfl) ((hBw22_w21.block g9 (blk_lt hbxw21)).trans hbxw21) Try.underlying34 rfl (by kernel_rfl) (Vals.at (hS.get 0 rfl) .nil))) hS.nodef ⟨rfl, hBw22_w⟩
    · rw [if_neg c2] at H
      simp only [Option.some.injEq, Prod.mk.injEq] at H
      obtain ⟨rfl, rfl, rfl, rfl, rfl, rfl, rfl, rfl, rfl, rfl, rfl, rfl, rfl, rfl, rfl, rfl, rfl, rfl, rfl, rfl, rfl, rfl, rfl, rfl⟩ := H
      refine calls_of_wp (fn := Try.f9) (by kernel_rfl) rfl ?_
      have hS := St.enter #[.agg #[.int .i64 a0_0, .int .i64 a0_1, .int .i64 a0_2, .int .i64 a0_3, .int .u64 a0_4, .int .i64 a0_5, .int .i64 a0_6, .int .i64 a0_7, .int .i64 a0_8, .int .u64 a0_9, .int .i64 a0_10, .int .i64 a0_11, .int .i64 a0_12, .int .i64 a0_13, .int .i64 a0_14, .int .i64 a0_15, .int .i64 a0_16, .int .u64 a0_17, .int .i64 a0_18, .int .i64 a0_19, .int .i64 a0_20, .int .i64 a0_21, .int .i64 a0_22], .agg #[.int .u64 a1_0, .int .i64 a1_1], .int .i64 a2, .int .i64 a3] 31 (by simp) [(0, .agg #[.int .i64 a0_0, .int .i64 a0_1, .int .i64 a0_2, .int .i64 a0_3, .int .u64 a0_4, .int .i64 a0_5, .int .i64 a0_6, .int .i64 a0_7, .int .i64 a0_8, .int .u64 a0_9, .int .i64 a0_10, .int .i64 a0_11, .int .i64 a0_12, .int .i64 a0_13, .int .i64 a0_14, .int .i64 a0_15, .int .i64 a0_16, .int .u64 a0_17, .int .i64 a0_18, .int .i64 a0_19, .int .i64 a0_20, .int .i64 a0_21, .int .i64 a0_22]), (1, .agg #[.int .u64 a1_0, .int .i64 a1_1]), (2, .int .i64 a2), (3, .int .i64 a3)] (by simp)
      have HB0 := Below.refl w.heap.size w
      refine wp_seq_k (fun K1 hK1 => ?_)
      refine reg_seq_tail 1 (N := 31) (bs := [(0, .agg #[.int .i64 a0_0, .int .i64 a0_1, .int .i64 a0_2, .int .i64 a0_3, .int .u64 a0_4, .int .i64 a0_5, .int .i64 a0_6, .int .i64 a0_7, .int .i64 a0_8, .int .u64 a0_9, .int .i64 a0_10, .int .i64 a0_11, .int .i64 a0_12, .int .i64 a0_13, .int .i64 a0_14, .int .i64 a0_15, .int .i64 a0_16, .int .u64 a0_17, .int .i64 a0_18, .int .i64 a0_19, .int .i64 a0_20, .int .i64 a0_21, .int .i64 a0_22]), (1, .agg #[.int .u64 a1_0, .int .i64 a1_1]), (2, .int .i64 a2), (3, .int .i64 a3)]) (I := fun x => Below w.heap.size w x) (ps := [IsB #[.int .i64 a0_0, .int .i64 a0_1, .int .i64 a0_2, .int .i64 a0_3, .int .u64 a0_4, .int .i64 a0_5, .int .i64 a0_6, .int .i64 a0_7, .int .i64 a0_8, .int .u64 a0_9, .int .i64 a0_10, .int .i64 a0_11, .int .i64 a0_12, .int .i64 a0_13, .int .i64 a0_14, .int .i64 a0_15, .int .i64 a0_16, .int .u64 a0_17, .int .i64 a0_18, .int .i64 a0_19, .int .i64 a0_20, .int .i64 a0_21, .int .i64 a0_22] 34 w.heap.size]) (by kernel_rfl) ?_ ?_ rfl hS HB0 ?_ ?_
      · exact fun x y hI hb => below_step hI hb
      · exact AllStay.cons (Stays.b _ _ _) (AllStay.nil)
      · refine Steps.cons (fun a w hS hI hp => ok_on rfl (does_var (x_box rfl (congrArg Value.cells (hS.get 0 rfl))) (hI).size)) ?_
        exact Steps.nil
      clear hS
      intro at2 w3 hS hI hp
      have hBw3_w := hI
      replace hS := (((hS.nil).cons (hS.get 3 rfl)).cons (hS.get 2 rfl)).cons (hS.get 1 rfl)
      obtain ⟨g4, hv4, hgeg4, hbxg4⟩ := (show IsB _ 34 _ (sl _ 4) _ from hp 0 (by decide))
      have hBw3_w3 := Below.refl w3.heap.size w3
      have hS := hS.cons hv4
      clear hp hI hv4
      show wpList _ _ _ [_, _, _] _ _
      refine list_step rfl (R := fun v w' => Below _ _ w' ∧ (IsB #[.int .u64 a1_0, .int .i64 a1_1] 24 w3.heap.size) v w') (does_var (x_box rfl (congrArg Value.cells (hS.get 1 rfl))) (hBw3_w3).size) ?_
      rintro vw5 w5 ⟨hb, he⟩
      have hBw5_w := below_step hBw3_w hb
      have hBw5_w3 := below_step hBw3_w3 hb
      have hBw5_w5 := Below.refl w5.heap.size w5
      obtain ⟨g6, rfl, hgeg6, hbxg6⟩ := he
      refine hS.next (v := .pointer (some ⟨g6, 0, none⟩)) (d := 5) rfl (by decide) (by rfl) ?_
      clear hS
      intro at7 hS
      refine list_step rfl (R := fun v w' => Below _ _ w' ∧ (IsB #[.int .i64 0, .int .i64 0, .int .i64 0, .int .i64 0, .int .u64 0, .int .i64 0, .int .i64 0, .int .i64 0, .int .i64 0, .int .u64 0, .int .i64 0, .int .i64 0, .int .i64 0, .int .i64 0, .int .i64 0, .int .i64 0, .int .i64 0, .int .u64 0, .int .i64 0, .int .i64 0, .int .i64 0, .int .i64 0, .int .i64 0] 34 w5.heap.size) v w') (does_var (x_alloc rfl (by kernel_rfl)) (hBw5_w5).size) ?_
      rintro vw8 w8 ⟨hb, he⟩
      have hBw8_w := below_step hBw5_w hb
      have hBw8_w3 := below_step hBw5_w3 hb
      have hBw8_w5 := below_step hBw5_w5 hb
      have hBw8_w8 := Below.refl w8.heap.size w8
      obtain ⟨g9, rfl, hgeg9, hbxg9⟩ := he
      refine hS.next (v := .pointer (some ⟨g9, 0, none⟩)) (d := 8) rfl (by decide) (by rfl) ?_
      clear hS
      intro at10 hS
      refine list_step rfl (R := fun v w' => Below _ _ w' ∧ (IsV (.bool false)) v w') (does_val (x_assign rfl (rfl)) rfl) ?_
      rintro vw11 w11 ⟨hb, he⟩
      have hBw11_w := below_step hBw8_w hb
      have hBw11_w3 := below_step hBw8_w3 hb
      have hBw11_w5 := below_step hBw8_w5 hb
      have hBw11_w8 := below_step hBw8_w8 hb
      have hBw11_w11 := Below.refl w11.heap.size w11
      obtain rfl : vw11 = .bool false := he
      refine hS.next (v := .bool false) (d := 9) rfl (by decide) (by rfl) ?_
      clear hS
      intro at12 hS
      refine wpList_nil ?_
      refine hK1 _ _ ?_
      clear hK1 K1
      refine wp_seq_k (fun K13 hK13 => ?_)
      refine wp_seq_k (fun K14 hK14 => ?_)
      refine reg_seq (N := 31) (bs := [(9, .bool false), (8, .pointer (some ⟨g9, 0, none⟩)), (5, .pointer (some ⟨g6, 0, none⟩)), (4, .pointer (some ⟨g4, 0, none⟩)), (1, .agg #[.int .u64 a1_0, .int .i64 a1_1]), (2, .int .i64 a2), (3, .int .i64 a3)]) (I := fun x => Below w.heap.size w x ∧ Below w3.heap.size w3 x ∧ Below w5.heap.size w5 x ∧ Below w8.heap.size w8 x ∧ Below w11.heap.size w11 x) (ps := [IsV (.pointer (some ⟨g4, 0, none⟩)), IsV (.int .i64 a0_0), IsV (.bool (!decide (a0_0 = 1))), IsV (.bool (!decide (a0_0 = 1))), IsV (.int .i64 a2), IsV (.bool t15), IsV (.bool (!t15)), IsV (.bool (!t15))]) (by kernel_rfl) ?_ ?_ rfl hS ⟨hBw11_w, hBw11_w3, hBw11_w5, hBw11_w8, hBw11_w11⟩ ?_ ?_
      · exact fun x y hI hb => ⟨below_step hI.1 hb, below_step hI.2.1 hb, below_step hI.2.2.1 hb, below_step hI.2.2.2.1 hb, below_step hI.2.2.2.2 hb⟩
      · exact AllStay.cons (Stays.v _) (AllStay.cons (Stays.v _) (AllStay.cons (Stays.v _) (AllStay.cons (Stays.v _) (AllStay.cons (Stays.v _) (AllStay.cons (Stays.v _) (AllStay.cons (Stays.v _) (AllStay.cons (Stays.v _) (AllStay.nil))))))))
      · refine Steps.cons (fun a w hS hI hp => ok_on rfl (does_val (x_field rfl (hS.get 3 rfl) Try.underlying34 rfl (by kernel_rfl)) rfl)) ?_
        refine Steps.cons (fun a w hS hI hp => ok_on rfl (does_val (x_load1 (d := .int .i64) rfl ((hp.get 0 (by rfl) rfl rfl)) (by kernel_rfl) rfl ((blk_cell (((hI.2.1).block g4 (blk_lt hbxg4)).trans hbxg4) 0).trans rfl)) rfl)) ?_
        refine Steps.cons (fun a w hS hI hp => ok_on rfl (does_val (x_bin rfl ((hp.get 1 (by rfl) rfl rfl)) (rfl) (b_neq _ _ _ _ _ _)) rfl)) ?_
        refine Steps.cons (fun a w hS hI hp => ok_on rfl (does_val (x_move rfl ((hp.get 2 (by rfl) rfl rfl))) rfl)) ?_
        refine Steps.cons (fun a w hS hI hp => ok_if (d := 13) rfl rfl (by rw [hS.size]; decide) (((hp.get 3 (by rfl) rfl rfl)).trans (bF (congrArg (!·) (decide_eq_true c1)))) (does_val (x_move rfl (hS.get 5 rfl)) rfl)) ?_
        refine Steps.cons (fun a w hS hI hp => ok_if (d := 13) rfl rfl (by rw [hS.size]; decide) (((hp.get 3 (by rfl) rfl rfl)).trans (bF (congrArg (!·) (decide_eq_true c1)))) (does_call (by kernel_rfl) (ar1 ((hp.get 4 (by rfl) rfl rfl))) ((stamp_May.calls a2 t15 _  At15).mono fun _ _ h => ⟨_, h.1, h.2.below, rfl⟩))) ?_
        refine Steps.cons (fun a w hS hI hp => ok_if (d := 13) rfl rfl (by rw [hS.size]; decide) (((hp.get 3 (by rfl) rfl rfl)).trans (bF (congrArg (!·) (decide_eq_true c1)))) (does_val (x_not rfl ((hp.get 5 (by rfl) rfl rfl))) rfl)) ?_
        refine Steps.cons (fun a w hS hI hp => ok_on rfl (does_val (x_pickF rfl (((hp.get 3 (by rfl) rfl rfl)).trans (bF (congrArg (!·) (decide_eq_true c1)))) ((hp.get 6 (by rfl) rfl rfl))) rfl)) ?_
        exact Steps.nil
      clear hS
      intro at16 w17 hS hI hp
      have hBw17_w := hI.1
      have hBw17_w3 := hI.2.1
      have hBw17_w5 := hI.2.2.1
      have hBw17_w8 := hI.2.2.2.1
      have hBw17_w11 := hI.2.2.2.2
      replace hS := ((((((hS.nil).cons (hS.get 6 rfl)).cons (hS.get 5 rfl)).cons (hS.get 3 rfl)).cons (hS.get 2 rfl)).cons (hS.get 1 rfl)).cons (hS.get 0 rfl)
      have hv17 : sl _ 17 = .bool (!t15) := hp 7 (by decide)
      have hBw17_w17 := Below.refl w17.heap.size w17
      have hS := hS.cons hv17
      clear hp hI hv17
      refine hK14 _ _ ?_
      clear hK14 K14
      refine wp_cond_true ((hS.get 0 rfl).trans (bT (congrArg (!·) (Bool.eq_false_iff.2 c2)))) ?_
      refine wp_seq_k (fun K18 hK18 => ?_)
      refine reg_seq_tail 1 (N := 31) (bs := [(17, .bool (!t15)), (9, .bool false), (8, .pointer (some ⟨g9, 0, none⟩)), (5, .pointer (some ⟨g6, 0, none⟩)), (4, .pointer (some ⟨g4, 0, none⟩)), (2, .int .i64 a2), (3, .int .i64 a3)]) (I := fun x => Below w.heap.size w x ∧ Below w3.heap.size w3 x ∧ Below w5.heap.size w5 x ∧ Below w8.heap.size w8 x ∧ Below w17.heap.size w17 x) (ps := [IsV (.agg #[.int .i64 0, .int .i64 0, .int .i64 0, .int .i64 0, .int .u64 0, .int .i64 0, .int .i64 0, .int .i64 0, .int .i64 0, .int .u64 0, .int .i64 0, .int .i64 0, .int .i64 0, .int .i64 0, .int .i64 0, .int .i64 0, .int .i64 0, .int .u64 0, .int .i64 0, .int .i64 0, .int .i64 0, .int .i64 0, .int .i64 0])]) (by kernel_rfl) ?_ ?_ rfl hS ⟨hBw17_w, hBw17_w3, hBw17_w5, hBw17_w8, hBw17_w17⟩ ?_ ?_
      · exact fun x y hI hb => ⟨below_step hI.1 hb, below_step hI.2.1 hb, below_step hI.2.2.1 hb, below_step hI.2.2.2.1 hb, below_step hI.2.2.2.2 hb⟩
      · exact AllStay.cons (Stays.v _) (AllStay.nil)
      · refine Steps.cons (fun a w hS hI hp => ok_on rfl (does_val (x_build (vs := []) rfl (by rw [Array.toList_map]; exact (show [] = _ from rfl)) (by kernel_rfl)) rfl)) ?_
        exact Steps.nil
      clear hS
      intro at19 w20 hS hI hp
      have hBw20_w := hI.1
      have hBw20_w3 := hI.2.1
      have hBw20_w5 := hI.2.2.1
      have hBw20_w8 := hI.2.2.2.1
      have hBw20_w17 := hI.2.2.2.2
      have hv18 : sl _ 18 = .agg #[.int .i64 0, .int .i64 0, .int .i64 0, .int .i64 0, .int .u64 0, .int .i64 0, .int .i64 0, .int .i64 0, .int .i64 0, .int .u64 0, .int .i64 0, .int .i64 0, .int .i64 0, .int .i64 0, .int .i64 0, .int .i64 0, .int .i64 0, .int .u64 0, .int .i64 0, .int .i64 0, .int .i64 0, .int .i64 0, .int .i64 0] := hp 0 (by decide)
      have hBw20_w20 := Below.refl w20.heap.size w20
      have hS := hS.cons hv18
      clear hp hI hv18
      show wpList _ _ _ [_, _] _ _
      refine list_step rfl (does_storeAll (g := g9) (cs := #[.int .i64 0, .int .i64 0, .int .i64 0, .int .i64 0, .int .u64 0, .int .i64 0, .int .i64 0, .int .i64 0, .int .i64 0, .int .u64 0, .int .i64 0, .int .i64 0, .int .i64 0, .int .i64 0, .int .i64 0, .int .i64 0, .int .i64 0, .int .u64 0, .int .i64 0, .int .i64 0, .int .i64 0, .int .i64 0, .int .i64 0]) rfl (hS.get 3 rfl) (hS.get 0 rfl) ((hBw20_w8.block g9 (blk_lt hbxg9)).trans hbxg9) (by kernel_rfl) (by kernel_rfl) (by kernel_rfl)) ?_
      rintro vw21 w21 ⟨rfl, hbxw21, hT⟩
      have hBw21_w := hT.below hBw20_w (Nat.le_trans (hBw5_w).size hgeg9) (hBw20_w).size
      have hBw21_w3 := hT.below hBw20_w3 (Nat.le_trans (hBw5_w3).size hgeg9) (hBw20_w3).size
      have hBw21_w5 := hT.below hBw20_w5 hgeg9 (hBw20_w5).size
      have hBw21_w21 := Below.refl w21.heap.size w21
      clear hT
      refine list_step rfl (R := fun v w' => Below _ _ w' ∧ (IsV (.bool false)) v w') (does_val (x_assign rfl (rfl)) rfl) ?_
      rintro vw22 w22 ⟨hb, he⟩
      have hBw22_w := below_step hBw21_w hb
      have hBw22_w3 := below_step hBw21_w3 hb
      have hBw22_w5 := below_step hBw21_w5 hb
      have hBw22_w21 := below_step hBw21_w21 hb
      have hBw22_w22 := Below.refl w22.heap.size w22
      obtain rfl : vw22 = .bool false := he
      replace hS := (((((((hS.nil).cons (hS.get 7 rfl)).cons (hS.get 6 rfl)).cons (hS.get 5 rfl)).cons (hS.get 4 rfl)).cons (hS.get 3 rfl)).cons (hS.get 1 rfl)).cons (hS.get 0 rfl)
      refine hS.next (v := .bool false) (d := 9) rfl (by decide) (by rfl) ?_
      clear hS
      intro at23 hS
      refine wpList_nil ?_
      refine hK18 _ _ ?_
      clear hK18 K18
      refine wp_ret ?_
      (try simp only [Exit.then, Exit.inBlock])
      exact bodyPost_ret (v := .tuple #[.agg #[.int .i64 0, .int .i64 0, .int .i64 0, .int .i64 0, .int .u64 0, .int .i64 0, .int .i64 0, .int .i64 0, .int .i64 0, .int .u64 0, .int .i64 0, .int .i64 0, .int .i64 0, .int .i64 0, .int .i64 0, .int .i64 0, .int .i64 0, .int .u64 0, .int .i64 0, .int .i64 0, .int .i64 0, .int .i64 0, .int .i64 0], .bool false]) (results_list (rs := [.cell 8 34, .tmp 9]) rfl (by simp) (Vals.cell g9 34 #[.int .i64 0, .int .i64 0, .int .i64 0, .int .i64 0, .int .u64 0, .int .i64 0, .int .i64 0, .int .i64 0, .int .i64 0, .int .u64 0, .int .i64 0, .int .i64 0, .int .i64 0, .int .i64 0, .int .i64 0, .int .i64 0, .int .i64 0, .int .u64 0, .int .i64 0, .int .i64 0, .int .i64 0, .int .i64 0, .int .i64 0] (0, 0) _ (hS.get 3 rfl) ((hBw22_w21.block g9 (blk_lt hbxw21)).trans hbxw21) Try.underlying34 rfl (by kernel_rfl) (Vals.at (hS.get 0 rfl) .nil))) hS.nodef ⟨rfl, hBw22_w⟩
  · rw [if_neg c1] at H
    simp only [Option.some.injEq, Prod.mk.injEq] at H
    obtain ⟨rfl, rfl, rfl, rfl, rfl, rfl, rfl, rfl, rfl, rfl, rfl, rfl, rfl, rfl, rfl, rfl, rfl, rfl, rfl, rfl, rfl, rfl, rfl, rfl⟩ := H
    refine calls_of_wp (fn := Try.f9) (by kernel_rfl) rfl ?_
    have hS := St.enter #[.agg #[.int .i64 a0_0, .int .i64 a0_1, .int .i64 a0_2, .int .i64 a0_3, .int .u64 a0_4, .int .i64 a0_5, .int .i64 a0_6, .int .i64 a0_7, .int .i64 a0_8, .int .u64 a0_9, .int .i64 a0_10, .int .i64 a0_11, .int .i64 a0_12, .int .i64 a0_13, .int .i64 a0_14, .int .i64 a0_15, .int .i64 a0_16, .int .u64 a0_17, .int .i64 a0_18, .int .i64 a0_19, .int .i64 a0_20, .int .i64 a0_21, .int .i64 a0_22], .agg #[.int .u64 a1_0, .int .i64 a1_1], .int .i64 a2, .int .i64 a3] 31 (by simp) [(0, .agg #[.int .i64 a0_0, .int .i64 a0_1, .int .i64 a0_2, .int .i64 a0_3, .int .u64 a0_4, .int .i64 a0_5, .int .i64 a0_6, .int .i64 a0_7, .int .i64 a0_8, .int .u64 a0_9, .int .i64 a0_10, .int .i64 a0_11, .int .i64 a0_12, .int .i64 a0_13, .int .i64 a0_14, .int .i64 a0_15, .int .i64 a0_16, .int .u64 a0_17, .int .i64 a0_18, .int .i64 a0_19, .int .i64 a0_20, .int .i64 a0_21, .int .i64 a0_22]), (1, .agg #[.int .u64 a1_0, .int .i64 a1_1]), (2, .int .i64 a2), (3, .int .i64 a3)] (by simp)
    have HB0 := Below.refl w.heap.size w
    refine wp_seq_k (fun K1 hK1 => ?_)
    refine reg_seq_tail 1 (N := 31) (bs := [(0, .agg #[.int .i64 a0_0, .int .i64 a0_1, .int .i64 a0_2, .int .i64 a0_3, .int .u64 a0_4, .int .i64 a0_5, .int .i64 a0_6, .int .i64 a0_7, .int .i64 a0_8, .int .u64 a0_9, .int .i64 a0_10, .int .i64 a0_11, .int .i64 a0_12, .int .i64 a0_13, .int .i64 a0_14, .int .i64 a0_15, .int .i64 a0_16, .int .u64 a0_17, .int .i64 a0_18, .int .i64 a0_19, .int .i64 a0_20, .int .i64 a0_21, .int .i64 a0_22]), (1, .agg #[.int .u64 a1_0, .int .i64 a1_1]), (2, .int .i64 a2), (3, .int .i64 a3)]) (I := fun x => Below w.heap.size w x) (ps := [IsB #[.int .i64 a0_0, .int .i64 a0_1, .int .i64 a0_2, .int .i64 a0_3, .int .u64 a0_4, .int .i64 a0_5, .int .i64 a0_6, .int .i64 a0_7, .int .i64 a0_8, .int .u64 a0_9, .int .i64 a0_10, .int .i64 a0_11, .int .i64 a0_12, .int .i64 a0_13, .int .i64 a0_14, .int .i64 a0_15, .int .i64 a0_16, .int .u64 a0_17, .int .i64 a0_18, .int .i64 a0_19, .int .i64 a0_20, .int .i64 a0_21, .int .i64 a0_22] 34 w.heap.size]) (by kernel_rfl) ?_ ?_ rfl hS HB0 ?_ ?_
    · exact fun x y hI hb => below_step hI hb
    · exact AllStay.cons (Stays.b _ _ _) (AllStay.nil)
    · refine Steps.cons (fun a w hS hI hp => ok_on rfl (does_var (x_box rfl (congrArg Value.cells (hS.get 0 rfl))) (hI).size)) ?_
      exact Steps.nil
    clear hS
    intro at2 w3 hS hI hp
    have hBw3_w := hI
    replace hS := (((hS.nil).cons (hS.get 3 rfl)).cons (hS.get 2 rfl)).cons (hS.get 1 rfl)
    obtain ⟨g4, hv4, hgeg4, hbxg4⟩ := (show IsB _ 34 _ (sl _ 4) _ from hp 0 (by decide))
    have hBw3_w3 := Below.refl w3.heap.size w3
    have hS := hS.cons hv4
    clear hp hI hv4
    show wpList _ _ _ [_, _, _] _ _
    refine list_step rfl (R := fun v w' => Below _ _ w' ∧ (IsB #[.int .u64 a1_0, .int .i64 a1_1] 24 w3.heap.size) v w') (does_var (x_box rfl (congrArg Value.cells (hS.get 1 rfl))) (hBw3_w3).size) ?_
    rintro vw5 w5 ⟨hb, he⟩
    have hBw5_w := below_step hBw3_w hb
    have hBw5_w3 := below_step hBw3_w3 hb
    have hBw5_w5 := Below.refl w5.heap.size w5
    obtain ⟨g6, rfl, hgeg6, hbxg6⟩ := he
    refine hS.next (v := .pointer (some ⟨g6, 0, none⟩)) (d := 5) rfl (by decide) (by rfl) ?_
    clear hS
    intro at7 hS
    refine list_step rfl (R := fun v w' => Below _ _ w' ∧ (IsB #[.int .i64 0, .int .i64 0, .int .i64 0, .int .i64 0, .int .u64 0, .int .i64 0, .int .i64 0, .int .i64 0, .int .i64 0, .int .u64 0, .int .i64 0, .int .i64 0, .int .i64 0, .int .i64 0, .int .i64 0, .int .i64 0, .int .i64 0, .int .u64 0, .int .i64 0, .int .i64 0, .int .i64 0, .int .i64 0, .int .i64 0] 34 w5.heap.size) v w') (does_var (x_alloc rfl (by kernel_rfl)) (hBw5_w5).size) ?_
    rintro vw8 w8 ⟨hb, he⟩
    have hBw8_w := below_step hBw5_w hb
    have hBw8_w3 := below_step hBw5_w3 hb
    have hBw8_w5 := below_step hBw5_w5 hb
    have hBw8_w8 := Below.refl w8.heap.size w8
    obtain ⟨g9, rfl, hgeg9, hbxg9⟩ := he
    refine hS.next (v := .pointer (some ⟨g9, 0, none⟩)) (d := 8) rfl (by decide) (by rfl) ?_
    clear hS
    intro at10 hS
    refine list_step rfl (R := fun v w' => Below _ _ w' ∧ (IsV (.bool false)) v w') (does_val (x_assign rfl (rfl)) rfl) ?_
    rintro vw11 w11 ⟨hb, he⟩
    have hBw11_w := below_step hBw8_w hb
    have hBw11_w3 := below_step hBw8_w3 hb
    have hBw11_w5 := below_step hBw8_w5 hb
    have hBw11_w8 := below_step hBw8_w8 hb
    have hBw11_w11 := Below.refl w11.heap.size w11
    obtain rfl : vw11 = .bool false := he
    refine hS.next (v := .bool false) (d := 9) rfl (by decide) (by rfl) ?_
    clear hS
    intro at12 hS
    refine wpList_nil ?_
    refine hK1 _ _ ?_
    clear hK1 K1
    refine wp_seq_k (fun K13 hK13 => ?_)
    refine wp_seq_k (fun K14 hK14 => ?_)
    refine reg_seq (N := 31) (bs := [(9, .bool false), (8, .pointer (some ⟨g9, 0, none⟩)), (5, .pointer (some ⟨g6, 0, none⟩)), (4, .pointer (some ⟨g4, 0, none⟩)), (1, .agg #[.int .u64 a1_0, .int .i64 a1_1]), (2, .int .i64 a2), (3, .int .i64 a3)]) (I := fun x => Below w.heap.size w x ∧ Below w3.heap.size w3 x ∧ Below w5.heap.size w5 x ∧ Below w8.heap.size w8 x ∧ Below w11.heap.size w11 x) (ps := [IsV (.pointer (some ⟨g4, 0, none⟩)), IsV (.int .i64 a0_0), IsV (.bool (!decide (a0_0 = 1))), IsV (.bool (!decide (a0_0 = 1))), IsV undef, IsV undef, IsV undef, IsV (.bool true)]) (by kernel_rfl) ?_ ?_ rfl hS ⟨hBw11_w, hBw11_w3, hBw11_w5, hBw11_w8, hBw11_w11⟩ ?_ ?_
    · exact fun x y hI hb => ⟨below_step hI.1 hb, below_step hI.2.1 hb, below_step hI.2.2.1 hb, below_step hI.2.2.2.1 hb, below_step hI.2.2.2.2 hb⟩
    · exact AllStay.cons (Stays.v _) (AllStay.cons (Stays.v _) (AllStay.cons (Stays.v _) (AllStay.cons (Stays.v _) (AllStay.cons (Stays.v _) (AllStay.cons (Stays.v _) (AllStay.cons (Stays.v _) (AllStay.cons (Stays.v _) (AllStay.nil))))))))
    · refine Steps.cons (fun a w hS hI hp => ok_on rfl (does_val (x_field rfl (hS.get 3 rfl) Try.underlying34 rfl (by kernel_rfl)) rfl)) ?_
      refine Steps.cons (fun a w hS hI hp => ok_on rfl (does_val (x_load1 (d := .int .i64) rfl ((hp.get 0 (by rfl) rfl rfl)) (by kernel_rfl) rfl ((blk_cell (((hI.2.1).block g4 (blk_lt hbxg4)).trans hbxg4) 0).trans rfl)) rfl)) ?_
      refine Steps.cons (fun a w hS hI hp => ok_on rfl (does_val (x_bin rfl ((hp.get 1 (by rfl) rfl rfl)) (rfl) (b_neq _ _ _ _ _ _)) rfl)) ?_
      refine Steps.cons (fun a w hS hI hp => ok_on rfl (does_val (x_move rfl ((hp.get 2 (by rfl) rfl rfl))) rfl)) ?_
      refine Steps.cons (fun a w hS hI hp => ok_off (d := 13) rfl rfl (by rw [hS.size]; decide) (((hp.get 3 (by rfl) rfl rfl)).trans (bT (congrArg (!·) (decide_eq_false c1)))) rfl) ?_
      refine Steps.cons (fun a w hS hI hp => ok_off (d := 13) rfl rfl (by rw [hS.size]; decide) (((hp.get 3 (by rfl) rfl rfl)).trans (bT (congrArg (!·) (decide_eq_false c1)))) rfl) ?_
      refine Steps.cons (fun a w hS hI hp => ok_off (d := 13) rfl rfl (by rw [hS.size]; decide) (((hp.get 3 (by rfl) rfl rfl)).trans (bT (congrArg (!·) (decide_eq_false c1)))) rfl) ?_
      refine Steps.cons (fun a w hS hI hp => ok_on rfl (does_val (x_pickT rfl (((hp.get 3 (by rfl) rfl rfl)).trans (bT (congrArg (!·) (decide_eq_false c1)))) (rfl)) rfl)) ?_
      exact Steps.nil
    clear hS
    intro at15 w16 hS hI hp
    have hBw16_w := hI.1
    have hBw16_w3 := hI.2.1
    have hBw16_w5 := hI.2.2.1
    have hBw16_w8 := hI.2.2.2.1
    have hBw16_w11 := hI.2.2.2.2
    replace hS := ((((((hS.nil).cons (hS.get 6 rfl)).cons (hS.get 5 rfl)).cons (hS.get 3 rfl)).cons (hS.get 2 rfl)).cons (hS.get 1 rfl)).cons (hS.get 0 rfl)
    have hv17 : sl _ 17 = .bool true := hp 7 (by decide)
    have hBw16_w16 := Below.refl w16.heap.size w16
    have hS := hS.cons hv17
    clear hp hI hv17
    refine hK14 _ _ ?_
    clear hK14 K14
    refine wp_cond_true ((hS.get 0 rfl).trans (bT rfl)) ?_
    refine wp_seq_k (fun K17 hK17 => ?_)
    refine reg_seq_tail 1 (N := 31) (bs := [(17, .bool true), (9, .bool false), (8, .pointer (some ⟨g9, 0, none⟩)), (5, .pointer (some ⟨g6, 0, none⟩)), (4, .pointer (some ⟨g4, 0, none⟩)), (2, .int .i64 a2), (3, .int .i64 a3)]) (I := fun x => Below w.heap.size w x ∧ Below w3.heap.size w3 x ∧ Below w5.heap.size w5 x ∧ Below w8.heap.size w8 x ∧ Below w16.heap.size w16 x) (ps := [IsV (.agg #[.int .i64 0, .int .i64 0, .int .i64 0, .int .i64 0, .int .u64 0, .int .i64 0, .int .i64 0, .int .i64 0, .int .i64 0, .int .u64 0, .int .i64 0, .int .i64 0, .int .i64 0, .int .i64 0, .int .i64 0, .int .i64 0, .int .i64 0, .int .u64 0, .int .i64 0, .int .i64 0, .int .i64 0, .int .i64 0, .int .i64 0])]) (by kernel_rfl) ?_ ?_ rfl hS ⟨hBw16_w, hBw16_w3, hBw16_w5, hBw16_w8, hBw16_w16⟩ ?_ ?_
    · exact fun x y hI hb => ⟨below_step hI.1 hb, below_step hI.2.1 hb, below_step hI.2.2.1 hb, below_step hI.2.2.2.1 hb, below_step hI.2.2.2.2 hb⟩
    · exact AllStay.cons (Stays.v _) (AllStay.nil)
    · refine Steps.cons (fun a w hS hI hp => ok_on rfl (does_val (x_build (vs := []) rfl (by rw [Array.toList_map]; exact (show [] = _ from rfl)) (by kernel_rfl)) rfl)) ?_
      exact Steps.nil
    clear hS
    intro at18 w19 hS hI hp
    have hBw19_w := hI.1
    have hBw19_w3 := hI.2.1
    have hBw19_w5 := hI.2.2.1
    have hBw19_w8 := hI.2.2.2.1
    have hBw19_w16 := hI.2.2.2.2
    have hv18 : sl _ 18 = .agg #[.int .i64 0, .int .i64 0, .int .i64 0, .int .i64 0, .int .u64 0, .int .i64 0, .int .i64 0, .int .i64 0, .int .i64 0, .int .u64 0, .int .i64 0, .int .i64 0, .int .i64 0, .int .i64 0, .int .i64 0, .int .i64 0, .int .i64 0, .int .u64 0, .int .i64 0, .int .i64 0, .int .i64 0, .int .i64 0, .int .i64 0] := hp 0 (by decide)
    have hBw19_w19 := Below.refl w19.heap.size w19
    have hS := hS.cons hv18
    clear hp hI hv18
    show wpList _ _ _ [_, _] _ _
    refine list_step rfl (does_storeAll (g := g9) (cs := #[.int .i64 0, .int .i64 0, .int .i64 0, .int .i64 0, .int .u64 0, .int .i64 0, .int .i64 0, .int .i64 0, .int .i64 0, .int .u64 0, .int .i64 0, .int .i64 0, .int .i64 0, .int .i64 0, .int .i64 0, .int .i64 0, .int .i64 0, .int .u64 0, .int .i64 0, .int .i64 0, .int .i64 0, .int .i64 0, .int .i64 0]) rfl (hS.get 3 rfl) (hS.get 0 rfl) ((hBw19_w8.block g9 (blk_lt hbxg9)).trans hbxg9) (by kernel_rfl) (by kernel_rfl) (by kernel_rfl)) ?_
    rintro vw20 w20 ⟨rfl, hbxw20, hT⟩
    have hBw20_w := hT.below hBw19_w (Nat.le_trans (hBw5_w).size hgeg9) (hBw19_w).size
    have hBw20_w3 := hT.below hBw19_w3 (Nat.le_trans (hBw5_w3).size hgeg9) (hBw19_w3).size
    have hBw20_w5 := hT.below hBw19_w5 hgeg9 (hBw19_w5).size
    have hBw20_w20 := Below.refl w20.heap.size w20
    clear hT
    refine list_step rfl (R := fun v w' => Below _ _ w' ∧ (IsV (.bool false)) v w') (does_val (x_assign rfl (rfl)) rfl) ?_
    rintro vw21 w21 ⟨hb, he⟩
    have hBw21_w := below_step hBw20_w hb
    have hBw21_w3 := below_step hBw20_w3 hb
    have hBw21_w5 := below_step hBw20_w5 hb
    have hBw21_w20 := below_step hBw20_w20 hb
    have hBw21_w21 := Below.refl w21.heap.size w21
    obtain rfl : vw21 = .bool false := he
    replace hS := (((((((hS.nil).cons (hS.get 7 rfl)).cons (hS.get 6 rfl)).cons (hS.get 5 rfl)).cons (hS.get 4 rfl)).cons (hS.get 3 rfl)).cons (hS.get 1 rfl)).cons (hS.get 0 rfl)
    refine hS.next (v := .bool false) (d := 9) rfl (by decide) (by rfl) ?_
    clear hS
    intro at22 hS
    refine wpList_nil ?_
    refine hK17 _ _ ?_
    clear hK17 K17
    refine wp_ret ?_
    (try simp only [Exit.then, Exit.inBlock])
    exact bodyPost_ret (v := .tuple #[.agg #[.int .i64 0, .int .i64 0, .int .i64 0, .int .i64 0, .int .u64 0, .int .i64 0, .int .i64 0, .int .i64 0, .int .i64 0, .int .u64 0, .int .i64 0, .int .i64 0, .int .i64 0, .int .i64 0, .int .i64 0, .int .i64 0, .int .i64 0, .int .u64 0, .int .i64 0, .int .i64 0, .int .i64 0, .int .i64 0, .int .i64 0], .bool false]) (results_list (rs := [.cell 8 34, .tmp 9]) rfl (by simp) (Vals.cell g9 34 #[.int .i64 0, .int .i64 0, .int .i64 0, .int .i64 0, .int .u64 0, .int .i64 0, .int .i64 0, .int .i64 0, .int .i64 0, .int .u64 0, .int .i64 0, .int .i64 0, .int .i64 0, .int .i64 0, .int .i64 0, .int .i64 0, .int .i64 0, .int .u64 0, .int .i64 0, .int .i64 0, .int .i64 0, .int .i64 0, .int .i64 0] (0, 0) _ (hS.get 3 rfl) ((hBw21_w20.block g9 (blk_lt hbxw20)).trans hbxw20) Try.underlying34 rfl (by kernel_rfl) (Vals.at (hS.get 0 rfl) .nil))) hS.nodef ⟨rfl, hBw21_w⟩

/-! ### carillonlaw00_Place: function 11 -/
def carillonlaw00_Place.f (a0 : Int) (a1 : Int) : Option (Int) := if a1 = 0 then (none) else (if (Int.tmod a0 a1) < 0 then (some (wrap64 ((Int.tmod a0 a1) + a1))) else (some (Int.tmod a0 a1)))
set_option maxHeartbeats 8000000 in
set_option maxRecDepth 100000 in
theorem carillonlaw00_Place.calls (a0 : Int) (a1 : Int) (r : Int) (w : World) (h : carillonlaw00_Place.f a0 a1 = some r) :
    Calls Try.prog 11 #[.int .i64 a0, .int .i64 a1] w fun e w' => e = .returned (.int .i64 r) ∧ Drawn0 w w' := by
  have H : (if a1 = 0 then (none) else (if (Int.tmod a0 a1) < 0 then (some (wrap64 ((Int.tmod a0 a1) + a1))) else (some (Int.tmod a0 a1)))) = some r := h
  clear h
  by_cases c3 : a1 = 0
  · rw [if_pos c3] at H
    exact absurd H (by simp)
  · rw [if_neg c3] at H
    have c3b0 : (a1 == 0) = false := beq_eq_false_iff_ne.mpr c3
    have c3b1 : (a1 != 0) = true := bne_iff_ne.mpr c3
    by_cases c4 : (Int.tmod a0 a1) < 0
    · rw [if_pos c4] at H
      have c4b0 : decide ((Int.tmod a0 a1) < 0) = true := decide_eq_true c4
      clear c4
      obtain rfl := Option.some.inj H
      go_enter Try.func11, Try.ntmps11
      go_wp2
      all_goals
        go_ret
        exact ⟨by first | rfl | (simp; done) | (simp [*]; done), by repeat (first | exact Drawn0.refl _ | apply Drawn0.step)⟩
    · rw [if_neg c4] at H
      have c4b0 : decide ((Int.tmod a0 a1) < 0) = false := decide_eq_false c4
      clear c4
      obtain rfl := Option.some.inj H
      go_enter Try.func11, Try.ntmps11
      go_wp2
      all_goals
        go_ret
        exact ⟨by first | rfl | (simp; done) | (simp [*]; done), by repeat (first | exact Drawn0.refl _ | apply Drawn0.step)⟩

end Go.Proofs.Ytpfjpfbhgeoadaa.P
