/- Functions and loops of the given program as Lean functions, and that the code comes to what they say: written by this session's own program; Lean checks it. -/
import Derived.Test.YtpfjpfbhgeoadaaZzPx0
namespace Go.Proofs.Ytpfjpfbhgeoadaa.P
open Go.RowKit Go.Proofs.YtpfjpfbhgeoadaaW.PrintWords Go.Proofs.YtpfjpfbhgeoadaaW.PrintLast Go.Proofs.YtpfjpfbhgeoadaaW.PrintMore
attribute [local go_sem] max2_int min2_int max_two min_two max_three min_three max_four min_four   -- for this text's walks alone
set_option linter.unusedVariables false
set_option linter.unusedSimpArgs false
/-! ### delay_New: function 8: by our own printer -/
def delay_New.f (a0_0 a0_1 a1 : Int) : Option (Int × Int × Int × Int × Int × Bool × Bool) := some (a0_0, a0_1, a1, 0, 0, false, false)
abbrev delay_New.v0 (x0 x1 x2 x3 x4 : Int) (x5 x6 : Bool) : Value := .agg #[.int .u64 x0, .int .i64 x1, .int .i64 x2, .int .i64 x3, .int .i64 x4, .bool x5, .bool x6]
abbrev delay_New.c1 (x0 x1 x2 x3 x4 : Int) (x5 x6 : Bool) : Array Value := #[.int .u64 x0, .int .i64 x1, .int .i64 x2, .int .i64 x3, .int .i64 x4, .bool x5, .bool x6]
open Go.Proofs.Ytpfjpfbhgeoadaa.E in
set_option maxHeartbeats 60000000 in
set_option maxRecDepth 100000 in
theorem delay_New.calls (a0_0 a0_1 a1 r1 r2 r3 r4 r5 : Int) (r6 r7 : Bool) (w : World) (h : delay_New.f a0_0 a0_1 a1 = some (r1, r2, r3, r4, r5, r6, r7)) :
    Calls Try.prog 8 #[.agg #[.int .u64 a0_0, .int .i64 a0_1], .int .i64 a1] w fun e w' => ∃ gr0_ : Nat, e = .returned (.pointer (some ⟨gr0_, 0, none⟩)) ∧ w.heap.size ≤ gr0_ ∧ w'.heap[gr0_]? = some (.cells #[.int .u64 r1, .int .i64 r2, .int .i64 r3, .int .i64 r4, .int .i64 r5, .bool r6, .bool r7] 54 (0, 0)) ∧ Below w.heap.size w w' := by
  have H := h
  clear h
  unfold delay_New.f at H
  simp only [Option.some.injEq, Prod.mk.injEq] at H
  obtain ⟨rfl, rfl, rfl, rfl, rfl, rfl, rfl⟩ := H
  refine calls_of_wp (fn := Try.f8) (by kernel_rfl) rfl ?_
  have hS := St.enter #[.agg #[.int .u64 a0_0, .int .i64 a0_1], .int .i64 a1] 9 (by simp) [(0, .agg #[.int .u64 a0_0, .int .i64 a0_1]), (1, .int .i64 a1)] (by simp)
  have HB0 := Below.refl w.heap.size w
  refine wp_seq_k (fun K1 hK1 => ?_)
  refine reg_seq (N := 9) (bs := [(0, .agg #[.int .u64 a0_0, .int .i64 a0_1]), (1, .int .i64 a1)]) (I := fun x => Below w.heap.size w x) (ps := [IsB #[.int .u64 a0_0, .int .i64 a0_1] 24 w.heap.size, IsV (.pointer none)]) (by kernel_rfl) ?_ ?_ rfl hS HB0 ?_ ?_
  · exact fun x y hI hb => below_step hI hb
  · exact .cons (Stays.b _ _ _) (.v (.nil))
  · refine .on rfl (fun a w hS hI hp => does_var (x_box rfl (congrArg Value.cells (hS.get 0 rfl))) (hI).size) ?_
    refine .on rfl (fun a w hS hI hp => does_val (x_assign rfl (rfl)) rfl) ?_
    exact .nil
  clear hS
  intro at2 w3 hS hI hp
  have hBw3_w := hI
  replace hS := (hS.nil).cons (hS.get 1 rfl)
  obtain ⟨g4, hv2, hgeg4, hbxg4⟩ := (show IsB _ 24 _ (sl _ 2) _ from hp 0 (by decide))
  have hBw3_w3 := Below.refl w3.heap.size w3
  have hS := hS.cons hv2
  clear hp hI hv2
  refine hK1 _ _ ?_
  (try clear hK1 K1)
  refine wp_seq_k (fun K5 hK5 => ?_)
  refine reg_seq (N := 9) (bs := [(2, .pointer (some ⟨g4, 0, none⟩)), (1, .int .i64 a1)]) (I := fun x => Below w.heap.size w x ∧ Below w3.heap.size w3 x) (ps := [IsV (.agg #[.int .u64 a0_0, .int .i64 a0_1]), VI a1, IsV ((delay_New.v0 a0_0 a0_1 a1 0 0 false false)), IsB (delay_New.c1 a0_0 a0_1 a1 0 0 false false) 54 w3.heap.size, IsB (delay_New.c1 a0_0 a0_1 a1 0 0 false false) 54 w3.heap.size]) (by kernel_rfl) ?_ ?_ rfl hS ⟨hBw3_w, hBw3_w3⟩ ?_ ?_
  · exact fun x y hI hb => ⟨below_step hI.1 hb, below_step hI.2 hb⟩
  · exact .v (.v (.v (.cons (Stays.b _ _ _) (.cons (Stays.b _ _ _) (.nil)))))
  · refine .on rfl (fun a w hS hI hp => does_loadrow rfl (hS.get 0 rfl) (((hI.2).block g4 (blk_lt hbxg4)).trans hbxg4) Try.underlying24 rfl (by kernel_rfl) rfl) ?_
    refine .ms 1 rfl rfl rfl ?_
    refine .on rfl (fun a w hS hI hp => does_val (x_build (vs := [(0, .agg #[.int .u64 a0_0, .int .i64 a0_1]), (1, .int .i64 a1)]) rfl (by rw [Array.toList_map]; exact (show [(0, a.eval (.tmp 5)), (1, a.eval (.tmp 6))] = _ from (li_cons (hp.V 0 rfl rfl) (li_cons (hp.V 1 rfl rfl) rfl)))) (by kernel_rfl)) rfl) ?_
    refine .on rfl (fun a w hS hI hp => does_var (x_box rfl (congrArg Value.cells (hp.V 2 rfl rfl))) (hI.2).size) ?_
    refine .on rfl (fun a w hS hI hp => does_val (x_assign rfl rfl) (hp.V 3 rfl rfl)) ?_
    exact .nil
  clear hS
  intro at6 w7 hS hI hp
  have hBw7_w := hI.1
  have hBw7_w3 := hI.2
  replace hS := hS.nil
  obtain ⟨g8, hv4, hgeg8, hbxg8⟩ := (show IsB _ 54 _ (sl _ 4) _ from hp 4 (by decide))
  have hBw7_w7 := Below.refl w7.heap.size w7
  have hS := hS.cons hv4
  clear hp hI hv4
  refine hK5 _ _ ?_
  (try clear hK5 K5)
  refine wp_ret ?_
  (try simp only [Exit.then, Exit.inBlock, Exit.jump, Exit.noGoto])
  exact bodyPost_ret (v := .pointer (some ⟨g8, 0, none⟩)) (results_single rfl (Vals.at (hS.get 0 rfl) .nil)) hS.nodef ⟨g8, rfl, (Nat.le_trans (hBw3_w).size hgeg8), ((hBw7_w7.block g8 (blk_lt hbxg8)).trans hbxg8), hBw7_w⟩
/-! ### stamp_May: function 21 -/
def stamp_May.f (a0 : Int) : Option (Bool) := if a0 ≥ 0 then (some (decide (a0 ≤ 4000000000000000))) else (some false)
set_option maxHeartbeats 8000000 in
set_option maxRecDepth 100000 in
theorem stamp_May.calls (a0 : Int) (r : Bool) (w : World) (h : stamp_May.f a0 = some r) :
    Calls Try.prog 21 #[.int .i64 a0] w fun e w' => e = .returned (.bool r) ∧ Drawn0 w w' := by
  have H : (if a0 ≥ 0 then (some (decide (a0 ≤ 4000000000000000))) else (some false)) = some r := h
  clear h
  by_cases c2 : a0 ≥ 0
  · rw [if_pos c2] at H
    have c2b0 : decide (0 ≤ a0) = true := decide_eq_true c2
    clear c2
    obtain rfl := Option.some.inj H
    go_enter Try.func21, Try.ntmps21
    go_wp2
    all_goals
      go_ret
      exact ⟨by first | rfl | (simp; done) | (simp [*]; done), by repeat (first | exact Drawn0.refl _ | apply Drawn0.step)⟩
  · rw [if_neg c2] at H
    have c2b0 : decide (0 ≤ a0) = false := decide_eq_false c2
    clear c2
    obtain rfl := Option.some.inj H
    go_enter Try.func21, Try.ntmps21
    go_wp2
    all_goals
      go_ret
      exact ⟨by first | rfl | (simp; done) | (simp [*]; done), by repeat (first | exact Drawn0.refl _ | apply Drawn0.step)⟩
/-! ### delay_Answer: function 9: by our own printer -/
def delay_Answer.f (a0_0 a0_1 a0_2 a0_3 a0_4 a0_5 a0_6 a0_7 a0_8 a0_9 a0_10 a0_11 a0_12 a0_13 a0_14 a0_15 a0_16 a0_17 a0_18 a0_19 a0_20 a0_21 a0_22 a1_0 a1_1 a2 a3 : Int) : Option (Int × Int × Int × Int × Int × Int × Int × Int × Int × Int × Int × Int × Int × Int × Int × Int × Int × Int × Int × Int × Int × Int × Int × Bool) := if a0_0 = 1 then ((stamp_May.f a2).bind fun t15 => (if t15 = true then (some (9, a0_1, 0, a0_3, a1_0, a1_1, a0_6, a3, a2, a0_4, a0_5, 0, 0, 0, 0, 0, 0, 0, 0, 0, 0, 0, 0, true)) else (some (0, 0, 0, 0, 0, 0, 0, 0, 0, 0, 0, 0, 0, 0, 0, 0, 0, 0, 0, 0, 0, 0, 0, false)))) else (some (0, 0, 0, 0, 0, 0, 0, 0, 0, 0, 0, 0, 0, 0, 0, 0, 0, 0, 0, 0, 0, 0, 0, false))
abbrev delay_Answer.v0 (x0 x1 x2 x3 x4 x5 x6 x7 x8 x9 x10 x11 x12 x13 x14 x15 x16 x17 x18 x19 x20 x21 x22 : Int) : Value := .agg #[.int .i64 x0, .int .i64 x1, .int .i64 x2, .int .i64 x3, .int .u64 x4, .int .i64 x5, .int .i64 x6, .int .i64 x7, .int .i64 x8, .int .u64 x9, .int .i64 x10, .int .i64 x11, .int .i64 x12, .int .i64 x13, .int .i64 x14, .int .i64 x15, .int .i64 x16, .int .u64 x17, .int .i64 x18, .int .i64 x19, .int .i64 x20, .int .i64 x21, .int .i64 x22]
abbrev delay_Answer.c1 (x0 x1 x2 x3 x4 x5 x6 x7 x8 x9 x10 x11 x12 x13 x14 x15 x16 x17 x18 x19 x20 x21 x22 : Int) : Array Value := #[.int .i64 x0, .int .i64 x1, .int .i64 x2, .int .i64 x3, .int .u64 x4, .int .i64 x5, .int .i64 x6, .int .i64 x7, .int .i64 x8, .int .u64 x9, .int .i64 x10, .int .i64 x11, .int .i64 x12, .int .i64 x13, .int .i64 x14, .int .i64 x15, .int .i64 x16, .int .u64 x17, .int .i64 x18, .int .i64 x19, .int .i64 x20, .int .i64 x21, .int .i64 x22]
open Go.Proofs.Ytpfjpfbhgeoadaa.E in
set_option maxHeartbeats 60000000 in
set_option maxRecDepth 100000 in
theorem delay_Answer.calls (a0_0 a0_1 a0_2 a0_3 a0_4 a0_5 a0_6 a0_7 a0_8 a0_9 a0_10 a0_11 a0_12 a0_13 a0_14 a0_15 a0_16 a0_17 a0_18 a0_19 a0_20 a0_21 a0_22 a1_0 a1_1 a2 a3 r1 r2 r3 r4 r5 r6 r7 r8 r9 r10 r11 r12 r13 r14 r15 r16 r17 r18 r19 r20 r21 r22 r23 : Int) (r24 : Bool) (w : World) (h : delay_Answer.f a0_0 a0_1 a0_2 a0_3 a0_4 a0_5 a0_6 a0_7 a0_8 a0_9 a0_10 a0_11 a0_12 a0_13 a0_14 a0_15 a0_16 a0_17 a0_18 a0_19 a0_20 a0_21 a0_22 a1_0 a1_1 a2 a3 = some (r1, r2, r3, r4, r5, r6, r7, r8, r9, r10, r11, r12, r13, r14, r15, r16, r17, r18, r19, r20, r21, r22, r23, r24)) :
    Calls Try.prog 9 #[.agg #[.int .i64 a0_0, .int .i64 a0_1, .int .i64 a0_2, .int .i64 a0_3, .int .u64 a0_4, .int .i64 a0_5, .int .i64 a0_6, .int .i64 a0_7, .int .i64 a0_8, .int .u64 a0_9, .int .i64 a0_10, .int .i64 a0_11, .int .i64 a0_12, .int .i64 a0_13, .int .i64 a0_14, .int .i64 a0_15, .int .i64 a0_16, .int .u64 a0_17, .int .i64 a0_18, .int .i64 a0_19, .int .i64 a0_20, .int .i64 a0_21, .int .i64 a0_22], .agg #[.int .u64 a1_0, .int .i64 a1_1], .int .i64 a2, .int .i64 a3] w fun e w' => e = .returned (.tuple #[.agg #[.int .i64 r1, .int .i64 r2, .int .i64 r3, .int .i64 r4, .int .u64 r5, .int .i64 r6, .int .i64 r7, .int .i64 r8, .int .i64 r9, .int .u64 r10, .int .i64 r11, .int .i64 r12, .int .i64 r13, .int .i64 r14, .int .i64 r15, .int .i64 r16, .int .i64 r17, .int .u64 r18, .int .i64 r19, .int .i64 r20, .int .i64 r21, .int .i64 r22, .int .i64 r23], .bool r24]) ∧ Below w.heap.size w w' := by
  have H := h
  clear h
  unfold delay_Answer.f at H
  by_cases c1 : a0_0 = 1
  rotate_left
  · rw [if_neg c1] at H
    simp only [Option.some.injEq, Prod.mk.injEq] at H
    obtain ⟨rfl, rfl, rfl, rfl, rfl, rfl, rfl, rfl, rfl, rfl, rfl, rfl, rfl, rfl, rfl, rfl, rfl, rfl, rfl, rfl, rfl, rfl, rfl, rfl⟩ := H
    refine calls_of_wp (fn := Try.f9) (by kernel_rfl) rfl ?_
    have hS := St.enter #[(delay_Answer.v0 a0_0 a0_1 a0_2 a0_3 a0_4 a0_5 a0_6 a0_7 a0_8 a0_9 a0_10 a0_11 a0_12 a0_13 a0_14 a0_15 a0_16 a0_17 a0_18 a0_19 a0_20 a0_21 a0_22), .agg #[.int .u64 a1_0, .int .i64 a1_1], .int .i64 a2, .int .i64 a3] 31 (by simp) [(0, (delay_Answer.v0 a0_0 a0_1 a0_2 a0_3 a0_4 a0_5 a0_6 a0_7 a0_8 a0_9 a0_10 a0_11 a0_12 a0_13 a0_14 a0_15 a0_16 a0_17 a0_18 a0_19 a0_20 a0_21 a0_22)), (1, .agg #[.int .u64 a1_0, .int .i64 a1_1]), (2, .int .i64 a2), (3, .int .i64 a3)] (by simp)
    have HB0 := Below.refl w.heap.size w
    refine wp_seq_k (fun K1 hK1 => ?_)
    refine reg_seq_tail 1 (N := 31) (bs := [(0, (delay_Answer.v0 a0_0 a0_1 a0_2 a0_3 a0_4 a0_5 a0_6 a0_7 a0_8 a0_9 a0_10 a0_11 a0_12 a0_13 a0_14 a0_15 a0_16 a0_17 a0_18 a0_19 a0_20 a0_21 a0_22)), (1, .agg #[.int .u64 a1_0, .int .i64 a1_1]), (2, .int .i64 a2), (3, .int .i64 a3)]) (I := fun x => Below w.heap.size w x) (ps := [IsB (delay_Answer.c1 a0_0 a0_1 a0_2 a0_3 a0_4 a0_5 a0_6 a0_7 a0_8 a0_9 a0_10 a0_11 a0_12 a0_13 a0_14 a0_15 a0_16 a0_17 a0_18 a0_19 a0_20 a0_21 a0_22) 34 w.heap.size]) (by kernel_rfl) ?_ ?_ rfl hS HB0 ?_ ?_
    · exact fun x y hI hb => below_step hI hb
    · exact .cons (Stays.b _ _ _) (.nil)
    · refine .on rfl (fun a w hS hI hp => does_var (x_box rfl (congrArg Value.cells (hS.get 0 rfl))) (hI).size) ?_
      exact .nil
    clear hS
    intro at2 w3 hS hI hp
    have hBw3_w := hI
    replace hS := (((hS.nil).cons (hS.get 3 rfl)).cons (hS.get 2 rfl)).cons (hS.get 1 rfl)
    obtain ⟨g4, hv4, hgeg4, hbxg4⟩ := (show IsB _ 34 _ (sl _ 4) _ from hp 0 (by decide))
    have hBw3_w3 := Below.refl w3.heap.size w3
    have hS := hS.cons hv4
    clear hp hI hv4
    show wpList _ _ _ [_, _, _] _ _
    refine list_step rfl (R := fun v w' => Below _ _ w' ∧ (IsB #[.int .u64 a1_0, .int .i64 a1_1] 24 w3.heap.size) v w') (does_var (x_box rfl (congrArg Value.cells (hS.get 1 rfl))) (hBw3_w3).size) ?_
    rintro vw5 w5 ⟨hb, he⟩
    have hBw5_w := below_step hBw3_w hb
    have hBw5_w3 := below_step hBw3_w3 hb
    have hBw5_w5 := Below.refl w5.heap.size w5
    obtain ⟨g6, rfl, hgeg6, hbxg6⟩ := he
    refine hS.next (v := .pointer (some ⟨g6, 0, none⟩)) (d := 5) rfl (by decide) (by rfl) ?_
    clear hS
    intro at7 hS
    refine list_step rfl (R := fun v w' => Below _ _ w' ∧ (IsB (delay_Answer.c1 0 0 0 0 0 0 0 0 0 0 0 0 0 0 0 0 0 0 0 0 0 0 0) 34 w5.heap.size) v w') (does_var (x_alloc rfl (by kernel_rfl)) (hBw5_w5).size) ?_
    rintro vw8 w8 ⟨hb, he⟩
    have hBw8_w := below_step hBw5_w hb
    have hBw8_w3 := below_step hBw5_w3 hb
    have hBw8_w5 := below_step hBw5_w5 hb
    have hBw8_w8 := Below.refl w8.heap.size w8
    obtain ⟨g9, rfl, hgeg9, hbxg9⟩ := he
    refine hS.next (v := .pointer (some ⟨g9, 0, none⟩)) (d := 8) rfl (by decide) (by rfl) ?_
    clear hS
    intro at10 hS
    refine list_step rfl (R := fun v w' => Below _ _ w' ∧ (VB false) v w') (does_val (x_assign rfl (rfl)) rfl) ?_
    rintro vw11 w11 ⟨hb, he⟩
    have hBw11_w := below_step hBw8_w hb
    have hBw11_w3 := below_step hBw8_w3 hb
    have hBw11_w5 := below_step hBw8_w5 hb
    have hBw11_w8 := below_step hBw8_w8 hb
    have hBw11_w11 := Below.refl w11.heap.size w11
    obtain rfl : vw11 = .bool false := he
    refine hS.next (v := .bool false) (d := 9) rfl (by decide) (by rfl) ?_
    clear hS
    intro at12 hS
    refine wpList_nil ?_
    refine hK1 _ _ ?_
    (try clear hK1 K1)
    refine wp_seq_k (fun K13 hK13 => ?_)
    refine wp_seq_k (fun K14 hK14 => ?_)
    refine reg_seq (N := 31) (bs := [(9, .bool false), (8, .pointer (some ⟨g9, 0, none⟩)), (5, .pointer (some ⟨g6, 0, none⟩)), (4, .pointer (some ⟨g4, 0, none⟩)), (1, .agg #[.int .u64 a1_0, .int .i64 a1_1]), (2, .int .i64 a2), (3, .int .i64 a3)]) (I := fun x => Below w.heap.size w x ∧ Below w3.heap.size w3 x ∧ Below w5.heap.size w5 x ∧ Below w8.heap.size w8 x ∧ Below w11.heap.size w11 x) (ps := [VP g4 0, VI a0_0, VB (!decide (a0_0 = 1)), VB (!decide (a0_0 = 1)), VU, VU, VU, VB true]) (by kernel_rfl) ?_ ?_ rfl hS ⟨hBw11_w, hBw11_w3, hBw11_w5, hBw11_w8, hBw11_w11⟩ ?_ ?_
    · exact fun x y hI hb => ⟨below_step hI.1 hb, below_step hI.2.1 hb, below_step hI.2.2.1 hb, below_step hI.2.2.2.1 hb, below_step hI.2.2.2.2 hb⟩
    · exact .v (.v (.v (.v (.v (.v (.v (.v (.nil))))))))
    · refine .on rfl (fun a w hS hI hp => does_val (x_fieldE (b := 0) rfl (hS.get 3 rfl) Try.underlying34 rfl rfl (by kernel_rfl)) rfl) ?_
      refine .on rfl (fun a w hS hI hp => does_val (x_load1 (d := .int .i64) rfl (hp.V 0 rfl rfl) (by kernel_rfl) rfl ((blk_cell (((hI.2.1).block g4 (blk_lt hbxg4)).trans hbxg4) 0).trans rfl)) rfl) ?_
      refine .on rfl (fun a w hS hI hp => does_val (x_bin rfl (hp.V 1 rfl rfl) (rfl) (b_neq _ _ _ _ _ _)) rfl) ?_
      refine .mv 2 rfl rfl rfl rfl ?_
      iterate 3 refine .sn 3 13 rfl rfl rfl rfl rfl ((congrArg (!·) (decide_eq_false c1))) ?_
      refine .on rfl (fun a w hS hI hp => does_val (x_pickT rfl ((hp.V 3 rfl rfl).trans (bT (congrArg (!·) (decide_eq_false c1)))) (rfl)) rfl) ?_
      exact .nil
    clear hS
    intro at15 w16 hS hI hp
    have hBw16_w := hI.1
    have hBw16_w3 := hI.2.1
    have hBw16_w5 := hI.2.2.1
    have hBw16_w8 := hI.2.2.2.1
    have hBw16_w11 := hI.2.2.2.2
    replace hS := (((((hS.nil).cons (hS.get 6 rfl)).cons (hS.get 5 rfl)).cons (hS.get 3 rfl)).cons (hS.get 2 rfl)).cons (hS.get 1 rfl)
    have hv17 : sl _ 17 = .bool true := hp 7 (by decide)
    have hBw16_w16 := Below.refl w16.heap.size w16
    have hS := hS.cons hv17
    clear hp hI hv17
    refine hK14 _ _ ?_
    (try clear hK14 K14)
    refine wp_cond_true ((hS.get 0 rfl).trans (bT rfl)) ?_
    refine wp_seq_k (fun K17 hK17 => ?_)
    refine reg_seq_tail 1 (N := 31) (bs := [(17, .bool true), (8, .pointer (some ⟨g9, 0, none⟩)), (5, .pointer (some ⟨g6, 0, none⟩)), (4, .pointer (some ⟨g4, 0, none⟩)), (2, .int .i64 a2), (3, .int .i64 a3)]) (I := fun x => Below w.heap.size w x ∧ Below w3.heap.size w3 x ∧ Below w5.heap.size w5 x ∧ Below w8.heap.size w8 x ∧ Below w16.heap.size w16 x) (ps := [IsV ((delay_Answer.v0 0 0 0 0 0 0 0 0 0 0 0 0 0 0 0 0 0 0 0 0 0 0 0))]) (by kernel_rfl) ?_ ?_ rfl hS ⟨hBw16_w, hBw16_w3, hBw16_w5, hBw16_w8, hBw16_w16⟩ ?_ ?_
    · exact fun x y hI hb => ⟨below_step hI.1 hb, below_step hI.2.1 hb, below_step hI.2.2.1 hb, below_step hI.2.2.2.1 hb, below_step hI.2.2.2.2 hb⟩
    · exact .v (.nil)
    · refine .on rfl (fun a w hS hI hp => does_val (x_build (vs := []) rfl (by rw [Array.toList_map]; exact (show [] = _ from rfl)) (by kernel_rfl)) rfl) ?_
      exact .nil
    clear hS
    intro at18 w19 hS hI hp
    have hBw19_w := hI.1
    have hBw19_w3 := hI.2.1
    have hBw19_w5 := hI.2.2.1
    have hBw19_w8 := hI.2.2.2.1
    have hBw19_w16 := hI.2.2.2.2
    replace hS := (hS.nil).cons (hS.get 1 rfl)
    have hv18 : sl _ 18 = (delay_Answer.v0 0 0 0 0 0 0 0 0 0 0 0 0 0 0 0 0 0 0 0 0 0 0 0) := hp 0 (by decide)
    have hBw19_w19 := Below.refl w19.heap.size w19
    have hS := hS.cons hv18
    clear hp hI hv18
    show wpList _ _ _ [_, _] _ _
    refine list_step rfl (does_storeAll (g := g9) (cs := (delay_Answer.c1 0 0 0 0 0 0 0 0 0 0 0 0 0 0 0 0 0 0 0 0 0 0 0)) rfl (hS.get 1 rfl) (hS.get 0 rfl) ((hBw19_w8.block g9 (blk_lt hbxg9)).trans hbxg9) (by kernel_rfl) (by kernel_rfl) (by kernel_rfl)) ?_
    rintro vw20 w20 ⟨rfl, hbxw20, hT⟩
    have hBw20_w := hT.below hBw19_w (Nat.le_trans (hBw5_w).size hgeg9) (hBw19_w).size
    have hBw20_w3 := hT.below hBw19_w3 (Nat.le_trans (hBw5_w3).size hgeg9) (hBw19_w3).size
    have hBw20_w5 := hT.below hBw19_w5 hgeg9 (hBw19_w5).size
    have hBw20_w20 := Below.refl w20.heap.size w20
    clear hT
    refine list_step rfl (R := fun v w' => Below _ _ w' ∧ (VB false) v w') (does_val (x_assign rfl (rfl)) rfl) ?_
    rintro vw21 w21 ⟨hb, he⟩
    have hBw21_w := below_step hBw20_w hb
    have hBw21_w3 := below_step hBw20_w3 hb
    have hBw21_w5 := below_step hBw20_w5 hb
    have hBw21_w20 := below_step hBw20_w20 hb
    have hBw21_w21 := Below.refl w21.heap.size w21
    obtain rfl : vw21 = .bool false := he
    refine hS.next (v := .bool false) (d := 9) rfl (by decide) (by rfl) ?_
    clear hS
    intro at22 hS
    refine wpList_nil ?_
    refine hK17 _ _ ?_
    (try clear hK17 K17)
    refine wp_ret ?_
    (try simp only [Exit.then, Exit.inBlock, Exit.jump, Exit.noGoto])
    exact bodyPost_ret (v := .tuple #[(delay_Answer.v0 0 0 0 0 0 0 0 0 0 0 0 0 0 0 0 0 0 0 0 0 0 0 0), .bool false]) (results_list (rs := [.cell 8 34, .tmp 9]) rfl (by simp) (Vals.cell g9 34 (delay_Answer.c1 0 0 0 0 0 0 0 0 0 0 0 0 0 0 0 0 0 0 0 0 0 0 0) (0, 0) _ (hS.get 2 rfl) ((hBw21_w20.block g9 (blk_lt hbxw20)).trans hbxw20) Try.underlying34 rfl (by kernel_rfl) (Vals.at (hS.get 0 rfl) .nil))) hS.nodef ⟨rfl, hBw21_w⟩
  rw [if_pos c1] at H
  obtain ⟨t15, At15, H⟩ := Option.bind_eq_some_iff.mp H
  by_cases c2 : t15 = true
  rotate_left
  · rw [if_neg c2] at H
    simp only [Option.some.injEq, Prod.mk.injEq] at H
    obtain ⟨rfl, rfl, rfl, rfl, rfl, rfl, rfl, rfl, rfl, rfl, rfl, rfl, rfl, rfl, rfl, rfl, rfl, rfl, rfl, rfl, rfl, rfl, rfl, rfl⟩ := H
    refine calls_of_wp (fn := Try.f9) (by kernel_rfl) rfl ?_
    have hS := St.enter #[(delay_Answer.v0 a0_0 a0_1 a0_2 a0_3 a0_4 a0_5 a0_6 a0_7 a0_8 a0_9 a0_10 a0_11 a0_12 a0_13 a0_14 a0_15 a0_16 a0_17 a0_18 a0_19 a0_20 a0_21 a0_22), .agg #[.int .u64 a1_0, .int .i64 a1_1], .int .i64 a2, .int .i64 a3] 31 (by simp) [(0, (delay_Answer.v0 a0_0 a0_1 a0_2 a0_3 a0_4 a0_5 a0_6 a0_7 a0_8 a0_9 a0_10 a0_11 a0_12 a0_13 a0_14 a0_15 a0_16 a0_17 a0_18 a0_19 a0_20 a0_21 a0_22)), (1, .agg #[.int .u64 a1_0, .int .i64 a1_1]), (2, .int .i64 a2), (3, .int .i64 a3)] (by simp)
    have HB0 := Below.refl w.heap.size w
    refine wp_seq_k (fun K1 hK1 => ?_)
    refine reg_seq_tail 1 (N := 31) (bs := [(0, (delay_Answer.v0 a0_0 a0_1 a0_2 a0_3 a0_4 a0_5 a0_6 a0_7 a0_8 a0_9 a0_10 a0_11 a0_12 a0_13 a0_14 a0_15 a0_16 a0_17 a0_18 a0_19 a0_20 a0_21 a0_22)), (1, .agg #[.int .u64 a1_0, .int .i64 a1_1]), (2, .int .i64 a2), (3, .int .i64 a3)]) (I := fun x => Below w.heap.size w x) (ps := [IsB (delay_Answer.c1 a0_0 a0_1 a0_2 a0_3 a0_4 a0_5 a0_6 a0_7 a0_8 a0_9 a0_10 a0_11 a0_12 a0_13 a0_14 a0_15 a0_16 a0_17 a0_18 a0_19 a0_20 a0_21 a0_22) 34 w.heap.size]) (by kernel_rfl) ?_ ?_ rfl hS HB0 ?_ ?_
    · exact fun x y hI hb => below_step hI hb
    · exact .cons (Stays.b _ _ _) (.nil)
    · refine .on rfl (fun a w hS hI hp => does_var (x_box rfl (congrArg Value.cells (hS.get 0 rfl))) (hI).size) ?_
      exact .nil
    clear hS
    intro at2 w3 hS hI hp
    have hBw3_w := hI
    replace hS := (((hS.nil).cons (hS.get 3 rfl)).cons (hS.get 2 rfl)).cons (hS.get 1 rfl)
    obtain ⟨g4, hv4, hgeg4, hbxg4⟩ := (show IsB _ 34 _ (sl _ 4) _ from hp 0 (by decide))
    have hBw3_w3 := Below.refl w3.heap.size w3
    have hS := hS.cons hv4
    clear hp hI hv4
    show wpList _ _ _ [_, _, _] _ _
    refine list_step rfl (R := fun v w' => Below _ _ w' ∧ (IsB #[.int .u64 a1_0, .int .i64 a1_1] 24 w3.heap.size) v w') (does_var (x_box rfl (congrArg Value.cells (hS.get 1 rfl))) (hBw3_w3).size) ?_
    rintro vw5 w5 ⟨hb, he⟩
    have hBw5_w := below_step hBw3_w hb
    have hBw5_w3 := below_step hBw3_w3 hb
    have hBw5_w5 := Below.refl w5.heap.size w5
    obtain ⟨g6, rfl, hgeg6, hbxg6⟩ := he
    refine hS.next (v := .pointer (some ⟨g6, 0, none⟩)) (d := 5) rfl (by decide) (by rfl) ?_
    clear hS
    intro at7 hS
    refine list_step rfl (R := fun v w' => Below _ _ w' ∧ (IsB (delay_Answer.c1 0 0 0 0 0 0 0 0 0 0 0 0 0 0 0 0 0 0 0 0 0 0 0) 34 w5.heap.size) v w') (does_var (x_alloc rfl (by kernel_rfl)) (hBw5_w5).size) ?_
    rintro vw8 w8 ⟨hb, he⟩
    have hBw8_w := below_step hBw5_w hb
    have hBw8_w3 := below_step hBw5_w3 hb
    have hBw8_w5 := below_step hBw5_w5 hb
    have hBw8_w8 := Below.refl w8.heap.size w8
    obtain ⟨g9, rfl, hgeg9, hbxg9⟩ := he
    refine hS.next (v := .pointer (some ⟨g9, 0, none⟩)) (d := 8) rfl (by decide) (by rfl) ?_
    clear hS
    intro at10 hS
    refine list_step rfl (R := fun v w' => Below _ _ w' ∧ (VB false) v w') (does_val (x_assign rfl (rfl)) rfl) ?_
    rintro vw11 w11 ⟨hb, he⟩
    have hBw11_w := below_step hBw8_w hb
    have hBw11_w3 := below_step hBw8_w3 hb
    have hBw11_w5 := below_step hBw8_w5 hb
    have hBw11_w8 := below_step hBw8_w8 hb
    have hBw11_w11 := Below.refl w11.heap.size w11
    obtain rfl : vw11 = .bool false := he
    refine hS.next (v := .bool false) (d := 9) rfl (by decide) (by rfl) ?_
    clear hS
    intro at12 hS
    refine wpList_nil ?_
    refine hK1 _ _ ?_
    (try clear hK1 K1)
    refine wp_seq_k (fun K13 hK13 => ?_)
    refine wp_seq_k (fun K14 hK14 => ?_)
    refine reg_seq (N := 31) (bs := [(9, .bool false), (8, .pointer (some ⟨g9, 0, none⟩)), (5, .pointer (some ⟨g6, 0, none⟩)), (4, .pointer (some ⟨g4, 0, none⟩)), (1, .agg #[.int .u64 a1_0, .int .i64 a1_1]), (2, .int .i64 a2), (3, .int .i64 a3)]) (I := fun x => Below w.heap.size w x ∧ Below w3.heap.size w3 x ∧ Below w5.heap.size w5 x ∧ Below w8.heap.size w8 x ∧ Below w11.heap.size w11 x) (ps := [VP g4 0, VI a0_0, VB (!decide (a0_0 = 1)), VB (!decide (a0_0 = 1)), VI a2, VB t15, VB (!t15), VB (!t15)]) (by kernel_rfl) ?_ ?_ rfl hS ⟨hBw11_w, hBw11_w3, hBw11_w5, hBw11_w8, hBw11_w11⟩ ?_ ?_
    · exact fun x y hI hb => ⟨below_step hI.1 hb, below_step hI.2.1 hb, below_step hI.2.2.1 hb, below_step hI.2.2.2.1 hb, below_step hI.2.2.2.2 hb⟩
    · exact .v (.v (.v (.v (.v (.v (.v (.v (.nil))))))))
    · refine .on rfl (fun a w hS hI hp => does_val (x_fieldE (b := 0) rfl (hS.get 3 rfl) Try.underlying34 rfl rfl (by kernel_rfl)) rfl) ?_
      refine .on rfl (fun a w hS hI hp => does_val (x_load1 (d := .int .i64) rfl (hp.V 0 rfl rfl) (by kernel_rfl) rfl ((blk_cell (((hI.2.1).block g4 (blk_lt hbxg4)).trans hbxg4) 0).trans rfl)) rfl) ?_
      refine .on rfl (fun a w hS hI hp => does_val (x_bin rfl (hp.V 1 rfl rfl) (rfl) (b_neq _ _ _ _ _ _)) rfl) ?_
      refine .mv 2 rfl rfl rfl rfl ?_
      refine .oy 3 13 rfl rfl rfl rfl rfl ((congrArg (!·) (decide_eq_true c1))) (fun a w hS hI hp => does_val (x_move rfl (hS.get 5 rfl)) rfl) ?_
      refine .oy 3 13 rfl rfl rfl rfl rfl ((congrArg (!·) (decide_eq_true c1))) (fun a w hS hI hp => does_call (by kernel_rfl) (ar1 (hp.V 4 rfl rfl)) ((stamp_May.calls a2 t15 _  At15).mono fun _ _ h => ⟨_, h.1, h.2.below, rfl⟩)) ?_
      refine .oy 3 13 rfl rfl rfl rfl rfl ((congrArg (!·) (decide_eq_true c1))) (fun a w hS hI hp => does_val (x_not rfl (hp.V 5 rfl rfl)) rfl) ?_
      refine .on rfl (fun a w hS hI hp => does_val (x_pickF rfl ((hp.V 3 rfl rfl).trans (bF (congrArg (!·) (decide_eq_true c1)))) (hp.V 6 rfl rfl)) rfl) ?_
      exact .nil
    clear hS
    intro at16 w17 hS hI hp
    have hBw17_w := hI.1
    have hBw17_w3 := hI.2.1
    have hBw17_w5 := hI.2.2.1
    have hBw17_w8 := hI.2.2.2.1
    have hBw17_w11 := hI.2.2.2.2
    replace hS := (((((hS.nil).cons (hS.get 6 rfl)).cons (hS.get 5 rfl)).cons (hS.get 3 rfl)).cons (hS.get 2 rfl)).cons (hS.get 1 rfl)
    have hv17 : sl _ 17 = .bool (!t15) := hp 7 (by decide)
    have hBw17_w17 := Below.refl w17.heap.size w17
    have hS := hS.cons hv17
    clear hp hI hv17
    refine hK14 _ _ ?_
    (try clear hK14 K14)
    refine wp_cond_true ((hS.get 0 rfl).trans (bT (congrArg (!·) (Bool.eq_false_iff.2 c2)))) ?_
    refine wp_seq_k (fun K18 hK18 => ?_)
    refine reg_seq_tail 1 (N := 31) (bs := [(17, .bool (!t15)), (8, .pointer (some ⟨g9, 0, none⟩)), (5, .pointer (some ⟨g6, 0, none⟩)), (4, .pointer (some ⟨g4, 0, none⟩)), (2, .int .i64 a2), (3, .int .i64 a3)]) (I := fun x => Below w.heap.size w x ∧ Below w3.heap.size w3 x ∧ Below w5.heap.size w5 x ∧ Below w8.heap.size w8 x ∧ Below w17.heap.size w17 x) (ps := [IsV ((delay_Answer.v0 0 0 0 0 0 0 0 0 0 0 0 0 0 0 0 0 0 0 0 0 0 0 0))]) (by kernel_rfl) ?_ ?_ rfl hS ⟨hBw17_w, hBw17_w3, hBw17_w5, hBw17_w8, hBw17_w17⟩ ?_ ?_
    · exact fun x y hI hb => ⟨below_step hI.1 hb, below_step hI.2.1 hb, below_step hI.2.2.1 hb, below_step hI.2.2.2.1 hb, below_step hI.2.2.2.2 hb⟩
    · exact .v (.nil)
    · refine .on rfl (fun a w hS hI hp => does_val (x_build (vs := []) rfl (by rw [Array.toList_map]; exact (show [] = _ from rfl)) (by kernel_rfl)) rfl) ?_
      exact .nil
    clear hS
    intro at19 w20 hS hI hp
    have hBw20_w := hI.1
    have hBw20_w3 := hI.2.1
    have hBw20_w5 := hI.2.2.1
    have hBw20_w8 := hI.2.2.2.1
    have hBw20_w17 := hI.2.2.2.2
    replace hS := (hS.nil).cons (hS.get 1 rfl)
    have hv18 : sl _ 18 = (delay_Answer.v0 0 0 0 0 0 0 0 0 0 0 0 0 0 0 0 0 0 0 0 0 0 0 0) := hp 0 (by decide)
    have hBw20_w20 := Below.refl w20.heap.size w20
    have hS := hS.cons hv18
    clear hp hI hv18
    show wpList _ _ _ [_, _] _ _
    refine list_step rfl (does_storeAll (g := g9) (cs := (delay_Answer.c1 0 0 0 0 0 0 0 0 0 0 0 0 0 0 0 0 0 0 0 0 0 0 0)) rfl (hS.get 1 rfl) (hS.get 0 rfl) ((hBw20_w8.block g9 (blk_lt hbxg9)).trans hbxg9) (by kernel_rfl) (by kernel_rfl) (by kernel_rfl)) ?_
    rintro vw21 w21 ⟨rfl, hbxw21, hT⟩
    have hBw21_w := hT.below hBw20_w (Nat.le_trans (hBw5_w).size hgeg9) (hBw20_w).size
    have hBw21_w3 := hT.below hBw20_w3 (Nat.le_trans (hBw5_w3).size hgeg9) (hBw20_w3).size
    have hBw21_w5 := hT.below hBw20_w5 hgeg9 (hBw20_w5).size
    have hBw21_w21 := Below.refl w21.heap.size w21
    clear hT
    refine list_step rfl (R := fun v w' => Below _ _ w' ∧ (VB false) v w') (does_val (x_assign rfl (rfl)) rfl) ?_
    rintro vw22 w22 ⟨hb, he⟩
    have hBw22_w := below_step hBw21_w hb
    have hBw22_w3 := below_step hBw21_w3 hb
    have hBw22_w5 := below_step hBw21_w5 hb
    have hBw22_w21 := below_step hBw21_w21 hb
    have hBw22_w22 := Below.refl w22.heap.size w22
    obtain rfl : vw22 = .bool false := he
    refine hS.next (v := .bool false) (d := 9) rfl (by decide) (by rfl) ?_
    clear hS
    intro at23 hS
    refine wpList_nil ?_
    refine hK18 _ _ ?_
    (try clear hK18 K18)
    refine wp_ret ?_
    (try simp only [Exit.then, Exit.inBlock, Exit.jump, Exit.noGoto])
    exact bodyPost_ret (v := .tuple #[(delay_Answer.v0 0 0 0 0 0 0 0 0 0 0 0 0 0 0 0 0 0 0 0 0 0 0 0), .bool false]) (results_list (rs := [.cell 8 34, .tmp 9]) rfl (by simp) (Vals.cell g9 34 (delay_Answer.c1 0 0 0 0 0 0 0 0 0 0 0 0 0 0 0 0 0 0 0 0 0 0 0) (0, 0) _ (hS.get 2 rfl) ((hBw22_w21.block g9 (blk_lt hbxw21)).trans hbxw21) Try.underlying34 rfl (by kernel_rfl) (Vals.at (hS.get 0 rfl) .nil))) hS.nodef ⟨rfl, hBw22_w⟩
  rw [if_pos c2] at H
  simp only [Option.some.injEq, Prod.mk.injEq] at H
  obtain ⟨rfl, rfl, rfl, rfl, rfl, rfl, rfl, rfl, rfl, rfl, rfl, rfl, rfl, rfl, rfl, rfl, rfl, rfl, rfl, rfl, rfl, rfl, rfl, rfl⟩ := H
  refine calls_of_wp (fn := Try.f9) (by kernel_rfl) rfl ?_
  have hS := St.enter #[(delay_Answer.v0 a0_0 a0_1 a0_2 a0_3 a0_4 a0_5 a0_6 a0_7 a0_8 a0_9 a0_10 a0_11 a0_12 a0_13 a0_14 a0_15 a0_16 a0_17 a0_18 a0_19 a0_20 a0_21 a0_22), .agg #[.int .u64 a1_0, .int .i64 a1_1], .int .i64 a2, .int .i64 a3] 31 (by simp) [(0, (delay_Answer.v0 a0_0 a0_1 a0_2 a0_3 a0_4 a0_5 a0_6 a0_7 a0_8 a0_9 a0_10 a0_11 a0_12 a0_13 a0_14 a0_15 a0_16 a0_17 a0_18 a0_19 a0_20 a0_21 a0_22)), (1, .agg #[.int .u64 a1_0, .int .i64 a1_1]), (2, .int .i64 a2), (3, .int .i64 a3)] (by simp)
  have HB0 := Below.refl w.heap.size w
  refine wp_seq_k (fun K1 hK1 => ?_)
  refine reg_seq_tail 1 (N := 31) (bs := [(0, (delay_Answer.v0 a0_0 a0_1 a0_2 a0_3 a0_4 a0_5 a0_6 a0_7 a0_8 a0_9 a0_10 a0_11 a0_12 a0_13 a0_14 a0_15 a0_16 a0_17 a0_18 a0_19 a0_20 a0_21 a0_22)), (1, .agg #[.int .u64 a1_0, .int .i64 a1_1]), (2, .int .i64 a2), (3, .int .i64 a3)]) (I := fun x => Below w.heap.size w x) (ps := [IsB (delay_Answer.c1 a0_0 a0_1 a0_2 a0_3 a0_4 a0_5 a0_6 a0_7 a0_8 a0_9 a0_10 a0_11 a0_12 a0_13 a0_14 a0_15 a0_16 a0_17 a0_18 a0_19 a0_20 a0_21 a0_22) 34 w.heap.size]) (by kernel_rfl) ?_ ?_ rfl hS HB0 ?_ ?_
  · exact fun x y hI hb => below_step hI hb
  · exact .cons (Stays.b _ _ _) (.nil)
  · refine .on rfl (fun a w hS hI hp => does_var (x_box rfl (congrArg Value.cells (hS.get 0 rfl))) (hI).size) ?_
    exact .nil
  clear hS
  intro at2 w3 hS hI hp
  have hBw3_w := hI
  replace hS := (((hS.nil).cons (hS.get 3 rfl)).cons (hS.get 2 rfl)).cons (hS.get 1 rfl)
  obtain ⟨g4, hv4, hgeg4, hbxg4⟩ := (show IsB _ 34 _ (sl _ 4) _ from hp 0 (by decide))
  have hBw3_w3 := Below.refl w3.heap.size w3
  have hS := hS.cons hv4
  clear hp hI hv4
  show wpList _ _ _ [_, _, _] _ _
  refine list_step rfl (R := fun v w' => Below _ _ w' ∧ (IsB #[.int .u64 a1_0, .int .i64 a1_1] 24 w3.heap.size) v w') (does_var (x_box rfl (congrArg Value.cells (hS.get 1 rfl))) (hBw3_w3).size) ?_
  rintro vw5 w5 ⟨hb, he⟩
  have hBw5_w := below_step hBw3_w hb
  have hBw5_w3 := below_step hBw3_w3 hb
  have hBw5_w5 := Below.refl w5.heap.size w5
  obtain ⟨g6, rfl, hgeg6, hbxg6⟩ := he
  refine hS.next (v := .pointer (some ⟨g6, 0, none⟩)) (d := 5) rfl (by decide) (by rfl) ?_
  clear hS
  intro at7 hS
  refine list_step rfl (R := fun v w' => Below _ _ w' ∧ (IsB (delay_Answer.c1 0 0 0 0 0 0 0 0 0 0 0 0 0 0 0 0 0 0 0 0 0 0 0) 34 w5.heap.size) v w') (does_var (x_alloc rfl (by kernel_rfl)) (hBw5_w5).size) ?_
  rintro vw8 w8 ⟨hb, he⟩
  have hBw8_w := below_step hBw5_w hb
  have hBw8_w3 := below_step hBw5_w3 hb
  have hBw8_w5 := below_step hBw5_w5 hb
  have hBw8_w8 := Below.refl w8.heap.size w8
  obtain ⟨g9, rfl, hgeg9, hbxg9⟩ := he
  refine hS.next (v := .pointer (some ⟨g9, 0, none⟩)) (d := 8) rfl (by decide) (by rfl) ?_
  clear hS
  intro at10 hS
  refine list_step rfl (R := fun v w' => Below _ _ w' ∧ (VB false) v w') (does_val (x_assign rfl (rfl)) rfl) ?_
  rintro vw11 w11 ⟨hb, he⟩
  have hBw11_w := below_step hBw8_w hb
  have hBw11_w3 := below_step hBw8_w3 hb
  have hBw11_w5 := below_step hBw8_w5 hb
  have hBw11_w8 := below_step hBw8_w8 hb
  have hBw11_w11 := Below.refl w11.heap.size w11
  obtain rfl : vw11 = .bool false := he
  refine hS.next (v := .bool false) (d := 9) rfl (by decide) (by rfl) ?_
  clear hS
  intro at12 hS
  refine wpList_nil ?_
  refine hK1 _ _ ?_
  (try clear hK1 K1)
  refine wp_seq_k (fun K13 hK13 => ?_)
  refine wp_seq_k (fun K14 hK14 => ?_)
  refine reg_seq (N := 31) (bs := [(9, .bool false), (8, .pointer (some ⟨g9, 0, none⟩)), (5, .pointer (some ⟨g6, 0, none⟩)), (4, .pointer (some ⟨g4, 0, none⟩)), (1, .agg #[.int .u64 a1_0, .int .i64 a1_1]), (2, .int .i64 a2), (3, .int .i64 a3)]) (I := fun x => Below w.heap.size w x ∧ Below w3.heap.size w3 x ∧ Below w5.heap.size w5 x ∧ Below w8.heap.size w8 x ∧ Below w11.heap.size w11 x) (ps := [VP g4 0, VI a0_0, VB (!decide (a0_0 = 1)), VB (!decide (a0_0 = 1)), VI a2, VB t15, VB (!t15), VB (!t15)]) (by kernel_rfl) ?_ ?_ rfl hS ⟨hBw11_w, hBw11_w3, hBw11_w5, hBw11_w8, hBw11_w11⟩ ?_ ?_
  · exact fun x y hI hb => ⟨below_step hI.1 hb, below_step hI.2.1 hb, below_step hI.2.2.1 hb, below_step hI.2.2.2.1 hb, below_step hI.2.2.2.2 hb⟩
  · exact .v (.v (.v (.v (.v (.v (.v (.v (.nil))))))))
  · refine .on rfl (fun a w hS hI hp => does_val (x_fieldE (b := 0) rfl (hS.get 3 rfl) Try.underlying34 rfl rfl (by kernel_rfl)) rfl) ?_
    refine .on rfl (fun a w hS hI hp => does_val (x_load1 (d := .int .i64) rfl (hp.V 0 rfl rfl) (by kernel_rfl) rfl ((blk_cell (((hI.2.1).block g4 (blk_lt hbxg4)).trans hbxg4) 0).trans rfl)) rfl) ?_
    refine .on rfl (fun a w hS hI hp => does_val (x_bin rfl (hp.V 1 rfl rfl) (rfl) (b_neq _ _ _ _ _ _)) rfl) ?_
    refine .mv 2 rfl rfl rfl rfl ?_
    refine .oy 3 13 rfl rfl rfl rfl rfl ((congrArg (!·) (decide_eq_true c1))) (fun a w hS hI hp => does_val (x_move rfl (hS.get 5 rfl)) rfl) ?_
    refine .oy 3 13 rfl rfl rfl rfl rfl ((congrArg (!·) (decide_eq_true c1))) (fun a w hS hI hp => does_call (by kernel_rfl) (ar1 (hp.V 4 rfl rfl)) ((stamp_May.calls a2 t15 _  At15).mono fun _ _ h => ⟨_, h.1, h.2.below, rfl⟩)) ?_
    refine .oy 3 13 rfl rfl rfl rfl rfl ((congrArg (!·) (decide_eq_true c1))) (fun a w hS hI hp => does_val (x_not rfl (hp.V 5 rfl rfl)) rfl) ?_
    refine .on rfl (fun a w hS hI hp => does_val (x_pickF rfl ((hp.V 3 rfl rfl).trans (bF (congrArg (!·) (decide_eq_true c1)))) (hp.V 6 rfl rfl)) rfl) ?_
    exact .nil
  clear hS
  intro at16 w17 hS hI hp
  have hBw17_w := hI.1
  have hBw17_w3 := hI.2.1
  have hBw17_w5 := hI.2.2.1
  have hBw17_w8 := hI.2.2.2.1
  have hBw17_w11 := hI.2.2.2.2
  replace hS := (((((hS.nil).cons (hS.get 6 rfl)).cons (hS.get 5 rfl)).cons (hS.get 3 rfl)).cons (hS.get 2 rfl)).cons (hS.get 1 rfl)
  have hv17 : sl _ 17 = .bool (!t15) := hp 7 (by decide)
  have hBw17_w17 := Below.refl w17.heap.size w17
  have hS := hS.cons hv17
  clear hp hI hv17
  refine hK14 _ _ ?_
  (try clear hK14 K14)
  refine wp_cond_false ((hS.get 0 rfl).trans (bF (congrArg (!·) c2))) ?_
  refine wp_skip ?_
  refine hK13 _ _ ?_
  (try clear hK13 K13)
  refine wp_seq_k (fun K18 hK18 => ?_)
  refine reg_seq_tail 12 (N := 31) (bs := [(17, .bool (!t15)), (8, .pointer (some ⟨g9, 0, none⟩)), (5, .pointer (some ⟨g6, 0, none⟩)), (4, .pointer (some ⟨g4, 0, none⟩)), (2, .int .i64 a2), (3, .int .i64 a3)]) (I := fun x => Below w.heap.size w x ∧ Below w3.heap.size w3 x ∧ Below w5.heap.size w5 x ∧ Below w8.heap.size w8 x ∧ Below w17.heap.size w17 x) (ps := [VP g4 1, VI a0_1, IsV (.agg #[.int .u64 a1_0, .int .i64 a1_1]), VP g4 6, VI a0_6, VP g4 3, VI a0_3, VI a2, VP g4 4, IsV (.agg #[.int .u64 a0_4, .int .i64 a0_5]), VI a3, IsV ((delay_Answer.v0 9 a0_1 0 a0_3 a1_0 a1_1 a0_6 a3 a2 a0_4 a0_5 0 0 0 0 0 0 0 0 0 0 0 0))]) (by kernel_rfl) ?_ ?_ rfl hS ⟨hBw17_w, hBw17_w3, hBw17_w5, hBw17_w8, hBw17_w17⟩ ?_ ?_
  · exact fun x y hI hb => ⟨below_step hI.1 hb, below_step hI.2.1 hb, below_step hI.2.2.1 hb, below_step hI.2.2.2.1 hb, below_step hI.2.2.2.2 hb⟩
  · exact .v (.v (.v (.v (.v (.v (.v (.v (.v (.v (.v (.v (.nil))))))))))))
  · refine .on rfl (fun a w hS hI hp => does_val (x_fieldE (b := 0) rfl (hS.get 3 rfl) Try.underlying34 rfl rfl (by kernel_rfl)) rfl) ?_
    refine .on rfl (fun a w hS hI hp => does_val (x_load1 (d := .int .i64) rfl (hp.V 0 rfl rfl) (by kernel_rfl) rfl ((blk_cell (((hI.2.1).block g4 (blk_lt hbxg4)).trans hbxg4) 1).trans rfl)) rfl) ?_
    refine .on rfl (fun a w hS hI hp => does_loadrow rfl (hS.get 2 rfl) (((hI.2.2.1).block g6 (blk_lt hbxg6)).trans hbxg6) Try.underlying24 rfl (by kernel_rfl) rfl) ?_
    refine .on rfl (fun a w hS hI hp => does_val (x_fieldE (b := 0) rfl (hS.get 3 rfl) Try.underlying34 rfl rfl (by kernel_rfl)) rfl) ?_
    refine .on rfl (fun a w hS hI hp => does_val (x_load1 (d := .int .i64) rfl (hp.V 3 rfl rfl) (by kernel_rfl) rfl ((blk_cell (((hI.2.1).block g4 (blk_lt hbxg4)).trans hbxg4) 6).trans rfl)) rfl) ?_
    refine .on rfl (fun a w hS hI hp => does_val (x_fieldE (b := 0) rfl (hS.get 3 rfl) Try.underlying34 rfl rfl (by kernel_rfl)) rfl) ?_
    refine .on rfl (fun a w hS hI hp => does_val (x_load1 (d := .int .i64) rfl (hp.V 5 rfl rfl) (by kernel_rfl) rfl ((blk_cell (((hI.2.1).block g4 (blk_lt hbxg4)).trans hbxg4) 3).trans rfl)) rfl) ?_
    refine .ms 4 rfl rfl rfl ?_
    refine .on rfl (fun a w hS hI hp => does_val (x_fieldE (b := 0) rfl (hS.get 3 rfl) Try.underlying34 rfl rfl (by kernel_rfl)) rfl) ?_
    refine .on rfl (fun a w hS hI hp => does_loadmid (cs := [.int .u64 a0_4, .int .i64 a0_5]) rfl (hp.V 8 rfl rfl) (((hI.2.1).block g4 (blk_lt hbxg4)).trans hbxg4) (by kernel_rfl) Try.underlying24 rfl (by kernel_rfl) rfl) ?_
    refine .ms 5 rfl rfl rfl ?_
    refine .on rfl (fun a w hS hI hp => does_val (x_build (vs := [(0, .int .i64 9), (1, .int .i64 a0_1), (4, .agg #[.int .u64 a1_0, .int .i64 a1_1]), (5, .int .i64 a0_6), (3, .int .i64 a0_3), (7, .int .i64 a2), (8, .agg #[.int .u64 a0_4, .int .i64 a0_5]), (6, .int .i64 a3)]) rfl (by rw [Array.toList_map]; exact (show [(0, a.eval (.const (.int .i64 9))), (1, a.eval (.tmp 20)), (4, a.eval (.tmp 21)), (5, a.eval (.tmp 23)), (3, a.eval (.tmp 25)), (7, a.eval (.tmp 26)), (8, a.eval (.tmp 28)), (6, a.eval (.tmp 29))] = _ from (li_cons (rfl) (li_cons (hp.V 1 rfl rfl) (li_cons (hp.V 2 rfl rfl) (li_cons (hp.V 4 rfl rfl) (li_cons (hp.V 6 rfl rfl) (li_cons (hp.V 7 rfl rfl) (li_cons (hp.V 9 rfl rfl) (li_cons (hp.V 10 rfl rfl) rfl)))))))))) (by kernel_rfl)) rfl) ?_
    exact .nil
  clear hS
  intro at19 w20 hS hI hp
  have hBw20_w := hI.1
  have hBw20_w3 := hI.2.1
  have hBw20_w5 := hI.2.2.1
  have hBw20_w8 := hI.2.2.2.1
  have hBw20_w17 := hI.2.2.2.2
  replace hS := (hS.nil).cons (hS.get 1 rfl)
  have hv30 : sl _ 30 = (delay_Answer.v0 9 a0_1 0 a0_3 a1_0 a1_1 a0_6 a3 a2 a0_4 a0_5 0 0 0 0 0 0 0 0 0 0 0 0) := hp 11 (by decide)
  have hBw20_w20 := Below.refl w20.heap.size w20
  have hS := hS.cons hv30
  clear hp hI hv30
  show wpList _ _ _ [_, _] _ _
  refine list_step rfl (does_storeAll (g := g9) (cs := (delay_Answer.c1 9 a0_1 0 a0_3 a1_0 a1_1 a0_6 a3 a2 a0_4 a0_5 0 0 0 0 0 0 0 0 0 0 0 0)) rfl (hS.get 1 rfl) (hS.get 0 rfl) ((hBw20_w8.block g9 (blk_lt hbxg9)).trans hbxg9) (by kernel_rfl) (by kernel_rfl) (by kernel_rfl)) ?_
  rintro vw21 w21 ⟨rfl, hbxw21, hT⟩
  have hBw21_w := hT.below hBw20_w (Nat.le_trans (hBw5_w).size hgeg9) (hBw20_w).size
  have hBw21_w3 := hT.below hBw20_w3 (Nat.le_trans (hBw5_w3).size hgeg9) (hBw20_w3).size
  have hBw21_w5 := hT.below hBw20_w5 hgeg9 (hBw20_w5).size
  have hBw21_w21 := Below.refl w21.heap.size w21
  clear hT
  refine list_step rfl (R := fun v w' => Below _ _ w' ∧ (VB true) v w') (does_val (x_assign rfl (rfl)) rfl) ?_
  rintro vw22 w22 ⟨hb, he⟩
  have hBw22_w := below_step hBw21_w hb
  have hBw22_w3 := below_step hBw21_w3 hb
  have hBw22_w5 := below_step hBw21_w5 hb
  have hBw22_w21 := below_step hBw21_w21 hb
  have hBw22_w22 := Below.refl w22.heap.size w22
  obtain rfl : vw22 = .bool true := he
  refine hS.next (v := .bool true) (d := 9) rfl (by decide) (by rfl) ?_
  clear hS
  intro at23 hS
  refine wpList_nil ?_
  refine hK18 _ _ ?_
  (try clear hK18 K18)
  refine wp_ret ?_
  (try simp only [Exit.then, Exit.inBlock, Exit.jump, Exit.noGoto])
  exact bodyPost_ret (v := .tuple #[(delay_Answer.v0 9 a0_1 0 a0_3 a1_0 a1_1 a0_6 a3 a2 a0_4 a0_5 0 0 0 0 0 0 0 0 0 0 0 0), .bool true]) (results_list (rs := [.cell 8 34, .tmp 9]) rfl (by simp) (Vals.cell g9 34 (delay_Answer.c1 9 a0_1 0 a0_3 a1_0 a1_1 a0_6 a3 a2 a0_4 a0_5 0 0 0 0 0 0 0 0 0 0 0 0) (0, 0) _ (hS.get 2 rfl) ((hBw22_w21.block g9 (blk_lt hbxw21)).trans hbxw21) Try.underlying34 rfl (by kernel_rfl) (Vals.at (hS.get 0 rfl) .nil))) hS.nodef ⟨rfl, hBw22_w⟩
/-! ### carillonref02_May: function 22 -/
def carillonref02_May.f (a0 : Int) : Option (Bool) := if a0 ≥ 0 then (some (decide (a0 ≤ 4000000000000000))) else (some false)
set_option maxHeartbeats 8000000 in
set_option maxRecDepth 100000 in
theorem carillonref02_May.calls (a0 : Int) (r : Bool) (w : World) (h : carillonref02_May.f a0 = some r) :
    Calls Try.prog 22 #[.int .i64 a0] w fun e w' => e = .returned (.bool r) ∧ Drawn0 w w' := by
  have H : (if a0 ≥ 0 then (some (decide (a0 ≤ 4000000000000000))) else (some false)) = some r := h
  clear h
  by_cases c2 : a0 ≥ 0
  · rw [if_pos c2] at H
    have c2b0 : decide (0 ≤ a0) = true := decide_eq_true c2
    clear c2
    obtain rfl := Option.some.inj H
    go_enter Try.func22, Try.ntmps22
    go_wp2
    all_goals
      go_ret
      exact ⟨by first | rfl | (simp; done) | (simp [*]; done), by repeat (first | exact Drawn0.refl _ | apply Drawn0.step)⟩
  · rw [if_neg c2] at H
    have c2b0 : decide (0 ≤ a0) = false := decide_eq_false c2
    clear c2
    obtain rfl := Option.some.inj H
    go_enter Try.func22, Try.ntmps22
    go_wp2
    all_goals
      go_ret
      exact ⟨by first | rfl | (simp; done) | (simp [*]; done), by repeat (first | exact Drawn0.refl _ | apply Drawn0.step)⟩
/-! ### carillonref17_Answer: function 10: by our own printer -/
def carillonref17_Answer.f (a0_0 a0_1 a0_2 a0_3 a0_4 a0_5 a0_6 a0_7 a0_8 a0_9 a0_10 a0_11 a0_12 a0_13 a0_14 a0_15 a0_16 a0_17 a0_18 a0_19 a0_20 a0_21 a0_22 a1_0 a1_1 a2 a3 : Int) : Option (Int × Int × Int × Int × Int × Int × Int × Int × Int × Int × Int × Int × Int × Int × Int × Int × Int × Int × Int × Int × Int × Int × Int × Bool) := if a0_0 = 1 then ((carillonref02_May.f a2).bind fun t15 => (if t15 = true then (some (9, a0_1, 0, a0_3, a1_0, a1_1, a0_6, a3, a2, a0_4, a0_5, 0, 0, 0, 0, 0, 0, 0, 0, 0, 0, 0, 0, true)) else (some (0, 0, 0, 0, 0, 0, 0, 0, 0, 0, 0, 0, 0, 0, 0, 0, 0, 0, 0, 0, 0, 0, 0, false)))) else (some (0, 0, 0, 0, 0, 0, 0, 0, 0, 0, 0, 0, 0, 0, 0, 0, 0, 0, 0, 0, 0, 0, 0, false))
abbrev carillonref17_Answer.v0 (x0 x1 x2 x3 x4 x5 x6 x7 x8 x9 x10 x11 x12 x13 x14 x15 x16 x17 x18 x19 x20 x21 x22 : Int) : Value := .agg #[.int .i64 x0, .int .i64 x1, .int .i64 x2, .int .i64 x3, .int .u64 x4, .int .i64 x5, .int .i64 x6, .int .i64 x7, .int .i64 x8, .int .u64 x9, .int .i64 x10, .int .i64 x11, .int .i64 x12, .int .i64 x13, .int .i64 x14, .int .i64 x15, .int .i64 x16, .int .u64 x17, .int .i64 x18, .int .i64 x19, .int .i64 x20, .int .i64 x21, .int .i64 x22]
abbrev carillonref17_Answer.c1 (x0 x1 x2 x3 x4 x5 x6 x7 x8 x9 x10 x11 x12 x13 x14 x15 x16 x17 x18 x19 x20 x21 x22 : Int) : Array Value := #[.int .i64 x0, .int .i64 x1, .int .i64 x2, .int .i64 x3, .int .u64 x4, .int .i64 x5, .int .i64 x6, .int .i64 x7, .int .i64 x8, .int .u64 x9, .int .i64 x10, .int .i64 x11, .int .i64 x12, .int .i64 x13, .int .i64 x14, .int .i64 x15, .int .i64 x16, .int .u64 x17, .int .i64 x18, .int .i64 x19, .int .i64 x20, .int .i64 x21, .int .i64 x22]
open Go.Proofs.Ytpfjpfbhgeoadaa.E in
set_option maxHeartbeats 60000000 in
set_option maxRecDepth 100000 in
theorem carillonref17_Answer.calls (a0_0 a0_1 a0_2 a0_3 a0_4 a0_5 a0_6 a0_7 a0_8 a0_9 a0_10 a0_11 a0_12 a0_13 a0_14 a0_15 a0_16 a0_17 a0_18 a0_19 a0_20 a0_21 a0_22 a1_0 a1_1 a2 a3 r1 r2 r3 r4 r5 r6 r7 r8 r9 r10 r11 r12 r13 r14 r15 r16 r17 r18 r19 r20 r21 r22 r23 : Int) (r24 : Bool) (w : World) (h : carillonref17_Answer.f a0_0 a0_1 a0_2 a0_3 a0_4 a0_5 a0_6 a0_7 a0_8 a0_9 a0_10 a0_11 a0_12 a0_13 a0_14 a0_15 a0_16 a0_17 a0_18 a0_19 a0_20 a0_21 a0_22 a1_0 a1_1 a2 a3 = some (r1, r2, r3, r4, r5, r6, r7, r8, r9, r10, r11, r12, r13, r14, r15, r16, r17, r18, r19, r20, r21, r22, r23, r24)) :
    Calls Try.prog 10 #[.agg #[.int .i64 a0_0, .int .i64 a0_1, .int .i64 a0_2, .int .i64 a0_3, .int .u64 a0_4, .int .i64 a0_5, .int .i64 a0_6, .int .i64 a0_7, .int .i64 a0_8, .int .u64 a0_9, .int .i64 a0_10, .int .i64 a0_11, .int .i64 a0_12, .int .i64 a0_13, .int .i64 a0_14, .int .i64 a0_15, .int .i64 a0_16, .int .u64 a0_17, .int .i64 a0_18, .int .i64 a0_19, .int .i64 a0_20, .int .i64 a0_21, .int .i64 a0_22], .agg #[.int .u64 a1_0, .int .i64 a1_1], .int .i64 a2, .int .i64 a3] w fun e w' => e = .returned (.tuple #[.agg #[.int .i64 r1, .int .i64 r2, .int .i64 r3, .int .i64 r4, .int .u64 r5, .int .i64 r6, .int .i64 r7, .int .i64 r8, .int .i64 r9, .int .u64 r10, .int .i64 r11, .int .i64 r12, .int .i64 r13, .int .i64 r14, .int .i64 r15, .int .i64 r16, .int .i64 r17, .int .u64 r18, .int .i64 r19, .int .i64 r20, .int .i64 r21, .int .i64 r22, .int .i64 r23], .bool r24]) ∧ Below w.heap.size w w' := by
  have H := h
  clear h
  unfold carillonref17_Answer.f at H
  by_cases c1 : a0_0 = 1
  rotate_left
  · rw [if_neg c1] at H
    simp only [Option.some.injEq, Prod.mk.injEq] at H
    obtain ⟨rfl, rfl, rfl, rfl, rfl, rfl, rfl, rfl, rfl, rfl, rfl, rfl, rfl, rfl, rfl, rfl, rfl, rfl, rfl, rfl, rfl, rfl, rfl, rfl⟩ := H
    refine calls_of_wp (fn := Try.f10) (by kernel_rfl) rfl ?_
    have hS := St.enter #[(carillonref17_Answer.v0 a0_0 a0_1 a0_2 a0_3 a0_4 a0_5 a0_6 a0_7 a0_8 a0_9 a0_10 a0_11 a0_12 a0_13 a0_14 a0_15 a0_16 a0_17 a0_18 a0_19 a0_20 a0_21 a0_22), .agg #[.int .u64 a1_0, .int .i64 a1_1], .int .i64 a2, .int .i64 a3] 31 (by simp) [(0, (carillonref17_Answer.v0 a0_0 a0_1 a0_2 a0_3 a0_4 a0_5 a0_6 a0_7 a0_8 a0_9 a0_10 a0_11 a0_12 a0_13 a0_14 a0_15 a0_16 a0_17 a0_18 a0_19 a0_20 a0_21 a0_22)), (1, .agg #[.int .u64 a1_0, .int .i64 a1_1]), (2, .int .i64 a2), (3, .int .i64 a3)] (by simp)
    have HB0 := Below.refl w.heap.size w
    refine wp_seq_k (fun K1 hK1 => ?_)
    refine reg_seq_tail 1 (N := 31) (bs := [(0, (carillonref17_Answer.v0 a0_0 a0_1 a0_2 a0_3 a0_4 a0_5 a0_6 a0_7 a0_8 a0_9 a0_10 a0_11 a0_12 a0_13 a0_14 a0_15 a0_16 a0_17 a0_18 a0_19 a0_20 a0_21 a0_22)), (1, .agg #[.int .u64 a1_0, .int .i64 a1_1]), (2, .int .i64 a2), (3, .int .i64 a3)]) (I := fun x => Below w.heap.size w x) (ps := [IsB (carillonref17_Answer.c1 a0_0 a0_1 a0_2 a0_3 a0_4 a0_5 a0_6 a0_7 a0_8 a0_9 a0_10 a0_11 a0_12 a0_13 a0_14 a0_15 a0_16 a0_17 a0_18 a0_19 a0_20 a0_21 a0_22) 34 w.heap.size]) (by kernel_rfl) ?_ ?_ rfl hS HB0 ?_ ?_
    · exact fun x y hI hb => below_step hI hb
    · exact .cons (Stays.b _ _ _) (.nil)
    · refine .on rfl (fun a w hS hI hp => does_var (x_box rfl (congrArg Value.cells (hS.get 0 rfl))) (hI).size) ?_
      exact .nil
    clear hS
    intro at2 w3 hS hI hp
    have hBw3_w := hI
    replace hS := (((hS.nil).cons (hS.get 3 rfl)).cons (hS.get 2 rfl)).cons (hS.get 1 rfl)
    obtain ⟨g4, hv4, hgeg4, hbxg4⟩ := (show IsB _ 34 _ (sl _ 4) _ from hp 0 (by decide))
    have hBw3_w3 := Below.refl w3.heap.size w3
    have hS := hS.cons hv4
    clear hp hI hv4
    show wpList _ _ _ [_, _, _] _ _
    refine list_step rfl (R := fun v w' => Below _ _ w' ∧ (IsB #[.int .u64 a1_0, .int .i64 a1_1] 24 w3.heap.size) v w') (does_var (x_box rfl (congrArg Value.cells (hS.get 1 rfl))) (hBw3_w3).size) ?_
    rintro vw5 w5 ⟨hb, he⟩
    have hBw5_w := below_step hBw3_w hb
    have hBw5_w3 := below_step hBw3_w3 hb
    have hBw5_w5 := Below.refl w5.heap.size w5
    obtain ⟨g6, rfl, hgeg6, hbxg6⟩ := he
    refine hS.next (v := .pointer (some ⟨g6, 0, none⟩)) (d := 5) rfl (by decide) (by rfl) ?_
    clear hS
    intro at7 hS
    refine list_step rfl (R := fun v w' => Below _ _ w' ∧ (IsB (carillonref17_Answer.c1 0 0 0 0 0 0 0 0 0 0 0 0 0 0 0 0 0 0 0 0 0 0 0) 34 w5.heap.size) v w') (does_var (x_alloc rfl (by kernel_rfl)) (hBw5_w5).size) ?_
    rintro vw8 w8 ⟨hb, he⟩
    have hBw8_w := below_step hBw5_w hb
    have hBw8_w3 := below_step hBw5_w3 hb
    have hBw8_w5 := below_step hBw5_w5 hb
    have hBw8_w8 := Below.refl w8.heap.size w8
    obtain ⟨g9, rfl, hgeg9, hbxg9⟩ := he
    refine hS.next (v := .pointer (some ⟨g9, 0, none⟩)) (d := 8) rfl (by decide) (by rfl) ?_
    clear hS
    intro at10 hS
    refine list_step rfl (R := fun v w' => Below _ _ w' ∧ (VB false) v w') (does_val (x_assign rfl (rfl)) rfl) ?_
    rintro vw11 w11 ⟨hb, he⟩
    have hBw11_w := below_step hBw8_w hb
    have hBw11_w3 := below_step hBw8_w3 hb
    have hBw11_w5 := below_step hBw8_w5 hb
    have hBw11_w8 := below_step hBw8_w8 hb
    have hBw11_w11 := Below.refl w11.heap.size w11
    obtain rfl : vw11 = .bool false := he
    refine hS.next (v := .bool false) (d := 9) rfl (by decide) (by rfl) ?_
    clear hS
    intro at12 hS
    refine wpList_nil ?_
    refine hK1 _ _ ?_
    (try clear hK1 K1)
    refine wp_seq_k (fun K13 hK13 => ?_)
    refine wp_seq_k (fun K14 hK14 => ?_)
    refine reg_seq (N := 31) (bs := [(9, .bool false), (8, .pointer (some ⟨g9, 0, none⟩)), (5, .pointer (some ⟨g6, 0, none⟩)), (4, .pointer (some ⟨g4, 0, none⟩)), (1, .agg #[.int .u64 a1_0, .int .i64 a1_1]), (2, .int .i64 a2), (3, .int .i64 a3)]) (I := fun x => Below w.heap.size w x ∧ Below w3.heap.size w3 x ∧ Below w5.heap.size w5 x ∧ Below w8.heap.size w8 x ∧ Below w11.heap.size w11 x) (ps := [VP g4 0, VI a0_0, VB (!decide (a0_0 = 1)), VB (!decide (a0_0 = 1)), VU, VU, VU, VB true]) (by kernel_rfl) ?_ ?_ rfl hS ⟨hBw11_w, hBw11_w3, hBw11_w5, hBw11_w8, hBw11_w11⟩ ?_ ?_
    · exact fun x y hI hb => ⟨below_step hI.1 hb, below_step hI.2.1 hb, below_step hI.2.2.1 hb, below_step hI.2.2.2.1 hb, below_step hI.2.2.2.2 hb⟩
    · exact .v (.v (.v (.v (.v (.v (.v (.v (.nil))))))))
    · refine .on rfl (fun a w hS hI hp => does_val (x_fieldE (b := 0) rfl (hS.get 3 rfl) Try.underlying34 rfl rfl (by kernel_rfl)) rfl) ?_
      refine .on rfl (fun a w hS hI hp => does_val (x_load1 (d := .int .i64) rfl (hp.V 0 rfl rfl) (by kernel_rfl) rfl ((blk_cell (((hI.2.1).block g4 (blk_lt hbxg4)).trans hbxg4) 0).trans rfl)) rfl) ?_
      refine .on rfl (fun a w hS hI hp => does_val (x_bin rfl (hp.V 1 rfl rfl) (rfl) (b_neq _ _ _ _ _ _)) rfl) ?_
      refine .mv 2 rfl rfl rfl rfl ?_
      iterate 3 refine .sn 3 13 rfl rfl rfl rfl rfl ((congrArg (!·) (decide_eq_false c1))) ?_
      refine .on rfl (fun a w hS hI hp => does_val (x_pickT rfl ((hp.V 3 rfl rfl).trans (bT (congrArg (!·) (decide_eq_false c1)))) (rfl)) rfl) ?_
      exact .nil
    clear hS
    intro at15 w16 hS hI hp
    have hBw16_w := hI.1
    have hBw16_w3 := hI.2.1
    have hBw16_w5 := hI.2.2.1
    have hBw16_w8 := hI.2.2.2.1
    have hBw16_w11 := hI.2.2.2.2
    replace hS := (((((hS.nil).cons (hS.get 6 rfl)).cons (hS.get 5 rfl)).cons (hS.get 3 rfl)).cons (hS.get 2 rfl)).cons (hS.get 1 rfl)
    have hv17 : sl _ 17 = .bool true := hp 7 (by decide)
    have hBw16_w16 := Below.refl w16.heap.size w16
    have hS := hS.cons hv17
    clear hp hI hv17
    refine hK14 _ _ ?_
    (try clear hK14 K14)
    refine wp_cond_true ((hS.get 0 rfl).trans (bT rfl)) ?_
    refine wp_seq_k (fun K17 hK17 => ?_)
    refine reg_seq_tail 1 (N := 31) (bs := [(17, .bool true), (8, .pointer (some ⟨g9, 0, none⟩)), (5, .pointer (some ⟨g6, 0, none⟩)), (4, .pointer (some ⟨g4, 0, none⟩)), (2, .int .i64 a2), (3, .int .i64 a3)]) (I := fun x => Below w.heap.size w x ∧ Below w3.heap.size w3 x ∧ Below w5.heap.size w5 x ∧ Below w8.heap.size w8 x ∧ Below w16.heap.size w16 x) (ps := [IsV ((carillonref17_Answer.v0 0 0 0 0 0 0 0 0 0 0 0 0 0 0 0 0 0 0 0 0 0 0 0))]) (by kernel_rfl) ?_ ?_ rfl hS ⟨hBw16_w, hBw16_w3, hBw16_w5, hBw16_w8, hBw16_w16⟩ ?_ ?_
    · exact fun x y hI hb => ⟨below_step hI.1 hb, below_step hI.2.1 hb, below_step hI.2.2.1 hb, below_step hI.2.2.2.1 hb, below_step hI.2.2.2.2 hb⟩
    · exact .v (.nil)
    · refine .on rfl (fun a w hS hI hp => does_val (x_build (vs := []) rfl (by rw [Array.toList_map]; exact (show [] = _ from rfl)) (by kernel_rfl)) rfl) ?_
      exact .nil
    clear hS
    intro at18 w19 hS hI hp
    have hBw19_w := hI.1
    have hBw19_w3 := hI.2.1
    have hBw19_w5 := hI.2.2.1
    have hBw19_w8 := hI.2.2.2.1
    have hBw19_w16 := hI.2.2.2.2
    replace hS := (hS.nil).cons (hS.get 1 rfl)
    have hv18 : sl _ 18 = (carillonref17_Answer.v0 0 0 0 0 0 0 0 0 0 0 0 0 0 0 0 0 0 0 0 0 0 0 0) := hp 0 (by decide)
    have hBw19_w19 := Below.refl w19.heap.size w19
    have hS := hS.cons hv18
    clear hp hI hv18
    show wpList _ _ _ [_, _] _ _
    refine list_step rfl (does_storeAll (g := g9) (cs := (carillonref17_Answer.c1 0 0 0 0 0 0 0 0 0 0 0 0 0 0 0 0 0 0 0 0 0 0 0)) rfl (hS.get 1 rfl) (hS.get 0 rfl) ((hBw19_w8.block g9 (blk_lt hbxg9)).trans hbxg9) (by kernel_rfl) (by kernel_rfl) (by kernel_rfl)) ?_
    rintro vw20 w20 ⟨rfl, hbxw20, hT⟩
    have hBw20_w := hT.below hBw19_w (Nat.le_trans (hBw5_w).size hgeg9) (hBw19_w).size
    have hBw20_w3 := hT.below hBw19_w3 (Nat.le_trans (hBw5_w3).size hgeg9) (hBw19_w3).size
    have hBw20_w5 := hT.below hBw19_w5 hgeg9 (hBw19_w5).size
    have hBw20_w20 := Below.refl w20.heap.size w20
    clear hT
    refine list_step rfl (R := fun v w' => Below _ _ w' ∧ (VB false) v w') (does_val (x_assign rfl (rfl)) rfl) ?_
    rintro vw21 w21 ⟨hb, he⟩
    have hBw21_w := below_step hBw20_w hb
    have hBw21_w3 := below_step hBw20_w3 hb
    have hBw21_w5 := below_step hBw20_w5 hb
    have hBw21_w20 := below_step hBw20_w20 hb
    have hBw21_w21 := Below.refl w21.heap.size w21
    obtain rfl : vw21 = .bool false := he
    refine hS.next (v := .bool false) (d := 9) rfl (by decide) (by rfl) ?_
    clear hS
    intro at22 hS
    refine wpList_nil ?_
    refine hK17 _ _ ?_
    (try clear hK17 K17)
    refine wp_ret ?_
    (try simp only [Exit.then, Exit.inBlock, Exit.jump, Exit.noGoto])
    exact bodyPost_ret (v := .tuple #[(carillonref17_Answer.v0 0 0 0 0 0 0 0 0 0 0 0 0 0 0 0 0 0 0 0 0 0 0 0), .bool false]) (results_list (rs := [.cell 8 34, .tmp 9]) rfl (by simp) (Vals.cell g9 34 (carillonref17_Answer.c1 0 0 0 0 0 0 0 0 0 0 0 0 0 0 0 0 0 0 0 0 0 0 0) (0, 0) _ (hS.get 2 rfl) ((hBw21_w20.block g9 (blk_lt hbxw20)).trans hbxw20) Try.underlying34 rfl (by kernel_rfl) (Vals.at (hS.get 0 rfl) .nil))) hS.nodef ⟨rfl, hBw21_w⟩
  rw [if_pos c1] at H
  obtain ⟨t15, At15, H⟩ := Option.bind_eq_some_iff.mp H
  by_cases c2 : t15 = true
  rotate_left
  · rw [if_neg c2] at H
    simp only [Option.some.injEq, Prod.mk.injEq] at H
    obtain ⟨rfl, rfl, rfl, rfl, rfl, rfl, rfl, rfl, rfl, rfl, rfl, rfl, rfl, rfl, rfl, rfl, rfl, rfl, rfl, rfl, rfl, rfl, rfl, rfl⟩ := H
    refine calls_of_wp (fn := Try.f10) (by kernel_rfl) rfl ?_
    have hS := St.enter #[(carillonref17_Answer.v0 a0_0 a0_1 a0_2 a0_3 a0_4 a0_5 a0_6 a0_7 a0_8 a0_9 a0_10 a0_11 a0_12 a0_13 a0_14 a0_15 a0_16 a0_17 a0_18 a0_19 a0_20 a0_21 a0_22), .agg #[.int .u64 a1_0, .int .i64 a1_1], .int .i64 a2, .int .i64 a3] 31 (by simp) [(0, (carillonref17_Answer.v0 a0_0 a0_1 a0_2 a0_3 a0_4 a0_5 a0_6 a0_7 a0_8 a0_9 a0_10 a0_11 a0_12 a0_13 a0_14 a0_15 a0_16 a0_17 a0_18 a0_19 a0_20 a0_21 a0_22)), (1, .agg #[.int .u64 a1_0, .int .i64 a1_1]), (2, .int .i64 a2), (3, .int .i64 a3)] (by simp)
    have HB0 := Below.refl w.heap.size w
    refine wp_seq_k (fun K1 hK1 => ?_)
    refine reg_seq_tail 1 (N := 31) (bs := [(0, (carillonref17_Answer.v0 a0_0 a0_1 a0_2 a0_3 a0_4 a0_5 a0_6 a0_7 a0_8 a0_9 a0_10 a0_11 a0_12 a0_13 a0_14 a0_15 a0_16 a0_17 a0_18 a0_19 a0_20 a0_21 a0_22)), (1, .agg #[.int .u64 a1_0, .int .i64 a1_1]), (2, .int .i64 a2), (3, .int .i64 a3)]) (I := fun x => Below w.heap.size w x) (ps := [IsB (carillonref17_Answer.c1 a0_0 a0_1 a0_2 a0_3 a0_4 a0_5 a0_6 a0_7 a0_8 a0_9 a0_10 a0_11 a0_12 a0_13 a0_14 a0_15 a0_16 a0_17 a0_18 a0_19 a0_20 a0_21 a0_22) 34 w.heap.size]) (by kernel_rfl) ?_ ?_ rfl hS HB0 ?_ ?_
    · exact fun x y hI hb => below_step hI hb
    · exact .cons (Stays.b _ _ _) (.nil)
    · refine .on rfl (fun a w hS hI hp => does_var (x_box rfl (congrArg Value.cells (hS.get 0 rfl))) (hI).size) ?_
      exact .nil
    clear hS
    intro at2 w3 hS hI hp
    have hBw3_w := hI
    replace hS := (((hS.nil).cons (hS.get 3 rfl)).cons (hS.get 2 rfl)).cons (hS.get 1 rfl)
    obtain ⟨g4, hv4, hgeg4, hbxg4⟩ := (show IsB _ 34 _ (sl _ 4) _ from hp 0 (by decide))
    have hBw3_w3 := Below.refl w3.heap.size w3
    have hS := hS.cons hv4
    clear hp hI hv4
    show wpList _ _ _ [_, _, _] _ _
    refine list_step rfl (R := fun v w' => Below _ _ w' ∧ (IsB #[.int .u64 a1_0, .int .i64 a1_1] 24 w3.heap.size) v w') (does_var (x_box rfl (congrArg Value.cells (hS.get 1 rfl))) (hBw3_w3).size) ?_
    rintro vw5 w5 ⟨hb, he⟩
    have hBw5_w := below_step hBw3_w hb
    have hBw5_w3 := below_step hBw3_w3 hb
    have hBw5_w5 := Below.refl w5.heap.size w5
    obtain ⟨g6, rfl, hgeg6, hbxg6⟩ := he
    refine hS.next (v := .pointer (some ⟨g6, 0, none⟩)) (d := 5) rfl (by decide) (by rfl) ?_
    clear hS
    intro at7 hS
    refine list_step rfl (R := fun v w' => Below _ _ w' ∧ (IsB (carillonref17_Answer.c1 0 0 0 0 0 0 0 0 0 0 0 0 0 0 0 0 0 0 0 0 0 0 0) 34 w5.heap.size) v w') (does_var (x_alloc rfl (by kernel_rfl)) (hBw5_w5).size) ?_
    rintro vw8 w8 ⟨hb, he⟩
    have hBw8_w := below_step hBw5_w hb
    have hBw8_w3 := below_step hBw5_w3 hb
    have hBw8_w5 := below_step hBw5_w5 hb
    have hBw8_w8 := Below.refl w8.heap.size w8
    obtain ⟨g9, rfl, hgeg9, hbxg9⟩ := he
    refine hS.next (v := .pointer (some ⟨g9, 0, none⟩)) (d := 8) rfl (by decide) (by rfl) ?_
    clear hS
    intro at10 hS
    refine list_step rfl (R := fun v w' => Below _ _ w' ∧ (VB false) v w') (does_val (x_assign rfl (rfl)) rfl) ?_
    rintro vw11 w11 ⟨hb, he⟩
    have hBw11_w := below_step hBw8_w hb
    have hBw11_w3 := below_step hBw8_w3 hb
    have hBw11_w5 := below_step hBw8_w5 hb
    have hBw11_w8 := below_step hBw8_w8 hb
    have hBw11_w11 := Below.refl w11.heap.size w11
    obtain rfl : vw11 = .bool false := he
    refine hS.next (v := .bool false) (d := 9) rfl (by decide) (by rfl) ?_
    clear hS
    intro at12 hS
    refine wpList_nil ?_
    refine hK1 _ _ ?_
    (try clear hK1 K1)
    refine wp_seq_k (fun K13 hK13 => ?_)
    refine wp_seq_k (fun K14 hK14 => ?_)
    refine reg_seq (N := 31) (bs := [(9, .bool false), (8, .pointer (some ⟨g9, 0, none⟩)), (5, .pointer (some ⟨g6, 0, none⟩)), (4, .pointer (some ⟨g4, 0, none⟩)), (1, .agg #[.int .u64 a1_0, .int .i64 a1_1]), (2, .int .i64 a2), (3, .int .i64 a3)]) (I := fun x => Below w.heap.size w x ∧ Below w3.heap.size w3 x ∧ Below w5.heap.size w5 x ∧ Below w8.heap.size w8 x ∧ Below w11.heap.size w11 x) (ps := [VP g4 0, VI a0_0, VB (!decide (a0_0 = 1)), VB (!decide (a0_0 = 1)), VI a2, VB t15, VB (!t15), VB (!t15)]) (by kernel_rfl) ?_ ?_ rfl hS ⟨hBw11_w, hBw11_w3, hBw11_w5, hBw11_w8, hBw11_w11⟩ ?_ ?_
    · exact fun x y hI hb => ⟨below_step hI.1 hb, below_step hI.2.1 hb, below_step hI.2.2.1 hb, below_step hI.2.2.2.1 hb, below_step hI.2.2.2.2 hb⟩
    · exact .v (.v (.v (.v (.v (.v (.v (.v (.nil))))))))
    · refine .on rfl (fun a w hS hI hp => does_val (x_fieldE (b := 0) rfl (hS.get 3 rfl) Try.underlying34 rfl rfl (by kernel_rfl)) rfl) ?_
      refine .on rfl (fun a w hS hI hp => does_val (x_load1 (d := .int .i64) rfl (hp.V 0 rfl rfl) (by kernel_rfl) rfl ((blk_cell (((hI.2.1).block g4 (blk_lt hbxg4)).trans hbxg4) 0).trans rfl)) rfl) ?_
      refine .on rfl (fun a w hS hI hp => does_val (x_bin rfl (hp.V 1 rfl rfl) (rfl) (b_neq _ _ _ _ _ _)) rfl) ?_
      refine .mv 2 rfl rfl rfl rfl ?_
      refine .oy 3 13 rfl rfl rfl rfl rfl ((congrArg (!·) (decide_eq_true c1))) (fun a w hS hI hp => does_val (x_move rfl (hS.get 5 rfl)) rfl) ?_
      refine .oy 3 13 rfl rfl rfl rfl rfl ((congrArg (!·) (decide_eq_true c1))) (fun a w hS hI hp => does_call (by kernel_rfl) (ar1 (hp.V 4 rfl rfl)) ((carillonref02_May.calls a2 t15 _  At15).mono fun _ _ h => ⟨_, h.1, h.2.below, rfl⟩)) ?_
      refine .oy 3 13 rfl rfl rfl rfl rfl ((congrArg (!·) (decide_eq_true c1))) (fun a w hS hI hp => does_val (x_not rfl (hp.V 5 rfl rfl)) rfl) ?_
      refine .on rfl (fun a w hS hI hp => does_val (x_pickF rfl ((hp.V 3 rfl rfl).trans (bF (congrArg (!·) (decide_eq_true c1)))) (hp.V 6 rfl rfl)) rfl) ?_
      exact .nil
    clear hS
    intro at16 w17 hS hI hp
    have hBw17_w := hI.1
    have hBw17_w3 := hI.2.1
    have hBw17_w5 := hI.2.2.1
    have hBw17_w8 := hI.2.2.2.1
    have hBw17_w11 := hI.2.2.2.2
    replace hS := (((((hS.nil).cons (hS.get 6 rfl)).cons (hS.get 5 rfl)).cons (hS.get 3 rfl)).cons (hS.get 2 rfl)).cons (hS.get 1 rfl)
    have hv17 : sl _ 17 = .bool (!t15) := hp 7 (by decide)
    have hBw17_w17 := Below.refl w17.heap.size w17
    have hS := hS.cons hv17
    clear hp hI hv17
    refine hK14 _ _ ?_
    (try clear hK14 K14)
    refine wp_cond_true ((hS.get 0 rfl).trans (bT (congrArg (!·) (Bool.eq_false_iff.2 c2)))) ?_
    refine wp_seq_k (fun K18 hK18 => ?_)
    refine reg_seq_tail 1 (N := 31) (bs := [(17, .bool (!t15)), (8, .pointer (some ⟨g9, 0, none⟩)), (5, .pointer (some ⟨g6, 0, none⟩)), (4, .pointer (some ⟨g4, 0, none⟩)), (2, .int .i64 a2), (3, .int .i64 a3)]) (I := fun x => Below w.heap.size w x ∧ Below w3.heap.size w3 x ∧ Below w5.heap.size w5 x ∧ Below w8.heap.size w8 x ∧ Below w17.heap.size w17 x) (ps := [IsV ((carillonref17_Answer.v0 0 0 0 0 0 0 0 0 0 0 0 0 0 0 0 0 0 0 0 0 0 0 0))]) (by kernel_rfl) ?_ ?_ rfl hS ⟨hBw17_w, hBw17_w3, hBw17_w5, hBw17_w8, hBw17_w17⟩ ?_ ?_
    · exact fun x y hI hb => ⟨below_step hI.1 hb, below_step hI.2.1 hb, below_step hI.2.2.1 hb, below_step hI.2.2.2.1 hb, below_step hI.2.2.2.2 hb⟩
    · exact .v (.nil)
    · refine .on rfl (fun a w hS hI hp => does_val (x_build (vs := []) rfl (by rw [Array.toList_map]; exact (show [] = _ from rfl)) (by kernel_rfl)) rfl) ?_
      exact .nil
    clear hS
    intro at19 w20 hS hI hp
    have hBw20_w := hI.1
    have hBw20_w3 := hI.2.1
    have hBw20_w5 := hI.2.2.1
    have hBw20_w8 := hI.2.2.2.1
    have hBw20_w17 := hI.2.2.2.2
    replace hS := (hS.nil).cons (hS.get 1 rfl)
    have hv18 : sl _ 18 = (carillonref17_Answer.v0 0 0 0 0 0 0 0 0 0 0 0 0 0 0 0 0 0 0 0 0 0 0 0) := hp 0 (by decide)
    have hBw20_w20 := Below.refl w20.heap.size w20
    have hS := hS.cons hv18
    clear hp hI hv18
    show wpList _ _ _ [_, _] _ _
    refine list_step rfl (does_storeAll (g := g9) (cs := (carillonref17_Answer.c1 0 0 0 0 0 0 0 0 0 0 0 0 0 0 0 0 0 0 0 0 0 0 0)) rfl (hS.get 1 rfl) (hS.get 0 rfl) ((hBw20_w8.block g9 (blk_lt hbxg9)).trans hbxg9) (by kernel_rfl) (by kernel_rfl) (by kernel_rfl)) ?_
    rintro vw21 w21 ⟨rfl, hbxw21, hT⟩
    have hBw21_w := hT.below hBw20_w (Nat.le_trans (hBw5_w).size hgeg9) (hBw20_w).size
    have hBw21_w3 := hT.below hBw20_w3 (Nat.le_trans (hBw5_w3).size hgeg9) (hBw20_w3).size
    have hBw21_w5 := hT.below hBw20_w5 hgeg9 (hBw20_w5).size
    have hBw21_w21 := Below.refl w21.heap.size w21
    clear hT
    refine list_step rfl (R := fun v w' => Below _ _ w' ∧ (VB false) v w') (does_val (x_assign rfl (rfl)) rfl) ?_
    rintro vw22 w22 ⟨hb, he⟩
    have hBw22_w := below_step hBw21_w hb
    have hBw22_w3 := below_step hBw21_w3 hb
    have hBw22_w5 := below_step hBw21_w5 hb
    have hBw22_w21 := below_step hBw21_w21 hb
    have hBw22_w22 := Below.refl w22.heap.size w22
    obtain rfl : vw22 = .bool false := he
    refine hS.next (v := .bool false) (d := 9) rfl (by decide) (by rfl) ?_
    clear hS
    intro at23 hS
    refine wpList_nil ?_
    refine hK18 _ _ ?_
    (try clear hK18 K18)
    refine wp_ret ?_
    (try simp only [Exit.then, Exit.inBlock, Exit.jump, Exit.noGoto])
    exact bodyPost_ret (v := .tuple #[(carillonref17_Answer.v0 0 0 0 0 0 0 0 0 0 0 0 0 0 0 0 0 0 0 0 0 0 0 0), .bool false]) (results_list (rs := [.cell 8 34, .tmp 9]) rfl (by simp) (Vals.cell g9 34 (carillonref17_Answer.c1 0 0 0 0 0 0 0 0 0 0 0 0 0 0 0 0 0 0 0 0 0 0 0) (0, 0) _ (hS.get 2 rfl) ((hBw22_w21.block g9 (blk_lt hbxw21)).trans hbxw21) Try.underlying34 rfl (by kernel_rfl) (Vals.at (hS.get 0 rfl) .nil))) hS.nodef ⟨rfl, hBw22_w⟩
  rw [if_pos c2] at H
  simp only [Option.some.injEq, Prod.mk.injEq] at H
  obtain ⟨rfl, rfl, rfl, rfl, rfl, rfl, rfl, rfl, rfl, rfl, rfl, rfl, rfl, rfl, rfl, rfl, rfl, rfl, rfl, rfl, rfl, rfl, rfl, rfl⟩ := H
  refine calls_of_wp (fn := Try.f10) (by kernel_rfl) rfl ?_
  have hS := St.enter #[(carillonref17_Answer.v0 a0_0 a0_1 a0_2 a0_3 a0_4 a0_5 a0_6 a0_7 a0_8 a0_9 a0_10 a0_11 a0_12 a0_13 a0_14 a0_15 a0_16 a0_17 a0_18 a0_19 a0_20 a0_21 a0_22), .agg #[.int .u64 a1_0, .int .i64 a1_1], .int .i64 a2, .int .i64 a3] 31 (by simp) [(0, (carillonref17_Answer.v0 a0_0 a0_1 a0_2 a0_3 a0_4 a0_5 a0_6 a0_7 a0_8 a0_9 a0_10 a0_11 a0_12 a0_13 a0_14 a0_15 a0_16 a0_17 a0_18 a0_19 a0_20 a0_21 a0_22)), (1, .agg #[.int .u64 a1_0, .int .i64 a1_1]), (2, .int .i64 a2), (3, .int .i64 a3)] (by simp)
  have HB0 := Below.refl w.heap.size w
  refine wp_seq_k (fun K1 hK1 => ?_)
  refine reg_seq_tail 1 (N := 31) (bs := [(0, (carillonref17_Answer.v0 a0_0 a0_1 a0_2 a0_3 a0_4 a0_5 a0_6 a0_7 a0_8 a0_9 a0_10 a0_11 a0_12 a0_13 a0_14 a0_15 a0_16 a0_17 a0_18 a0_19 a0_20 a0_21 a0_22)), (1, .agg #[.int .u64 a1_0, .int .i64 a1_1]), (2, .int .i64 a2), (3, .int .i64 a3)]) (I := fun x => Below w.heap.size w x) (ps := [IsB (carillonref17_Answer.c1 a0_0 a0_1 a0_2 a0_3 a0_4 a0_5 a0_6 a0_7 a0_8 a0_9 a0_10 a0_11 a0_12 a0_13 a0_14 a0_15 a0_16 a0_17 a0_18 a0_19 a0_20 a0_21 a0_22) 34 w.heap.size]) (by kernel_rfl) ?_ ?_ rfl hS HB0 ?_ ?_
  · exact fun x y hI hb => below_step hI hb
  · exact .cons (Stays.b _ _ _) (.nil)
  · refine .on rfl (fun a w hS hI hp => does_var (x_box rfl (congrArg Value.cells (hS.get 0 rfl))) (hI).size) ?_
    exact .nil
  clear hS
  intro at2 w3 hS hI hp
  have hBw3_w := hI
  replace hS := (((hS.nil).cons (hS.get 3 rfl)).cons (hS.get 2 rfl)).cons (hS.get 1 rfl)
  obtain ⟨g4, hv4, hgeg4, hbxg4⟩ := (show IsB _ 34 _ (sl _ 4) _ from hp 0 (by decide))
  have hBw3_w3 := Below.refl w3.heap.size w3
  have hS := hS.cons hv4
  clear hp hI hv4
  show wpList _ _ _ [_, _, _] _ _
  refine list_step rfl (R := fun v w' => Below _ _ w' ∧ (IsB #[.int .u64 a1_0, .int .i64 a1_1] 24 w3.heap.size) v w') (does_var (x_box rfl (congrArg Value.cells (hS.get 1 rfl))) (hBw3_w3).size) ?_
  rintro vw5 w5 ⟨hb, he⟩
  have hBw5_w := below_step hBw3_w hb
  have hBw5_w3 := below_step hBw3_w3 hb
  have hBw5_w5 := Below.refl w5.heap.size w5
  obtain ⟨g6, rfl, hgeg6, hbxg6⟩ := he
  refine hS.next (v := .pointer (some ⟨g6, 0, none⟩)) (d := 5) rfl (by decide) (by rfl) ?_
  clear hS
  intro at7 hS
  refine list_step rfl (R := fun v w' => Below _ _ w' ∧ (IsB (carillonref17_Answer.c1 0 0 0 0 0 0 0 0 0 0 0 0 0 0 0 0 0 0 0 0 0 0 0) 34 w5.heap.size) v w') (does_var (x_alloc rfl (by kernel_rfl)) (hBw5_w5).size) ?_
  rintro vw8 w8 ⟨hb, he⟩
  have hBw8_w := below_step hBw5_w hb
  have hBw8_w3 := below_step hBw5_w3 hb
  have hBw8_w5 := below_step hBw5_w5 hb
  have hBw8_w8 := Below.refl w8.heap.size w8
  obtain ⟨g9, rfl, hgeg9, hbxg9⟩ := he
  refine hS.next (v := .pointer (some ⟨g9, 0, none⟩)) (d := 8) rfl (by decide) (by rfl) ?_
  clear hS
  intro at10 hS
  refine list_step rfl (R := fun v w' => Below _ _ w' ∧ (VB false) v w') (does_val (x_assign rfl (rfl)) rfl) ?_
  rintro vw11 w11 ⟨hb, he⟩
  have hBw11_w := below_step hBw8_w hb
  have hBw11_w3 := below_step hBw8_w3 hb
  have hBw11_w5 := below_step hBw8_w5 hb
  have hBw11_w8 := below_step hBw8_w8 hb
  have hBw11_w11 := Below.refl w11.heap.size w11
  obtain rfl : vw11 = .bool false := he
  refine hS.next (v := .bool false) (d := 9) rfl (by decide) (by rfl) ?_
  clear hS
  intro at12 hS
  refine wpList_nil ?_
  refine hK1 _ _ ?_
  (try clear hK1 K1)
  refine wp_seq_k (fun K13 hK13 => ?_)
  refine wp_seq_k (fun K14 hK14 => ?_)
  refine reg_seq (N := 31) (bs := [(9, .bool false), (8, .pointer (some ⟨g9, 0, none⟩)), (5, .pointer (some ⟨g6, 0, none⟩)), (4, .pointer (some ⟨g4, 0, none⟩)), (1, .agg #[.int .u64 a1_0, .int .i64 a1_1]), (2, .int .i64 a2), (3, .int .i64 a3)]) (I := fun x => Below w.heap.size w x ∧ Below w3.heap.size w3 x ∧ Below w5.heap.size w5 x ∧ Below w8.heap.size w8 x ∧ Below w11.heap.size w11 x) (ps := [VP g4 0, VI a0_0, VB (!decide (a0_0 = 1)), VB (!decide (a0_0 = 1)), VI a2, VB t15, VB (!t15), VB (!t15)]) (by kernel_rfl) ?_ ?_ rfl hS ⟨hBw11_w, hBw11_w3, hBw11_w5, hBw11_w8, hBw11_w11⟩ ?_ ?_
  · exact fun x y hI hb => ⟨below_step hI.1 hb, below_step hI.2.1 hb, below_step hI.2.2.1 hb, below_step hI.2.2.2.1 hb, below_step hI.2.2.2.2 hb⟩
  · exact .v (.v (.v (.v (.v (.v (.v (.v (.nil))))))))
  · refine .on rfl (fun a w hS hI hp => does_val (x_fieldE (b := 0) rfl (hS.get 3 rfl) Try.underlying34 rfl rfl (by kernel_rfl)) rfl) ?_
    refine .on rfl (fun a w hS hI hp => does_val (x_load1 (d := .int .i64) rfl (hp.V 0 rfl rfl) (by kernel_rfl) rfl ((blk_cell (((hI.2.1).block g4 (blk_lt hbxg4)).trans hbxg4) 0).trans rfl)) rfl) ?_
    refine .on rfl (fun a w hS hI hp => does_val (x_bin rfl (hp.V 1 rfl rfl) (rfl) (b_neq _ _ _ _ _ _)) rfl) ?_
    refine .mv 2 rfl rfl rfl rfl ?_
    refine .oy 3 13 rfl rfl rfl rfl rfl ((congrArg (!·) (decide_eq_true c1))) (fun a w hS hI hp => does_val (x_move rfl (hS.get 5 rfl)) rfl) ?_
    refine .oy 3 13 rfl rfl rfl rfl rfl ((congrArg (!·) (decide_eq_true c1))) (fun a w hS hI hp => does_call (by kernel_rfl) (ar1 (hp.V 4 rfl rfl)) ((carillonref02_May.calls a2 t15 _  At15).mono fun _ _ h => ⟨_, h.1, h.2.below, rfl⟩)) ?_
    refine .oy 3 13 rfl rfl rfl rfl rfl ((congrArg (!·) (decide_eq_true c1))) (fun a w hS hI hp => does_val (x_not rfl (hp.V 5 rfl rfl)) rfl) ?_
    refine .on rfl (fun a w hS hI hp => does_val (x_pickF rfl ((hp.V 3 rfl rfl).trans (bF (congrArg (!·) (decide_eq_true c1)))) (hp.V 6 rfl rfl)) rfl) ?_
    exact .nil
  clear hS
  intro at16 w17 hS hI hp
  have hBw17_w := hI.1
  have hBw17_w3 := hI.2.1
  have hBw17_w5 := hI.2.2.1
  have hBw17_w8 := hI.2.2.2.1
  have hBw17_w11 := hI.2.2.2.2
  replace hS := (((((hS.nil).cons (hS.get 6 rfl)).cons (hS.get 5 rfl)).cons (hS.get 3 rfl)).cons (hS.get 2 rfl)).cons (hS.get 1 rfl)
  have hv17 : sl _ 17 = .bool (!t15) := hp 7 (by decide)
  have hBw17_w17 := Below.refl w17.heap.size w17
  have hS := hS.cons hv17
  clear hp hI hv17
  refine hK14 _ _ ?_
  (try clear hK14 K14)
  refine wp_cond_false ((hS.get 0 rfl).trans (bF (congrArg (!·) c2))) ?_
  refine wp_skip ?_
  refine hK13 _ _ ?_
  (try clear hK13 K13)
  refine wp_seq_k (fun K18 hK18 => ?_)
  refine reg_seq_tail 12 (N := 31) (bs := [(17, .bool (!t15)), (8, .pointer (some ⟨g9, 0, none⟩)), (5, .pointer (some ⟨g6, 0, none⟩)), (4, .pointer (some ⟨g4, 0, none⟩)), (2, .int .i64 a2), (3, .int .i64 a3)]) (I := fun x => Below w.heap.size w x ∧ Below w3.heap.size w3 x ∧ Below w5.heap.size w5 x ∧ Below w8.heap.size w8 x ∧ Below w17.heap.size w17 x) (ps := [VP g4 1, VI a0_1, IsV (.agg #[.int .u64 a1_0, .int .i64 a1_1]), VP g4 6, VI a0_6, VP g4 3, VI a0_3, VI a2, VP g4 4, IsV (.agg #[.int .u64 a0_4, .int .i64 a0_5]), VI a3, IsV ((carillonref17_Answer.v0 9 a0_1 0 a0_3 a1_0 a1_1 a0_6 a3 a2 a0_4 a0_5 0 0 0 0 0 0 0 0 0 0 0 0))]) (by kernel_rfl) ?_ ?_ rfl hS ⟨hBw17_w, hBw17_w3, hBw17_w5, hBw17_w8, hBw17_w17⟩ ?_ ?_
  · exact fun x y hI hb => ⟨below_step hI.1 hb, below_step hI.2.1 hb, below_step hI.2.2.1 hb, below_step hI.2.2.2.1 hb, below_step hI.2.2.2.2 hb⟩
  · exact .v (.v (.v (.v (.v (.v (.v (.v (.v (.v (.v (.v (.nil))))))))))))
  · refine .on rfl (fun a w hS hI hp => does_val (x_fieldE (b := 0) rfl (hS.get 3 rfl) Try.underlying34 rfl rfl (by kernel_rfl)) rfl) ?_
    refine .on rfl (fun a w hS hI hp => does_val (x_load1 (d := .int .i64) rfl (hp.V 0 rfl rfl) (by kernel_rfl) rfl ((blk_cell (((hI.2.1).block g4 (blk_lt hbxg4)).trans hbxg4) 1).trans rfl)) rfl) ?_
    refine .on rfl (fun a w hS hI hp => does_loadrow rfl (hS.get 2 rfl) (((hI.2.2.1).block g6 (blk_lt hbxg6)).trans hbxg6) Try.underlying24 rfl (by kernel_rfl) rfl) ?_
    refine .on rfl (fun a w hS hI hp => does_val (x_fieldE (b := 0) rfl (hS.get 3 rfl) Try.underlying34 rfl rfl (by kernel_rfl)) rfl) ?_
    refine .on rfl (fun a w hS hI hp => does_val (x_load1 (d := .int .i64) rfl (hp.V 3 rfl rfl) (by kernel_rfl) rfl ((blk_cell (((hI.2.1).block g4 (blk_lt hbxg4)).trans hbxg4) 6).trans rfl)) rfl) ?_
    refine .on rfl (fun a w hS hI hp => does_val (x_fieldE (b := 0) rfl (hS.get 3 rfl) Try.underlying34 rfl rfl (by kernel_rfl)) rfl) ?_
    refine .on rfl (fun a w hS hI hp => does_val (x_load1 (d := .int .i64) rfl (hp.V 5 rfl rfl) (by kernel_rfl) rfl ((blk_cell (((hI.2.1).block g4 (blk_lt hbxg4)).trans hbxg4) 3).trans rfl)) rfl) ?_
    refine .ms 4 rfl rfl rfl ?_
    refine .on rfl (fun a w hS hI hp => does_val (x_fieldE (b := 0) rfl (hS.get 3 rfl) Try.underlying34 rfl rfl (by kernel_rfl)) rfl) ?_
    refine .on rfl (fun a w hS hI hp => does_loadmid (cs := [.int .u64 a0_4, .int .i64 a0_5]) rfl (hp.V 8 rfl rfl) (((hI.2.1).block g4 (blk_lt hbxg4)).trans hbxg4) (by kernel_rfl) Try.underlying24 rfl (by kernel_rfl) rfl) ?_
    refine .ms 5 rfl rfl rfl ?_
    refine .on rfl (fun a w hS hI hp => does_val (x_build (vs := [(0, .int .i64 9), (1, .int .i64 a0_1), (4, .agg #[.int .u64 a1_0, .int .i64 a1_1]), (5, .int .i64 a0_6), (3, .int .i64 a0_3), (7, .int .i64 a2), (8, .agg #[.int .u64 a0_4, .int .i64 a0_5]), (6, .int .i64 a3)]) rfl (by rw [Array.toList_map]; exact (show [(0, a.eval (.const (.int .i64 9))), (1, a.eval (.tmp 20)), (4, a.eval (.tmp 21)), (5, a.eval (.tmp 23)), (3, a.eval (.tmp 25)), (7, a.eval (.tmp 26)), (8, a.eval (.tmp 28)), (6, a.eval (.tmp 29))] = _ from (li_cons (rfl) (li_cons (hp.V 1 rfl rfl) (li_cons (hp.V 2 rfl rfl) (li_cons (hp.V 4 rfl rfl) (li_cons (hp.V 6 rfl rfl) (li_cons (hp.V 7 rfl rfl) (li_cons (hp.V 9 rfl rfl) (li_cons (hp.V 10 rfl rfl) rfl)))))))))) (by kernel_rfl)) rfl) ?_
    exact .nil
  clear hS
  intro at19 w20 hS hI hp
  have hBw20_w := hI.1
  have hBw20_w3 := hI.2.1
  have hBw20_w5 := hI.2.2.1
  have hBw20_w8 := hI.2.2.2.1
  have hBw20_w17 := hI.2.2.2.2
  replace hS := (hS.nil).cons (hS.get 1 rfl)
  have hv30 : sl _ 30 = (carillonref17_Answer.v0 9 a0_1 0 a0_3 a1_0 a1_1 a0_6 a3 a2 a0_4 a0_5 0 0 0 0 0 0 0 0 0 0 0 0) := hp 11 (by decide)
  have hBw20_w20 := Below.refl w20.heap.size w20
  have hS := hS.cons hv30
  clear hp hI hv30
  show wpList _ _ _ [_, _] _ _
  refine list_step rfl (does_storeAll (g := g9) (cs := (carillonref17_Answer.c1 9 a0_1 0 a0_3 a1_0 a1_1 a0_6 a3 a2 a0_4 a0_5 0 0 0 0 0 0 0 0 0 0 0 0)) rfl (hS.get 1 rfl) (hS.get 0 rfl) ((hBw20_w8.block g9 (blk_lt hbxg9)).trans hbxg9) (by kernel_rfl) (by kernel_rfl) (by kernel_rfl)) ?_
  rintro vw21 w21 ⟨rfl, hbxw21, hT⟩
  have hBw21_w := hT.below hBw20_w (Nat.le_trans (hBw5_w).size hgeg9) (hBw20_w).size
  have hBw21_w3 := hT.below hBw20_w3 (Nat.le_trans (hBw5_w3).size hgeg9) (hBw20_w3).size
  have hBw21_w5 := hT.below hBw20_w5 hgeg9 (hBw20_w5).size
  have hBw21_w21 := Below.refl w21.heap.size w21
  clear hT
  refine list_step rfl (R := fun v w' => Below _ _ w' ∧ (VB true) v w') (does_val (x_assign rfl (rfl)) rfl) ?_
  rintro vw22 w22 ⟨hb, he⟩
  have hBw22_w := below_step hBw21_w hb
  have hBw22_w3 := below_step hBw21_w3 hb
  have hBw22_w5 := below_step hBw21_w5 hb
  have hBw22_w21 := below_step hBw21_w21 hb
  have hBw22_w22 := Below.refl w22.heap.size w22
  obtain rfl : vw22 = .bool true := he
  refine hS.next (v := .bool true) (d := 9) rfl (by decide) (by rfl) ?_
  clear hS
  intro at23 hS
  refine wpList_nil ?_
  refine hK18 _ _ ?_
  (try clear hK18 K18)
  refine wp_ret ?_
  (try simp only [Exit.then, Exit.inBlock, Exit.jump, Exit.noGoto])
  exact bodyPost_ret (v := .tuple #[(carillonref17_Answer.v0 9 a0_1 0 a0_3 a1_0 a1_1 a0_6 a3 a2 a0_4 a0_5 0 0 0 0 0 0 0 0 0 0 0 0), .bool true]) (results_list (rs := [.cell 8 34, .tmp 9]) rfl (by simp) (Vals.cell g9 34 (carillonref17_Answer.c1 9 a0_1 0 a0_3 a1_0 a1_1 a0_6 a3 a2 a0_4 a0_5 0 0 0 0 0 0 0 0 0 0 0 0) (0, 0) _ (hS.get 2 rfl) ((hBw22_w21.block g9 (blk_lt hbxw21)).trans hbxw21) Try.underlying34 rfl (by kernel_rfl) (Vals.at (hS.get 0 rfl) .nil))) hS.nodef ⟨rfl, hBw22_w⟩
/-! ### carillonlaw00_Place: function 11 -/
def carillonlaw00_Place.f (a0 : Int) (a1 : Int) : Option (Int) := if a1 = 0 then (none) else (if (Int.tmod a0 a1) < 0 then (some (wrap64 ((Int.tmod a0 a1) + a1))) else (some (Int.tmod a0 a1)))
set_option maxHeartbeats 8000000 in
set_option maxRecDepth 100000 in
theorem carillonlaw00_Place.calls (a0 : Int) (a1 : Int) (r : Int) (w : World) (h : carillonlaw00_Place.f a0 a1 = some r) :
    Calls Try.prog 11 #[.int .i64 a0, .int .i64 a1] w fun e w' => e = .returned (.int .i64 r) ∧ Drawn0 w w' := by
  have H : (if a1 = 0 then (none) else (if (Int.tmod a0 a1) < 0 then (some (wrap64 ((Int.tmod a0 a1) + a1))) else (some (Int.tmod a0 a1)))) = some r := h
  clear h
  by_cases c3 : a1 = 0
  · rw [if_pos c3] at H
    exact absurd H (by simp)
  · rw [if_neg c3] at H
    have c3b0 : (a1 == 0) = false := beq_eq_false_iff_ne.mpr c3
    have c3b1 : (a1 != 0) = true := bne_iff_ne.mpr c3
    by_cases c4 : (Int.tmod a0 a1) < 0
    · rw [if_pos c4] at H
      have c4b0 : decide ((Int.tmod a0 a1) < 0) = true := decide_eq_true c4
      clear c4
      obtain rfl := Option.some.inj H
      go_enter Try.func11, Try.ntmps11
      go_wp2
      all_goals
        go_ret
        exact ⟨by first | rfl | (simp; done) | (simp [*]; done), by repeat (first | exact Drawn0.refl _ | apply Drawn0.step)⟩
    · rw [if_neg c4] at H
      have c4b0 : decide ((Int.tmod a0 a1) < 0) = false := decide_eq_false c4
      clear c4
      obtain rfl := Option.some.inj H
      go_enter Try.func11, Try.ntmps11
      go_wp2
      all_goals
        go_ret
        exact ⟨by first | rfl | (simp; done) | (simp [*]; done), by repeat (first | exact Drawn0.refl _ | apply Drawn0.step)⟩
/-! ### delay_Exchange_Request: function 12: by our own printer -/
def delay_Exchange_Request.f (a0_0 a0_1 a0_2 a0_3 a0_4 : Int) (a0_5 a0_6 : Bool) (a1 a2 : Int) : Option (Int × Int × Int × Int × Int × Int × Int × Int × Int × Int × Int × Int × Int × Int × Int × Int × Int × Int × Int × Int × Int × Int × Int × Int × Int × Int × Int × Int × Bool × Bool) := some (1, a0_2, 0, 0, a0_0, a0_1, Go.bits .and .i64 a1 65535, 127, 0, 0, 0, 0, 0, 0, 0, 0, 0, 0, 0, 0, 0, 0, 0, a0_0, a0_1, a0_2, Go.bits .and .i64 a1 65535, 0, true, false)
abbrev delay_Exchange_Request.c0 (x0 x1 x2 x3 x4 x5 x6 x7 x8 x9 x10 x11 x12 x13 x14 x15 x16 x17 x18 x19 x20 x21 x22 : Int) : Array Value := #[.int .i64 x0, .int .i64 x1, .int .i64 x2, .int .i64 x3, .int .u64 x4, .int .i64 x5, .int .i64 x6, .int .i64 x7, .int .i64 x8, .int .u64 x9, .int .i64 x10, .int .i64 x11, .int .i64 x12, .int .i64 x13, .int .i64 x14, .int .i64 x15, .int .i64 x16, .int .u64 x17, .int .i64 x18, .int .i64 x19, .int .i64 x20, .int .i64 x21, .int .i64 x22]
abbrev delay_Exchange_Request.c1 (x0 x1 x2 x3 x4 : Int) (x5 x6 : Bool) : Array Value := #[.int .u64 x0, .int .i64 x1, .int .i64 x2, .int .i64 x3, .int .i64 x4, .bool x5, .bool x6]
abbrev delay_Exchange_Request.v2 (x0 x1 x2 x3 x4 x5 x6 x7 x8 x9 x10 x11 x12 x13 x14 x15 x16 x17 x18 x19 x20 x21 x22 : Int) : Value := .agg #[.int .i64 x0, .int .i64 x1, .int .i64 x2, .int .i64 x3, .int .u64 x4, .int .i64 x5, .int .i64 x6, .int .i64 x7, .int .i64 x8, .int .u64 x9, .int .i64 x10, .int .i64 x11, .int .i64 x12, .int .i64 x13, .int .i64 x14, .int .i64 x15, .int .i64 x16, .int .u64 x17, .int .i64 x18, .int .i64 x19, .int .i64 x20, .int .i64 x21, .int .i64 x22]
open Go.Proofs.Ytpfjpfbhgeoadaa.E in
set_option maxHeartbeats 60000000 in
set_option maxRecDepth 100000 in
theorem delay_Exchange_Request.calls (g0 : Nat) (a0_0 a0_1 a0_2 a0_3 a0_4 : Int) (a0_5 a0_6 : Bool) (a1 a2 r1 r2 r3 r4 r5 r6 r7 r8 r9 r10 r11 r12 r13 r14 r15 r16 r17 r18 r19 r20 r21 r22 r23 r24 r25 r26 r27 r28 : Int) (r29 r30 : Bool) (w : World) (HP0 : w.heap[g0]? = some (.cells #[.int .u64 a0_0, .int .i64 a0_1, .int .i64 a0_2, .int .i64 a0_3, .int .i64 a0_4, .bool a0_5, .bool a0_6] 54 (0, 0))) (h : delay_Exchange_Request.f a0_0 a0_1 a0_2 a0_3 a0_4 a0_5 a0_6 a1 a2 = some (r1, r2, r3, r4, r5, r6, r7, r8, r9, r10, r11, r12, r13, r14, r15, r16, r17, r18, r19, r20, r21, r22, r23, r24, r25, r26, r27, r28, r29, r30)) :
    Calls Try.prog 12 #[.pointer (some ⟨g0, 0, none⟩), .int .i64 a1, .int .i64 a2] w fun e w' => e = .returned (.agg #[.int .i64 r1, .int .i64 r2, .int .i64 r3, .int .i64 r4, .int .u64 r5, .int .i64 r6, .int .i64 r7, .int .i64 r8, .int .i64 r9, .int .u64 r10, .int .i64 r11, .int .i64 r12, .int .i64 r13, .int .i64 r14, .int .i64 r15, .int .i64 r16, .int .i64 r17, .int .u64 r18, .int .i64 r19, .int .i64 r20, .int .i64 r21, .int .i64 r22, .int .i64 r23]) ∧ w'.heap[g0]? = some (.cells #[.int .u64 r24, .int .i64 r25, .int .i64 r26, .int .i64 r27, .int .i64 r28, .bool r29, .bool r30] 54 (0, 0)) ∧ Tch g0 w w' := by
  have H := h
  clear h
  unfold delay_Exchange_Request.f at H
  simp only [Option.some.injEq, Prod.mk.injEq] at H
  obtain ⟨rfl, rfl, rfl, rfl, rfl, rfl, rfl, rfl, rfl, rfl, rfl, rfl, rfl, rfl, rfl, rfl, rfl, rfl, rfl, rfl, rfl, rfl, rfl, rfl, rfl, rfl, rfl, rfl, rfl, rfl⟩ := H
  refine calls_of_wp (fn := Try.f12) (by kernel_rfl) rfl ?_
  have hS := St.enter #[.pointer (some ⟨g0, 0, none⟩), .int .i64 a1, .int .i64 a2] 27 (by simp) [(0, .pointer (some ⟨g0, 0, none⟩)), (1, .int .i64 a1), (2, .int .i64 a2)] (by simp)
  have HB0 := Below.refl w.heap.size w
  refine wp_seq_k (fun K1 hK1 => ?_)
  refine reg_seq (N := 27) (bs := [(0, .pointer (some ⟨g0, 0, none⟩)), (1, .int .i64 a1), (2, .int .i64 a2)]) (I := fun x => Below w.heap.size w x) (ps := [IsB (delay_Exchange_Request.c0 0 0 0 0 0 0 0 0 0 0 0 0 0 0 0 0 0 0 0 0 0 0 0) 34 w.heap.size]) (by kernel_rfl) ?_ ?_ rfl hS HB0 ?_ ?_
  · exact fun x y hI hb => below_step hI hb
  · exact .cons (Stays.b _ _ _) (.nil)
  · refine .on rfl (fun a w hS hI hp => does_var (x_alloc rfl (by kernel_rfl)) (hI).size) ?_
    exact .nil
  clear hS
  intro at2 w3 hS hI hp
  have hBw3_w := hI
  replace hS := ((hS.nil).cons (hS.get 1 rfl)).cons (hS.get 0 rfl)
  obtain ⟨g4, hv6, hgeg4, hbxg4⟩ := (show IsB _ 34 _ (sl _ 6) _ from hp 0 (by decide))
  have hne5 : g4 ≠ g0 := Nat.ne_of_gt (Nat.lt_of_lt_of_le (blk_lt ((HB0.block g0 (blk_lt HP0)).trans HP0)) hgeg4)
  have hBw3_w3 := Below.refl w3.heap.size w3
  have hS := hS.cons hv6
  clear hp hI hv6
  refine hK1 _ _ ?_
  (try clear hK1 K1)
  refine wp_seq_k (fun K6 hK6 => ?_)
  refine reg_seq_tail 6 (N := 27) (bs := [(6, .pointer (some ⟨g4, 0, none⟩)), (0, .pointer (some ⟨g0, 0, none⟩)), (1, .int .i64 a1)]) (I := fun x => Below w.heap.size w x ∧ Below w3.heap.size w3 x) (ps := [VP g0 0, VI a1, VI (Go.bits .and .i64 a1 65535), IsV (.agg #[.int .i64 (Go.bits .and .i64 a1 65535), .int .i64 0, .bool true, .bool false]), VP g0 0, VP g0 3]) (by kernel_rfl) ?_ ?_ rfl hS ⟨hBw3_w, hBw3_w3⟩ ?_ ?_
  · exact fun x y hI hb => ⟨below_step hI.1 hb, below_step hI.2 hb⟩
  · exact .v (.v (.v (.v (.v (.v (.nil))))))
  · refine .ms 1 rfl rfl rfl ?_
    refine .ms 2 rfl rfl rfl ?_
    refine .on rfl (fun a w hS hI hp => does_val (x_bin rfl (hp.V 1 rfl rfl) (rfl) (b_and _ _ _ _ _ _)) rfl) ?_
    refine .on rfl (fun a w hS hI hp => does_val (x_build (vs := [(0, .int .i64 (Go.bits .and .i64 a1 65535)), (2, .bool true)]) rfl (by rw [Array.toList_map]; exact (show [(0, a.eval (.tmp 9)), (2, a.eval (.const (.bool true)))] = _ from (li_cons (hp.V 2 rfl rfl) (li_cons (rfl) rfl)))) (by kernel_rfl)) rfl) ?_
    refine .on rfl (fun a w hS hI hp => does_val (x_nilck rfl (hp.V 0 rfl rfl)) rfl) ?_
    refine .on rfl (fun a w hS hI hp => does_val (x_fieldE (b := 0) rfl (hp.V 4 rfl rfl) Try.underlying54 rfl rfl (by kernel_rfl)) rfl) ?_
    exact .nil
  clear hS
  intro at7 w8 hS hI hp
  have hBw8_w := hI.1
  have hBw8_w3 := hI.2
  replace hS := ((hS.nil).cons (hS.get 1 rfl)).cons (hS.get 0 rfl)
  have hv10 : sl _ 10 = .agg #[.int .i64 (Go.bits .and .i64 a1 65535), .int .i64 0, .bool true, .bool false] := hp 3 (by decide)
  have hv12 : sl _ 12 = .pointer (some ⟨g0, 3, none⟩) := hp 5 (by decide)
  have hBw8_w8 := Below.refl w8.heap.size w8
  have hS := hS.cons hv10
  have hS := hS.cons hv12
  clear hp hI hv10 hv12
  show wpList _ _ _ [_] _ _
  refine list_step rfl (does_store (g := g0) (off := 3) (v := .agg #[.int .i64 (Go.bits .and .i64 a1 65535), .int .i64 0, .bool true, .bool false]) (new := (delay_Exchange_Request.c1 a0_0 a0_1 a0_2 (Go.bits .and .i64 a1 65535) 0 true false)) rfl (hS.get 0 rfl) (hS.get 1 rfl) ((hBw8_w.block g0 (blk_lt HP0)).trans HP0) (by kernel_rfl) (by kernel_rfl) (by kernel_rfl) (by kernel_rfl)) ?_
  rintro vw9 w9 ⟨rfl, hbxw9, hT⟩
  have hn10 := hT.blk ((hBw8_w3.block g4 (blk_lt hbxg4)).trans hbxg4) hne5
  have hTw9 := (Tch.more (Tch.refl _ _) hBw8_w).trans hT
  have hBw9_w9 := Below.refl w9.heap.size w9
  clear hT
  refine wpList_nil ?_
  refine hK6 _ _ ?_
  (try clear hK6 K6)
  refine wp_seq_k (fun K11 hK11 => ?_)
  refine reg_any_tail 14 [0, 1, 3, 7, 0, 16, 48, 112, 0, 256, 768, 1792, 3840, 8191, 16383] (N := 27) (bs := [(12, .pointer (some ⟨g0, 3, none⟩)), (10, .agg #[.int .i64 (Go.bits .and .i64 a1 65535), .int .i64 0, .bool true, .bool false]), (6, .pointer (some ⟨g4, 0, none⟩)), (0, .pointer (some ⟨g0, 0, none⟩))]) (I := fun x => Below w9.heap.size w9 x) (ps := [VP g0 0, VP g0 0, VP g0 2, VI a0_2, VP g0 0, VP g0 0, VP g0 0, IsV (.agg #[.int .u64 a0_0, .int .i64 a0_1]), VP g0 0, VP g0 0, VP g0 3, VP g0 3, VI (Go.bits .and .i64 a1 65535), IsV ((delay_Exchange_Request.v2 1 a0_2 0 0 a0_0 a0_1 (Go.bits .and .i64 a1 65535) 127 0 0 0 0 0 0 0 0 0 0 0 0 0 0 0))]) (by kernel_rfl) (by kernel_rfl) (by kernel_rfl) (by decide) ?_ ?_ rfl hS hBw9_w9 ?_ ?_
  · exact fun x y hI hb => below_step hI hb
  · exact .v (.v (.v (.v (.v (.v (.v (.v (.v (.v (.v (.v (.v (.v (.nil))))))))))))))
  · refine .ms 3 rfl rfl rfl ?_
    refine .on rfl (fun a w hS hI hp => does_val (x_nilck rfl (hp.V 0 rfl rfl)) rfl) ?_
    refine .on rfl (fun a w hS hI hp => does_val (x_fieldE (b := 0) rfl (hp.V 1 rfl rfl) Try.underlying54 rfl rfl (by kernel_rfl)) rfl) ?_
    refine .on rfl (fun a w hS hI hp => does_val (x_load1 (d := .int .i64) rfl (hp.V 2 rfl rfl) (by kernel_rfl) rfl ((blk_cell (((hI).block g0 (blk_lt hbxw9)).trans hbxw9) 2).trans rfl)) rfl) ?_
    refine .ms 3 rfl rfl rfl ?_
    refine .on rfl (fun a w hS hI hp => does_val (x_nilck rfl (hp.V 4 rfl rfl)) rfl) ?_
    refine .on rfl (fun a w hS hI hp => does_val (x_fieldE (b := 0) rfl (hp.V 5 rfl rfl) Try.underlying54 rfl rfl (by kernel_rfl)) rfl) ?_
    refine .on rfl (fun a w hS hI hp => does_loadmid (cs := [.int .u64 a0_0, .int .i64 a0_1]) rfl (hp.V 6 rfl rfl) (((hI).block g0 (blk_lt hbxw9)).trans hbxw9) (by kernel_rfl) Try.underlying24 rfl (by kernel_rfl) rfl) ?_
    refine .ms 3 rfl rfl rfl ?_
    refine .on rfl (fun a w hS hI hp => does_val (x_nilck rfl (hp.V 8 rfl rfl)) rfl) ?_
    refine .on rfl (fun a w hS hI hp => does_val (x_fieldE (b := 0) rfl (hp.V 9 rfl rfl) Try.underlying54 rfl rfl (by kernel_rfl)) rfl) ?_
    refine .on rfl (fun a w hS hI hp => does_val (x_fieldE (b := 3) rfl (hp.V 10 rfl rfl) Try.underlying52 rfl rfl (by kernel_rfl)) rfl) ?_
    refine .on rfl (fun a w hS hI hp => does_val (x_load1 (d := .int .i64) rfl (hp.V 11 rfl rfl) (by kernel_rfl) rfl ((blk_cell (((hI).block g0 (blk_lt hbxw9)).trans hbxw9) 3).trans rfl)) rfl) ?_
    refine .on rfl (fun a w hS hI hp => does_val (x_build (vs := [(0, .int .i64 1), (1, .int .i64 a0_2), (4, .agg #[.int .u64 a0_0, .int .i64 a0_1]), (5, .int .i64 (Go.bits .and .i64 a1 65535)), (6, .int .i64 127)]) rfl (by rw [Array.toList_map]; exact (show [(0, a.eval (.const (.int .i64 1))), (1, a.eval (.tmp 16)), (4, a.eval (.tmp 20)), (5, a.eval (.tmp 25)), (6, a.eval (.const (.int .i64 127)))] = _ from (li_cons (rfl) (li_cons (hp.V 3 rfl rfl) (li_cons (hp.V 7 rfl rfl) (li_cons (hp.V 12 rfl rfl) (li_cons (rfl) rfl))))))) (by kernel_rfl)) rfl) ?_
    exact .nil
  clear hS
  intro at12 w13 hS hI hp
  have hBw13_w9 := hI
  replace hS := (hS.nil).cons (hS.get 2 rfl)
  have hv26 : sl _ 26 = (delay_Exchange_Request.v2 1 a0_2 0 0 a0_0 a0_1 (Go.bits .and .i64 a1 65535) 127 0 0 0 0 0 0 0 0 0 0 0 0 0 0 0) := hp 13 (by decide)
  have hBw13_w13 := Below.refl w13.heap.size w13
  have hS := hS.cons hv26
  clear hp hI hv26
  show wpList _ _ _ [_] _ _
  refine list_step rfl (does_storeAll (g := g4) (cs := (delay_Exchange_Request.c0 1 a0_2 0 0 a0_0 a0_1 (Go.bits .and .i64 a1 65535) 127 0 0 0 0 0 0 0 0 0 0 0 0 0 0 0)) rfl (hS.get 1 rfl) (hS.get 0 rfl) ((hBw13_w9.block g4 (blk_lt hn10)).trans hn10) (by kernel_rfl) (by kernel_rfl) (by kernel_rfl)) ?_
  rintro vw14 w14 ⟨rfl, hbxw14, hT⟩
  have hn15 := hT.blk ((hBw13_w9.block g0 (blk_lt hbxw9)).trans hbxw9) (Ne.symm hne5)
  have hTw14 := (Tch.more hTw9 hBw13_w9).far hT (Nat.le_trans (Tch.more (Tch.refl g0 _) HB0).size hgeg4)
  have hBw14_w14 := Below.refl w14.heap.size w14
  clear hT
  refine wpList_nil ?_
  refine hK11 _ _ ?_
  (try clear hK11 K11)
  refine wp_ret ?_
  (try simp only [Exit.then, Exit.inBlock, Exit.jump, Exit.noGoto])
  exact bodyPost_ret (v := (delay_Exchange_Request.v2 1 a0_2 0 0 a0_0 a0_1 (Go.bits .and .i64 a1 65535) 127 0 0 0 0 0 0 0 0 0 0 0 0 0 0 0)) (results_single rfl (Vals.cell g4 34 (delay_Exchange_Request.c0 1 a0_2 0 0 a0_0 a0_1 (Go.bits .and .i64 a1 65535) 127 0 0 0 0 0 0 0 0 0 0 0 0 0 0 0) (0, 0) _ (hS.get 1 rfl) ((hBw14_w14.block g4 (blk_lt hbxw14)).trans hbxw14) Try.underlying34 rfl (by kernel_rfl) .nil)) hS.nodef ⟨rfl, ((hBw14_w14.block g0 (blk_lt hn15)).trans hn15), (Tch.more hTw14 hBw14_w14)⟩
/-! ### carillonref16_Mod: function 23 -/
def carillonref16_Mod.f (a0 : Int) : Option (Int) := some (Go.bits .and .i64 a0 65535)
set_option maxHeartbeats 8000000 in
set_option maxRecDepth 100000 in
theorem carillonref16_Mod.calls (a0 : Int) (r : Int) (w : World) (h : carillonref16_Mod.f a0 = some r) :
    Calls Try.prog 23 #[.int .i64 a0] w fun e w' => e = .returned (.int .i64 r) ∧ Drawn0 w w' := by
  have H : (some (Go.bits .and .i64 a0 65535)) = some r := h
  clear h
  obtain rfl := Option.some.inj H
  go_enter Try.func23, Try.ntmps23
  go_wp2
  all_goals
    go_ret
    exact ⟨by first | rfl | (simp; done) | (simp [*]; done), by repeat (first | exact Drawn0.refl _ | apply Drawn0.step)⟩
/-! ### carillonref17_X_Request: function 13: by our own printer -/
def carillonref17_X_Request.f (a0_0 a0_1 a0_2 : Int) (a0_3 a0_4 : Bool) (a0_5 a0_6 a1 : Int) : Option (Int × Int × Int × Int × Int × Int × Int × Int × Int × Int × Int × Int × Int × Int × Int × Int × Int × Int × Int × Int × Int × Int × Int × Int × Int × Int × Bool × Bool × Int × Int) := (carillonref16_Mod.f a1).bind fun t17 => (some (1, a0_2, 0, 0, a0_0, a0_1, t17, 127, 0, 0, 0, 0, 0, 0, 0, 0, 0, 0, 0, 0, 0, 0, 0, a0_0, a0_1, a0_2, true, false, t17, a0_6))
abbrev carillonref17_X_Request.c0 (x0 x1 x2 x3 x4 x5 x6 x7 x8 x9 x10 x11 x12 x13 x14 x15 x16 x17 x18 x19 x20 x21 x22 : Int) : Array Value := #[.int .i64 x0, .int .i64 x1, .int .i64 x2, .int .i64 x3, .int .u64 x4, .int .i64 x5, .int .i64 x6, .int .i64 x7, .int .i64 x8, .int .u64 x9, .int .i64 x10, .int .i64 x11, .int .i64 x12, .int .i64 x13, .int .i64 x14, .int .i64 x15, .int .i64 x16, .int .u64 x17, .int .i64 x18, .int .i64 x19, .int .i64 x20, .int .i64 x21, .int .i64 x22]
abbrev carillonref17_X_Request.c1 (x0 x1 x2 : Int) (x3 x4 : Bool) (x5 x6 : Int) : Array Value := #[.int .u64 x0, .int .i64 x1, .int .i64 x2, .bool x3, .bool x4, .int .i64 x5, .int .i64 x6]
abbrev carillonref17_X_Request.v2 (x0 x1 x2 x3 x4 x5 x6 x7 x8 x9 x10 x11 x12 x13 x14 x15 x16 x17 x18 x19 x20 x21 x22 : Int) : Value := .agg #[.int .i64 x0, .int .i64 x1, .int .i64 x2, .int .i64 x3, .int .u64 x4, .int .i64 x5, .int .i64 x6, .int .i64 x7, .int .i64 x8, .int .u64 x9, .int .i64 x10, .int .i64 x11, .int .i64 x12, .int .i64 x13, .int .i64 x14, .int .i64 x15, .int .i64 x16, .int .u64 x17, .int .i64 x18, .int .i64 x19, .int .i64 x20, .int .i64 x21, .int .i64 x22]
open Go.Proofs.Ytpfjpfbhgeoadaa.E in
set_option maxHeartbeats 60000000 in
set_option maxRecDepth 100000 in
theorem carillonref17_X_Request.calls (g0 : Nat) (a0_0 a0_1 a0_2 : Int) (a0_3 a0_4 : Bool) (a0_5 a0_6 a1 r1 r2 r3 r4 r5 r6 r7 r8 r9 r10 r11 r12 r13 r14 r15 r16 r17 r18 r19 r20 r21 r22 r23 r24 r25 r26 : Int) (r27 r28 : Bool) (r29 r30 : Int) (w : World) (HP0 : w.heap[g0]? = some (.cells #[.int .u64 a0_0, .int .i64 a0_1, .int .i64 a0_2, .bool a0_3, .bool a0_4, .int .i64 a0_5, .int .i64 a0_6] 30 (0, 0))) (h : carillonref17_X_Request.f a0_0 a0_1 a0_2 a0_3 a0_4 a0_5 a0_6 a1 = some (r1, r2, r3, r4, r5, r6, r7, r8, r9, r10, r11, r12, r13, r14, r15, r16, r17, r18, r19, r20, r21, r22, r23, r24, r25, r26, r27, r28, r29, r30)) :
    Calls Try.prog 13 #[.pointer (some ⟨g0, 0, none⟩), .int .i64 a1] w fun e w' => e = .returned (.agg #[.int .i64 r1, .int .i64 r2, .int .i64 r3, .int .i64 r4, .int .u64 r5, .int .i64 r6, .int .i64 r7, .int .i64 r8, .int .i64 r9, .int .u64 r10, .int .i64 r11, .int .i64 r12, .int .i64 r13, .int .i64 r14, .int .i64 r15, .int .i64 r16, .int .i64 r17, .int .u64 r18, .int .i64 r19, .int .i64 r20, .int .i64 r21, .int .i64 r22, .int .i64 r23]) ∧ w'.heap[g0]? = some (.cells #[.int .u64 r24, .int .i64 r25, .int .i64 r26, .bool r27, .bool r28, .int .i64 r29, .int .i64 r30] 30 (0, 0)) ∧ Tch g0 w w' := by
  have H := h
  clear h
  unfold carillonref17_X_Request.f at H
  obtain ⟨t17, At17, H⟩ := Option.bind_eq_some_iff.mp H
  simp only [Option.some.injEq, Prod.mk.injEq] at H
  obtain ⟨rfl, rfl, rfl, rfl, rfl, rfl, rfl, rfl, rfl, rfl, rfl, rfl, rfl, rfl, rfl, rfl, rfl, rfl, rfl, rfl, rfl, rfl, rfl, rfl, rfl, rfl, rfl, rfl, rfl, rfl⟩ := H
  refine calls_of_wp (fn := Try.f13) (by kernel_rfl) rfl ?_
  have hS := St.enter #[.pointer (some ⟨g0, 0, none⟩), .int .i64 a1] 29 (by simp) [(0, .pointer (some ⟨g0, 0, none⟩)), (1, .int .i64 a1)] (by simp)
  have HB0 := Below.refl w.heap.size w
  refine wp_seq_k (fun K1 hK1 => ?_)
  refine reg_seq (N := 29) (bs := [(0, .pointer (some ⟨g0, 0, none⟩)), (1, .int .i64 a1)]) (I := fun x => Below w.heap.size w x) (ps := [IsB (carillonref17_X_Request.c0 0 0 0 0 0 0 0 0 0 0 0 0 0 0 0 0 0 0 0 0 0 0 0) 34 w.heap.size]) (by kernel_rfl) ?_ ?_ rfl hS HB0 ?_ ?_
  · exact fun x y hI hb => below_step hI hb
  · exact .cons (Stays.b _ _ _) (.nil)
  · refine .on rfl (fun a w hS hI hp => does_var (x_alloc rfl (by kernel_rfl)) (hI).size) ?_
    exact .nil
  clear hS
  intro at2 w3 hS hI hp
  have hBw3_w := hI
  obtain ⟨g4, hv4, hgeg4, hbxg4⟩ := (show IsB _ 34 _ (sl _ 4) _ from hp 0 (by decide))
  have hne5 : g4 ≠ g0 := Nat.ne_of_gt (Nat.lt_of_lt_of_le (blk_lt ((HB0.block g0 (blk_lt HP0)).trans HP0)) hgeg4)
  have hBw3_w3 := Below.refl w3.heap.size w3
  have hS := hS.cons hv4
  clear hp hI hv4
  refine hK1 _ _ ?_
  (try clear hK1 K1)
  refine wp_seq_k (fun K6 hK6 => ?_)
  refine reg_seq_tail 3 (N := 29) (bs := [(4, .pointer (some ⟨g4, 0, none⟩)), (0, .pointer (some ⟨g0, 0, none⟩)), (1, .int .i64 a1)]) (I := fun x => Below w.heap.size w x ∧ Below w3.heap.size w3 x) (ps := [VP g0 0, VP g0 0, VP g0 3]) (by kernel_rfl) ?_ ?_ rfl hS ⟨hBw3_w, hBw3_w3⟩ ?_ ?_
  · exact fun x y hI hb => ⟨below_step hI.1 hb, below_step hI.2 hb⟩
  · exact .v (.v (.v (.nil)))
  · refine .ms 1 rfl rfl rfl ?_
    refine .on rfl (fun a w hS hI hp => does_val (x_nilck rfl (hp.V 0 rfl rfl)) rfl) ?_
    refine .on rfl (fun a w hS hI hp => does_val (x_fieldE (b := 0) rfl (hp.V 1 rfl rfl) Try.underlying30 rfl rfl (by kernel_rfl)) rfl) ?_
    exact .nil
  clear hS
  intro at7 w8 hS hI hp
  have hBw8_w := hI.1
  have hBw8_w3 := hI.2
  have hv7 : sl _ 7 = .pointer (some ⟨g0, 3, none⟩) := hp 2 (by decide)
  have hBw8_w8 := Below.refl w8.heap.size w8
  have hS := hS.cons hv7
  clear hp hI hv7
  show wpList _ _ _ [_] _ _
  refine list_step rfl (does_store (g := g0) (off := 3) (v := .bool true) (new := (carillonref17_X_Request.c1 a0_0 a0_1 a0_2 true a0_4 a0_5 a0_6)) rfl (hS.get 0 rfl) (rfl) ((hBw8_w.block g0 (blk_lt HP0)).trans HP0) (by kernel_rfl) (by kernel_rfl) (by kernel_rfl) (by kernel_rfl)) ?_
  rintro vw9 w9 ⟨rfl, hbxw9, hT⟩
  have hn10 := hT.blk ((hBw8_w3.block g4 (blk_lt hbxg4)).trans hbxg4) hne5
  have hTw9 := (Tch.more (Tch.refl _ _) hBw8_w).trans hT
  have hBw9_w9 := Below.refl w9.heap.size w9
  clear hT
  refine wpList_nil ?_
  refine hK6 _ _ ?_
  (try clear hK6 K6)
  refine wp_seq_k (fun K11 hK11 => ?_)
  refine reg_seq_tail 3 (N := 29) (bs := [(7, .pointer (some ⟨g0, 3, none⟩)), (4, .pointer (some ⟨g4, 0, none⟩)), (0, .pointer (some ⟨g0, 0, none⟩)), (1, .int .i64 a1)]) (I := fun x => Below w9.heap.size w9 x) (ps := [VP g0 0, VP g0 0, VP g0 4]) (by kernel_rfl) ?_ ?_ rfl hS hBw9_w9 ?_ ?_
  · exact fun x y hI hb => below_step hI hb
  · exact .v (.v (.v (.nil)))
  · refine .ms 2 rfl rfl rfl ?_
    refine .on rfl (fun a w hS hI hp => does_val (x_nilck rfl (hp.V 0 rfl rfl)) rfl) ?_
    refine .on rfl (fun a w hS hI hp => does_val (x_fieldE (b := 0) rfl (hp.V 1 rfl rfl) Try.underlying30 rfl rfl (by kernel_rfl)) rfl) ?_
    exact .nil
  clear hS
  intro at12 w13 hS hI hp
  have hBw13_w9 := hI
  replace hS := (((hS.nil).cons (hS.get 3 rfl)).cons (hS.get 2 rfl)).cons (hS.get 1 rfl)
  have hv10 : sl _ 10 = .pointer (some ⟨g0, 4, none⟩) := hp 2 (by decide)
  have hBw13_w13 := Below.refl w13.heap.size w13
  have hS := hS.cons hv10
  clear hp hI hv10
  show wpList _ _ _ [_] _ _
  refine list_step rfl (does_store (g := g0) (off := 4) (v := .bool false) (new := (carillonref17_X_Request.c1 a0_0 a0_1 a0_2 true false a0_5 a0_6)) rfl (hS.get 0 rfl) (rfl) ((hBw13_w9.block g0 (blk_lt hbxw9)).trans hbxw9) (by kernel_rfl) (by kernel_rfl) (by kernel_rfl) (by kernel_rfl)) ?_
  rintro vw14 w14 ⟨rfl, hbxw14, hT⟩
  have hn15 := hT.blk ((hBw13_w9.block g4 (blk_lt hn10)).trans hn10) hne5
  have hTw14 := (Tch.more hTw9 hBw13_w9).trans hT
  have hBw14_w14 := Below.refl w14.heap.size w14
  clear hT
  refine wpList_nil ?_
  refine hK11 _ _ ?_
  (try clear hK11 K11)
  refine wp_seq_k (fun K16 hK16 => ?_)
  refine reg_seq_tail 5 (N := 29) (bs := [(10, .pointer (some ⟨g0, 4, none⟩)), (4, .pointer (some ⟨g4, 0, none⟩)), (0, .pointer (some ⟨g0, 0, none⟩)), (1, .int .i64 a1)]) (I := fun x => Below w14.heap.size w14 x) (ps := [VP g0 0, VI a1, VI t17, VP g0 0, VP g0 5]) (by kernel_rfl) ?_ ?_ rfl hS hBw14_w14 ?_ ?_
  · exact fun x y hI hb => below_step hI hb
  · exact .v (.v (.v (.v (.v (.nil)))))
  · refine .ms 2 rfl rfl rfl ?_
    refine .ms 3 rfl rfl rfl ?_
    refine .on rfl (fun a w hS hI hp => does_call (by kernel_rfl) (ar1 (hp.V 1 rfl rfl)) ((carillonref16_Mod.calls a1 t17 _  At17).mono fun _ _ h => ⟨_, h.1, h.2.below, rfl⟩)) ?_
    refine .on rfl (fun a w hS hI hp => does_val (x_nilck rfl (hp.V 0 rfl rfl)) rfl) ?_
    refine .on rfl (fun a w hS hI hp => does_val (x_fieldE (b := 0) rfl (hp.V 3 rfl rfl) Try.underlying30 rfl rfl (by kernel_rfl)) rfl) ?_
    exact .nil
  clear hS
  intro at18 w19 hS hI hp
  have hBw19_w14 := hI
  replace hS := ((hS.nil).cons (hS.get 2 rfl)).cons (hS.get 1 rfl)
  have hv13 : sl _ 13 = .int .i64 t17 := hp 2 (by decide)
  have hv15 : sl _ 15 = .pointer (some ⟨g0, 5, none⟩) := hp 4 (by decide)
  have hBw19_w19 := Below.refl w19.heap.size w19
  have hS := hS.cons hv13
  have hS := hS.cons hv15
  clear hp hI hv13 hv15
  show wpList _ _ _ [_] _ _
  refine list_step rfl (does_store (g := g0) (off := 5) (v := .int .i64 t17) (new := (carillonref17_X_Request.c1 a0_0 a0_1 a0_2 true false t17 a0_6)) rfl (hS.get 0 rfl) (hS.get 1 rfl) ((hBw19_w14.block g0 (blk_lt hbxw14)).trans hbxw14) (by kernel_rfl) (by kernel_rfl) (by kernel_rfl) (by kernel_rfl)) ?_
  rintro vw20 w20 ⟨rfl, hbxw20, hT⟩
  have hn21 := hT.blk ((hBw19_w14.block g4 (blk_lt hn15)).trans hn15) hne5
  have hTw20 := (Tch.more hTw14 hBw19_w14).trans hT
  have hBw20_w20 := Below.refl w20.heap.size w20
  clear hT
  refine wpList_nil ?_
  refine hK16 _ _ ?_
  (try clear hK16 K16)
  refine wp_seq_k (fun K22 hK22 => ?_)
  refine reg_any_tail 13 [0, 1, 3, 7, 0, 16, 48, 112, 0, 256, 768, 1792, 4095, 8191] (N := 29) (bs := [(15, .pointer (some ⟨g0, 5, none⟩)), (13, .int .i64 t17), (4, .pointer (some ⟨g4, 0, none⟩)), (0, .pointer (some ⟨g0, 0, none⟩))]) (I := fun x => Below w20.heap.size w20 x) (ps := [VP g0 0, VP g0 0, VP g0 2, VI a0_2, VP g0 0, VP g0 0, VP g0 0, IsV (.agg #[.int .u64 a0_0, .int .i64 a0_1]), VP g0 0, VP g0 0, VP g0 5, VI t17, IsV ((carillonref17_X_Request.v2 1 a0_2 0 0 a0_0 a0_1 t17 127 0 0 0 0 0 0 0 0 0 0 0 0 0 0 0))]) (by kernel_rfl) (by kernel_rfl) (by kernel_rfl) (by decide) ?_ ?_ rfl hS hBw20_w20 ?_ ?_
  · exact fun x y hI hb => below_step hI hb
  · exact .v (.v (.v (.v (.v (.v (.v (.v (.v (.v (.v (.v (.v (.nil)))))))))))))
  · refine .ms 3 rfl rfl rfl ?_
    refine .on rfl (fun a w hS hI hp => does_val (x_nilck rfl (hp.V 0 rfl rfl)) rfl) ?_
    refine .on rfl (fun a w hS hI hp => does_val (x_fieldE (b := 0) rfl (hp.V 1 rfl rfl) Try.underlying30 rfl rfl (by kernel_rfl)) rfl) ?_
    refine .on rfl (fun a w hS hI hp => does_val (x_load1 (d := .int .i64) rfl (hp.V 2 rfl rfl) (by kernel_rfl) rfl ((blk_cell (((hI).block g0 (blk_lt hbxw20)).trans hbxw20) 2).trans rfl)) rfl) ?_
    refine .ms 3 rfl rfl rfl ?_
    refine .on rfl (fun a w hS hI hp => does_val (x_nilck rfl (hp.V 4 rfl rfl)) rfl) ?_
    refine .on rfl (fun a w hS hI hp => does_val (x_fieldE (b := 0) rfl (hp.V 5 rfl rfl) Try.underlying30 rfl rfl (by kernel_rfl)) rfl) ?_
    refine .on rfl (fun a w hS hI hp => does_loadmid (cs := [.int .u64 a0_0, .int .i64 a0_1]) rfl (hp.V 6 rfl rfl) (((hI).block g0 (blk_lt hbxw20)).trans hbxw20) (by kernel_rfl) Try.underlying24 rfl (by kernel_rfl) rfl) ?_
    refine .ms 3 rfl rfl rfl ?_
    refine .on rfl (fun a w hS hI hp => does_val (x_nilck rfl (hp.V 8 rfl rfl)) rfl) ?_
    refine .on rfl (fun a w hS hI hp => does_val (x_fieldE (b := 0) rfl (hp.V 9 rfl rfl) Try.underlying30 rfl rfl (by kernel_rfl)) rfl) ?_
    refine .on rfl (fun a w hS hI hp => does_val (x_load1 (d := .int .i64) rfl (hp.V 10 rfl rfl) (by kernel_rfl) rfl ((blk_cell (((hI).block g0 (blk_lt hbxw20)).trans hbxw20) 5).trans rfl)) rfl) ?_
    refine .on rfl (fun a w hS hI hp => does_val (x_build (vs := [(0, .int .i64 1), (1, .int .i64 a0_2), (4, .agg #[.int .u64 a0_0, .int .i64 a0_1]), (5, .int .i64 t17), (6, .int .i64 127)]) rfl (by rw [Array.toList_map]; exact (show [(0, a.eval (.const (.int .i64 1))), (1, a.eval (.tmp 19)), (4, a.eval (.tmp 23)), (5, a.eval (.tmp 27)), (6, a.eval (.const (.int .i64 127)))] = _ from (li_cons (rfl) (li_cons (hp.V 3 rfl rfl) (li_cons (hp.V 7 rfl rfl) (li_cons (hp.V 11 rfl rfl) (li_cons (rfl) rfl))))))) (by kernel_rfl)) rfl) ?_
    exact .nil
  clear hS
  intro at23 w24 hS hI hp
  have hBw24_w20 := hI
  replace hS := (hS.nil).cons (hS.get 2 rfl)
  have hv28 : sl _ 28 = (carillonref17_X_Request.v2 1 a0_2 0 0 a0_0 a0_1 t17 127 0 0 0 0 0 0 0 0 0 0 0 0 0 0 0) := hp 12 (by decide)
  have hBw24_w24 := Below.refl w24.heap.size w24
  have hS := hS.cons hv28
  clear hp hI hv28
  show wpList _ _ _ [_] _ _
  refine list_step rfl (does_storeAll (g := g4) (cs := (carillonref17_X_Request.c0 1 a0_2 0 0 a0_0 a0_1 t17 127 0 0 0 0 0 0 0 0 0 0 0 0 0 0 0)) rfl (hS.get 1 rfl) (hS.get 0 rfl) ((hBw24_w20.block g4 (blk_lt hn21)).trans hn21) (by kernel_rfl) (by kernel_rfl) (by kernel_rfl)) ?_
  rintro vw25 w25 ⟨rfl, hbxw25, hT⟩
  have hn26 := hT.blk ((hBw24_w20.block g0 (blk_lt hbxw20)).trans hbxw20) (Ne.symm hne5)
  have hTw25 := (Tch.more hTw20 hBw24_w20).far hT (Nat.le_trans (Tch.more (Tch.refl g0 _) HB0).size hgeg4)
  have hBw25_w25 := Below.refl w25.heap.size w25
  clear hT
  refine wpList_nil ?_
  refine hK22 _ _ ?_
  (try clear hK22 K22)
  refine wp_ret ?_
  (try simp only [Exit.then, Exit.inBlock, Exit.jump, Exit.noGoto])
  exact bodyPost_ret (v := (carillonref17_X_Request.v2 1 a0_2 0 0 a0_0 a0_1 t17 127 0 0 0 0 0 0 0 0 0 0 0 0 0 0 0)) (results_single rfl (Vals.cell g4 34 (carillonref17_X_Request.c0 1 a0_2 0 0 a0_0 a0_1 t17 127 0 0 0 0 0 0 0 0 0 0 0 0 0 0 0) (0, 0) _ (hS.get 1 rfl) ((hBw25_w25.block g4 (blk_lt hbxw25)).trans hbxw25) Try.underlying34 rfl (by kernel_rfl) .nil)) hS.nodef ⟨rfl, ((hBw25_w25.block g0 (blk_lt hn26)).trans hn26), (Tch.more hTw25 hBw25_w25)⟩
/-! ### delay_Exchange_Sent: function 14: by our own printer -/
def delay_Exchange_Sent.f (a0_0 a0_1 a0_2 a0_3 a0_4 : Int) (a0_5 a0_6 : Bool) (a1 a2 : Int) : Option (Bool × Int × Int × Int × Int × Int × Bool × Bool) := if ((a0_3 == a1) && ((a0_4 == 0) && ((a0_5 == true) && (a0_6 == false)))) = true then (some (true, a0_0, a0_1, a0_2, a0_3, a2, a0_5, true)) else (some (false, a0_0, a0_1, a0_2, a0_3, a0_4, a0_5, a0_6))
open Go.Proofs.Ytpfjpfbhgeoadaa.E in
set_option maxRecDepth 100000 in
theorem delay_Exchange_Sent.neq52 (x y : Operand) (w : World) (a0 a1 : Int) (a2 a3 : Bool) (b0 b1 : Int) (b2 b3 : Bool) : (do eqGuard .neq 52 x y (.agg #[.int .i64 a0, .int .i64 a1, .bool a2, .bool a3]) (.agg #[.int .i64 b0, .int .i64 b1, .bool b2, .bool b3]); binOp .neq 52 (.agg #[.int .i64 a0, .int .i64 a1, .bool a2, .bool a3]) (.agg #[.int .i64 b0, .int .i64 b1, .bool b2, .bool b3]) : Sem Value).run Try.prog w = .ok (.bool (!((a0 == b0) && ((a1 == b1) && ((a2 == b2) && (a3 == b3)))))) w := by
  have hu3 := Try.underlying3
  have hu4 := Try.underlying4
  have hu52 := Try.underlying52
  conv => lhs; simp [eqGuard, go_sem, hu3, hu4, hu52]
  exact ite_nand (ite_nand (ite_nand (ite_nlast)))
abbrev delay_Exchange_Sent.c0 (x0 x1 x2 x3 x4 : Int) (x5 x6 : Bool) : Array Value := #[.int .u64 x0, .int .i64 x1, .int .i64 x2, .int .i64 x3, .int .i64 x4, .bool x5, .bool x6]
open Go.Proofs.Ytpfjpfbhgeoadaa.E in
set_option maxHeartbeats 60000000 in
set_option maxRecDepth 100000 in
theorem delay_Exchange_Sent.calls (g0 : Nat) (a0_0 a0_1 a0_2 a0_3 a0_4 : Int) (a0_5 a0_6 : Bool) (a1 a2 : Int) (r1 : Bool) (r2 r3 r4 r5 r6 : Int) (r7 r8 : Bool) (w : World) (HP0 : w.heap[g0]? = some (.cells #[.int .u64 a0_0, .int .i64 a0_1, .int .i64 a0_2, .int .i64 a0_3, .int .i64 a0_4, .bool a0_5, .bool a0_6] 54 (0, 0))) (h : delay_Exchange_Sent.f a0_0 a0_1 a0_2 a0_3 a0_4 a0_5 a0_6 a1 a2 = some (r1, r2, r3, r4, r5, r6, r7, r8)) :
    Calls Try.prog 14 #[.pointer (some ⟨g0, 0, none⟩), .int .i64 a1, .int .i64 a2] w fun e w' => e = .returned (.bool r1) ∧ w'.heap[g0]? = some (.cells #[.int .u64 r2, .int .i64 r3, .int .i64 r4, .int .i64 r5, .int .i64 r6, .bool r7, .bool r8] 54 (0, 0)) ∧ Tch g0 w w' := by
  have H := h
  clear h
  unfold delay_Exchange_Sent.f at H
  by_cases c1 : ((a0_3 == a1) && ((a0_4 == 0) && ((a0_5 == true) && (a0_6 == false)))) = true
  rotate_left
  · rw [if_neg c1] at H
    simp only [Option.some.injEq, Prod.mk.injEq] at H
    obtain ⟨rfl, rfl, rfl, rfl, rfl, rfl, rfl, rfl⟩ := H
    refine calls_of_wp (fn := Try.f14) (by kernel_rfl) rfl ?_
    have hS := St.enter #[.pointer (some ⟨g0, 0, none⟩), .int .i64 a1, .int .i64 a2] 23 (by simp) [(0, .pointer (some ⟨g0, 0, none⟩)), (1, .int .i64 a1), (2, .int .i64 a2)] (by simp)
    have HB0 := Below.refl w.heap.size w
    refine wp_seq_k (fun K1 hK1 => ?_)
    refine reg_seq (N := 23) (bs := [(0, .pointer (some ⟨g0, 0, none⟩)), (1, .int .i64 a1), (2, .int .i64 a2)]) (I := fun x => Below w.heap.size w x) (ps := [VB false]) (by kernel_rfl) ?_ ?_ rfl hS HB0 ?_ ?_
    · exact fun x y hI hb => below_step hI hb
    · exact .v (.nil)
    · refine .on rfl (fun a w hS hI hp => does_val (x_assign rfl (rfl)) rfl) ?_
      exact .nil
    clear hS
    intro at2 w3 hS hI hp
    have hBw3_w := hI
    have hBw3_w3 := Below.refl w3.heap.size w3
    clear hp hI
    refine hK1 _ _ ?_
    (try clear hK1 K1)
    refine wp_seq_k (fun K4 hK4 => ?_)
    refine wp_seq_k (fun K5 hK5 => ?_)
    refine reg_seq (N := 23) (bs := [(0, .pointer (some ⟨g0, 0, none⟩)), (1, .int .i64 a1), (2, .int .i64 a2)]) (I := fun x => Below w.heap.size w x ∧ Below w3.heap.size w3 x) (ps := [VP g0 0, VP g0 0, VP g0 3, IsV (.agg #[.int .i64 a0_3, .int .i64 a0_4, .bool a0_5, .bool a0_6]), VI a1, IsV (.agg #[.int .i64 a1, .int .i64 0, .bool true, .bool false]), VB (!((a0_3 == a1) && ((a0_4 == 0) && ((a0_5 == true) && (a0_6 == false)))))]) (by kernel_rfl) ?_ ?_ rfl hS ⟨hBw3_w, hBw3_w3⟩ ?_ ?_
    · exact fun x y hI hb => ⟨below_step hI.1 hb, below_step hI.2 hb⟩
    · exact .v (.v (.v (.v (.v (.v (.v (.nil)))))))
    · refine .ms 0 rfl rfl rfl ?_
      refine .on rfl (fun a w hS hI hp => does_val (x_nilck rfl (hp.V 0 rfl rfl)) rfl) ?_
      refine .on rfl (fun a w hS hI hp => does_val (x_fieldE (b := 0) rfl (hp.V 1 rfl rfl) Try.underlying54 rfl rfl (by kernel_rfl)) rfl) ?_
      refine .on rfl (fun a w hS hI hp => does_loadmid (cs := [.int .i64 a0_3, .int .i64 a0_4, .bool a0_5, .bool a0_6]) rfl (hp.V 2 rfl rfl) (((hI.1).block g0 (blk_lt HP0)).trans HP0) (by kernel_rfl) Try.underlying52 rfl (by kernel_rfl) rfl) ?_
      refine .ms 1 rfl rfl rfl ?_
      refine .on rfl (fun a w hS hI hp => does_val (x_build (vs := [(0, .int .i64 a1), (2, .bool true)]) rfl (by rw [Array.toList_map]; exact (show [(0, a.eval (.tmp 11)), (2, a.eval (.const (.bool true)))] = _ from (li_cons (hp.V 4 rfl rfl) (li_cons (rfl) rfl)))) (by kernel_rfl)) rfl) ?_
      refine .on rfl (fun a w hS hI hp => does_val (x_bin rfl (hp.V 3 rfl rfl) (hp.V 5 rfl rfl) (delay_Exchange_Sent.neq52 _ _ _ a0_3 a0_4 a0_5 a0_6 a1 0 true false)) rfl) ?_
      exact .nil
    clear hS
    intro at6 w7 hS hI hp
    have hBw7_w := hI.1
    have hBw7_w3 := hI.2
    replace hS := ((hS.nil).cons (hS.get 2 rfl)).cons (hS.get 0 rfl)
    have hv13 : sl _ 13 = .bool (!((a0_3 == a1) && ((a0_4 == 0) && ((a0_5 == true) && (a0_6 == false))))) := hp 6 (by decide)
    have hBw7_w7 := Below.refl w7.heap.size w7
    have hS := hS.cons hv13
    clear hp hI hv13
    refine hK5 _ _ ?_
    (try clear hK5 K5)
    refine wp_cond_true ((hS.get 0 rfl).trans (bT (congrArg (!·) (Bool.eq_false_iff.2 c1)))) ?_
    refine wp_seq_k (fun K8 hK8 => ?_)
    refine reg_seq (N := 23) (bs := [(13, .bool (!((a0_3 == a1) && ((a0_4 == 0) && ((a0_5 == true) && (a0_6 == false)))))), (0, .pointer (some ⟨g0, 0, none⟩)), (2, .int .i64 a2)]) (I := fun x => Below w.heap.size w x ∧ Below w7.heap.size w7 x) (ps := [VB false]) (by kernel_rfl) ?_ ?_ rfl hS ⟨hBw7_w, hBw7_w7⟩ ?_ ?_
    · exact fun x y hI hb => ⟨below_step hI.1 hb, below_step hI.2 hb⟩
    · exact .v (.nil)
    · refine .on rfl (fun a w hS hI hp => does_val (x_assign rfl (rfl)) rfl) ?_
      exact .nil
    clear hS
    intro at9 w10 hS hI hp
    have hBw10_w := hI.1
    have hBw10_w7 := hI.2
    replace hS := hS.nil
    have hv6 : sl _ 6 = .bool false := hp 0 (by decide)
    have hBw10_w10 := Below.refl w10.heap.size w10
    have hS := hS.cons hv6
    clear hp hI hv6
    refine hK8 _ _ ?_
    (try clear hK8 K8)
    refine wp_ret ?_
    (try simp only [Exit.then, Exit.inBlock, Exit.jump, Exit.noGoto])
    exact bodyPost_ret (v := .bool false) (results_single rfl (Vals.at (hS.get 0 rfl) .nil)) hS.nodef ⟨rfl, ((hBw10_w.block g0 (blk_lt HP0)).trans HP0), (Tch.more (Tch.refl _ _) hBw10_w)⟩
  rw [if_pos c1] at H
  simp only [Option.some.injEq, Prod.mk.injEq] at H
  obtain ⟨rfl, rfl, rfl, rfl, rfl, rfl, rfl, rfl⟩ := H
  refine calls_of_wp (fn := Try.f14) (by kernel_rfl) rfl ?_
  have hS := St.enter #[.pointer (some ⟨g0, 0, none⟩), .int .i64 a1, .int .i64 a2] 23 (by simp) [(0, .pointer (some ⟨g0, 0, none⟩)), (1, .int .i64 a1), (2, .int .i64 a2)] (by simp)
  have HB0 := Below.refl w.heap.size w
  refine wp_seq_k (fun K1 hK1 => ?_)
  refine reg_seq (N := 23) (bs := [(0, .pointer (some ⟨g0, 0, none⟩)), (1, .int .i64 a1), (2, .int .i64 a2)]) (I := fun x => Below w.heap.size w x) (ps := [VB false]) (by kernel_rfl) ?_ ?_ rfl hS HB0 ?_ ?_
  · exact fun x y hI hb => below_step hI hb
  · exact .v (.nil)
  · refine .on rfl (fun a w hS hI hp => does_val (x_assign rfl (rfl)) rfl) ?_
    exact .nil
  clear hS
  intro at2 w3 hS hI hp
  have hBw3_w := hI
  have hBw3_w3 := Below.refl w3.heap.size w3
  clear hp hI
  refine hK1 _ _ ?_
  (try clear hK1 K1)
  refine wp_seq_k (fun K4 hK4 => ?_)
  refine wp_seq_k (fun K5 hK5 => ?_)
  refine reg_seq (N := 23) (bs := [(0, .pointer (some ⟨g0, 0, none⟩)), (1, .int .i64 a1), (2, .int .i64 a2)]) (I := fun x => Below w.heap.size w x ∧ Below w3.heap.size w3 x) (ps := [VP g0 0, VP g0 0, VP g0 3, IsV (.agg #[.int .i64 a0_3, .int .i64 a0_4, .bool a0_5, .bool a0_6]), VI a1, IsV (.agg #[.int .i64 a1, .int .i64 0, .bool true, .bool false]), VB (!((a0_3 == a1) && ((a0_4 == 0) && ((a0_5 == true) && (a0_6 == false)))))]) (by kernel_rfl) ?_ ?_ rfl hS ⟨hBw3_w, hBw3_w3⟩ ?_ ?_
  · exact fun x y hI hb => ⟨below_step hI.1 hb, below_step hI.2 hb⟩
  · exact .v (.v (.v (.v (.v (.v (.v (.nil)))))))
  · refine .ms 0 rfl rfl rfl ?_
    refine .on rfl (fun a w hS hI hp => does_val (x_nilck rfl (hp.V 0 rfl rfl)) rfl) ?_
    refine .on rfl (fun a w hS hI hp => does_val (x_fieldE (b := 0) rfl (hp.V 1 rfl rfl) Try.underlying54 rfl rfl (by kernel_rfl)) rfl) ?_
    refine .on rfl (fun a w hS hI hp => does_loadmid (cs := [.int .i64 a0_3, .int .i64 a0_4, .bool a0_5, .bool a0_6]) rfl (hp.V 2 rfl rfl) (((hI.1).block g0 (blk_lt HP0)).trans HP0) (by kernel_rfl) Try.underlying52 rfl (by kernel_rfl) rfl) ?_
    refine .ms 1 rfl rfl rfl ?_
    refine .on rfl (fun a w hS hI hp => does_val (x_build (vs := [(0, .int .i64 a1), (2, .bool true)]) rfl (by rw [Array.toList_map]; exact (show [(0, a.eval (.tmp 11)), (2, a.eval (.const (.bool true)))] = _ from (li_cons (hp.V 4 rfl rfl) (li_cons (rfl) rfl)))) (by kernel_rfl)) rfl) ?_
    refine .on rfl (fun a w hS hI hp => does_val (x_bin rfl (hp.V 3 rfl rfl) (hp.V 5 rfl rfl) (delay_Exchange_Sent.neq52 _ _ _ a0_3 a0_4 a0_5 a0_6 a1 0 true false)) rfl) ?_
    exact .nil
  clear hS
  intro at6 w7 hS hI hp
  have hBw7_w := hI.1
  have hBw7_w3 := hI.2
  replace hS := ((hS.nil).cons (hS.get 2 rfl)).cons (hS.get 0 rfl)
  have hv13 : sl _ 13 = .bool (!((a0_3 == a1) && ((a0_4 == 0) && ((a0_5 == true) && (a0_6 == false))))) := hp 6 (by decide)
  have hBw7_w7 := Below.refl w7.heap.size w7
  have hS := hS.cons hv13
  clear hp hI hv13
  refine hK5 _ _ ?_
  (try clear hK5 K5)
  refine wp_cond_false ((hS.get 0 rfl).trans (bF (congrArg (!·) c1))) ?_
  refine wp_skip ?_
  refine hK4 _ _ ?_
  (try clear hK4 K4)
  refine wp_seq_k (fun K8 hK8 => ?_)
  refine reg_seq_tail 6 (N := 23) (bs := [(13, .bool (!((a0_3 == a1) && ((a0_4 == 0) && ((a0_5 == true) && (a0_6 == false)))))), (0, .pointer (some ⟨g0, 0, none⟩)), (2, .int .i64 a2)]) (I := fun x => Below w.heap.size w x ∧ Below w7.heap.size w7 x) (ps := [VP g0 0, VP g0 0, VI a2, VP g0 0, VP g0 3, VP g0 6]) (by kernel_rfl) ?_ ?_ rfl hS ⟨hBw7_w, hBw7_w7⟩ ?_ ?_
  · exact fun x y hI hb => ⟨below_step hI.1 hb, below_step hI.2 hb⟩
  · exact .v (.v (.v (.v (.v (.v (.nil))))))
  · refine .ms 1 rfl rfl rfl ?_
    refine .ms 1 rfl rfl rfl ?_
    refine .ms 2 rfl rfl rfl ?_
    refine .on rfl (fun a w hS hI hp => does_val (x_nilck rfl (hp.V 0 rfl rfl)) rfl) ?_
    refine .on rfl (fun a w hS hI hp => does_val (x_fieldE (b := 0) rfl (hp.V 3 rfl rfl) Try.underlying54 rfl rfl (by kernel_rfl)) rfl) ?_
    refine .on rfl (fun a w hS hI hp => does_val (x_fieldE (b := 3) rfl (hp.V 4 rfl rfl) Try.underlying52 rfl rfl (by kernel_rfl)) rfl) ?_
    exact .nil
  clear hS
  intro at9 w10 hS hI hp
  have hBw10_w := hI.1
  have hBw10_w7 := hI.2
  replace hS := hS.nil
  have hv15 : sl _ 15 = .pointer (some ⟨g0, 0, none⟩) := hp 1 (by decide)
  have hv16 : sl _ 16 = .int .i64 a2 := hp 2 (by decide)
  have hv19 : sl _ 19 = .pointer (some ⟨g0, 6, none⟩) := hp 5 (by decide)
  have hBw10_w10 := Below.refl w10.heap.size w10
  have hS := hS.cons hv15
  have hS := hS.cons hv16
  have hS := hS.cons hv19
  clear hp hI hv15 hv16 hv19
  show wpList _ _ _ [_, _, _, _, _] _ _
  refine list_step rfl (does_store (g := g0) (off := 6) (v := .bool true) (new := (delay_Exchange_Sent.c0 a0_0 a0_1 a0_2 a0_3 a0_4 a0_5 true)) rfl (hS.get 0 rfl) (rfl) ((hBw10_w.block g0 (blk_lt HP0)).trans HP0) (by kernel_rfl) (by kernel_rfl) (by kernel_rfl) (by kernel_rfl)) ?_
  rintro vw11 w11 ⟨rfl, hbxw11, hT⟩
  have hTw11 := (Tch.more (Tch.refl _ _) hBw10_w).trans hT
  have hBw11_w11 := Below.refl w11.heap.size w11
  clear hT
  refine list_step rfl (R := fun v w' => Below _ _ w' ∧ (VP g0 0) v w') (does_val (x_nilck rfl (hS.get 2 rfl)) rfl) ?_
  rintro vw12 w12 ⟨hb, he⟩
  have hBw12_w11 := below_step hBw11_w11 hb
  have hBw12_w12 := Below.refl w12.heap.size w12
  obtain rfl : vw12 = .pointer (some ⟨g0, 0, none⟩) := he
  refine hS.next (v := .pointer (some ⟨g0, 0, none⟩)) (d := 20) rfl (by decide) (by rfl) ?_
  clear hS
  intro at13 hS
  refine list_step rfl (R := fun v w' => Below _ _ w' ∧ (VP g0 3) v w') (does_val (x_fieldE (b := 0) rfl (hS.get 0 rfl) Try.underlying54 rfl rfl (by kernel_rfl)) rfl) ?_
  rintro vw14 w14 ⟨hb, he⟩
  have hBw14_w11 := below_step hBw12_w11 hb
  have hBw14_w12 := below_step hBw12_w12 hb
  have hBw14_w14 := Below.refl w14.heap.size w14
  obtain rfl : vw14 = .pointer (some ⟨g0, 3, none⟩) := he
  refine hS.next (v := .pointer (some ⟨g0, 3, none⟩)) (d := 21) rfl (by decide) (by rfl) ?_
  clear hS
  intro at15 hS
  refine list_step rfl (R := fun v w' => Below _ _ w' ∧ (VP g0 4) v w') (does_val (x_fieldE (b := 3) rfl (hS.get 0 rfl) Try.underlying52 rfl rfl (by kernel_rfl)) rfl) ?_
  rintro vw16 w16 ⟨hb, he⟩
  have hBw16_w11 := below_step hBw14_w11 hb
  have hBw16_w14 := below_step hBw14_w14 hb
  have hBw16_w16 := Below.refl w16.heap.size w16
  obtain rfl : vw16 = .pointer (some ⟨g0, 4, none⟩) := he
  refine hS.next (v := .pointer (some ⟨g0, 4, none⟩)) (d := 22) rfl (by decide) (by rfl) ?_
  clear hS
  intro at17 hS
  refine list_step rfl (does_store (g := g0) (off := 4) (v := .int .i64 a2) (new := (delay_Exchange_Sent.c0 a0_0 a0_1 a0_2 a0_3 a2 a0_5 true)) rfl (hS.get 0 rfl) (hS.get 4 rfl) ((hBw16_w11.block g0 (blk_lt hbxw11)).trans hbxw11) (by kernel_rfl) (by kernel_rfl) (by kernel_rfl) (by kernel_rfl)) ?_
  rintro vw18 w18 ⟨rfl, hbxw18, hT⟩
  have hTw18 := (Tch.more hTw11 hBw16_w11).trans hT
  have hBw18_w18 := Below.refl w18.heap.size w18
  clear hT
  refine wpList_nil ?_
  refine hK8 _ _ ?_
  (try clear hK8 K8)
  refine wp_seq_k (fun K19 hK19 => ?_)
  refine reg_seq (N := 23) (bs := [(22, .pointer (some ⟨g0, 4, none⟩)), (21, .pointer (some ⟨g0, 3, none⟩)), (20, .pointer (some ⟨g0, 0, none⟩)), (19, .pointer (some ⟨g0, 6, none⟩)), (16, .int .i64 a2), (15, .pointer (some ⟨g0, 0, none⟩))]) (I := fun x => Below w18.heap.size w18 x) (ps := [VB true]) (by kernel_rfl) ?_ ?_ rfl hS hBw18_w18 ?_ ?_
  · exact fun x y hI hb => below_step hI hb
  · exact .v (.nil)
  · refine .on rfl (fun a w hS hI hp => does_val (x_assign rfl (rfl)) rfl) ?_
    exact .nil
  clear hS
  intro at20 w21 hS hI hp
  have hBw21_w18 := hI
  replace hS := hS.nil
  have hv6 : sl _ 6 = .bool true := hp 0 (by decide)
  have hBw21_w21 := Below.refl w21.heap.size w21
  have hS := hS.cons hv6
  clear hp hI hv6
  refine hK19 _ _ ?_
  (try clear hK19 K19)
  refine wp_ret ?_
  (try simp only [Exit.then, Exit.inBlock, Exit.jump, Exit.noGoto])
  exact bodyPost_ret (v := .bool true) (results_single rfl (Vals.at (hS.get 0 rfl) .nil)) hS.nodef ⟨rfl, ((hBw21_w18.block g0 (blk_lt hbxw18)).trans hbxw18), (Tch.more hTw18 hBw21_w18)⟩
end Go.Proofs.Ytpfjpfbhgeoadaa.P
