/- Functions and loops of the given program as Lean functions, and that the code comes to what they say: written by this session's own program; Lean checks it. -/
import Derived.Test.YtgmiokocipmbaaaZzPx0
import Derived.Test.YtgmiokocipmbaaaZzPx5
import Derived.Test.YtgmiokocipmbaaaZzPx8
namespace Go.Proofs.Ytgmiokocipmbaaa.P
open Go.RowKit Go.Proofs.YtgmiokocipmbaaaW.PrintWords Go.Proofs.YtgmiokocipmbaaaW.PrintLast Go.Proofs.YtgmiokocipmbaaaW.PrintMore
attribute [local go_sem] max2_int min2_int max_two min_two max_three min_three max_four min_four   -- for this text's walks alone
set_option linter.unusedVariables false
set_option linter.unusedSimpArgs false
/-! ### carillonref08_FaultOf: function 38: by our own printer -/
def carillonref08_FaultOf.f (k : Nat) (a0_0 : Int) (a0_1 : ByteArray) : Option (Int × Int × Bool) := if a0_0 = 2 then ((carillonref08_Known.f a0_0 a0_1).bind fun t7 => (if t7 = true then (if a0_1.size ≤ 9223372036854775807 then ((carillonref01_Get.f k (bytesOf a0_1) 0 2).bind fun t11 => ((carillonref01_Get.f k (bytesOf a0_1) 2 2).bind fun t15 => (some (t11.1, t15.1, true)))) else (none)) else (some (0, 0, false)))) else (some (0, 0, false))
open Go.Proofs.Ytgmiokocipmbaaa.E in
set_option maxHeartbeats 60000000 in
set_option maxRecDepth 100000 in
theorem carillonref08_FaultOf.calls (k : Nat) (a0_0 : Int) (a0_1 : ByteArray) (r1 r2 : Int) (r3 : Bool) (w : World) (h : carillonref08_FaultOf.f k a0_0 a0_1 = some (r1, r2, r3)) :
    Calls Try.prog 38 #[.agg #[.int .i64 a0_0, .string a0_1]] w fun e w' => e = .returned (.tuple #[.int .i64 r1, .int .i64 r2, .bool r3]) ∧ Below w.heap.size w w' := by
  have H := h
  clear h
  unfold carillonref08_FaultOf.f at H
  by_cases c1 : a0_0 = 2
  rotate_left
  · rw [if_neg c1] at H
    simp only [Option.some.injEq, Prod.mk.injEq] at H
    obtain ⟨rfl, rfl, rfl⟩ := H
    refine calls_of_wp (fn := Try.f38) (by kernel_rfl) rfl ?_
    have hS := St.enter #[.agg #[.int .i64 a0_0, .string a0_1]] 33 (by simp) [(0, .agg #[.int .i64 a0_0, .string a0_1])] (by simp)
    have HB0 := Below.refl w.heap.size w
    refine wp_seq_k (fun K1 hK1 => ?_)
    refine reg_seq (N := 33) (bs := [(0, .agg #[.int .i64 a0_0, .string a0_1])]) (I := fun x => Below w.heap.size w x) (ps := [IsB #[.int .i64 a0_0, .string a0_1] 26 w.heap.size, VI 0, VI 0, VB false]) (by kernel_rfl) ?_ ?_ rfl hS HB0 ?_ ?_
    · exact fun x y hI hb => below_step hI hb
    · exact .cons (Stays.b _ _ _) (.v (.v (.v (.nil))))
    · refine .on rfl (fun a w hS hI hp => does_var (x_box rfl (congrArg Value.cells (hS.get 0 rfl))) (hI).size) ?_
      iterate 3 refine .on rfl (fun a w hS hI hp => does_val (x_assign rfl (rfl)) rfl) ?_
      exact .nil
    clear hS
    intro at2 w3 hS hI hp
    have hBw3_w := hI
    replace hS := hS.nil
    obtain ⟨g4, hv1, hgeg4, hbxg4⟩ := (show IsB _ 26 _ (sl _ 1) _ from hp 0 (by decide))
    have hBw3_w3 := Below.refl w3.heap.size w3
    have hS := hS.cons hv1
    clear hp hI hv1
    refine hK1 _ _ ?_
    (try clear hK1 K1)
    refine wp_seq_k (fun K5 hK5 => ?_)
    refine wp_seq_k (fun K6 hK6 => ?_)
    refine reg_seq (N := 33) (bs := [(1, .pointer (some ⟨g4, 0, none⟩))]) (I := fun x => Below w.heap.size w x ∧ Below w3.heap.size w3 x) (ps := [VP g4 0, VI a0_0, VB (!decide (a0_0 = 2)), VB (!decide (a0_0 = 2)), VU, VU, VU, VB true]) (by kernel_rfl) ?_ ?_ rfl hS ⟨hBw3_w, hBw3_w3⟩ ?_ ?_
    · exact fun x y hI hb => ⟨below_step hI.1 hb, below_step hI.2 hb⟩
    · exact .v (.v (.v (.v (.v (.v (.v (.v (.nil))))))))
    · refine .on rfl (fun a w hS hI hp => does_val (x_fieldE (b := 0) rfl (hS.get 0 rfl) Try.underlying26 rfl rfl (by kernel_rfl)) rfl) ?_
      refine .on rfl (fun a w hS hI hp => does_val (x_load1 (d := .int .i64) rfl (hp.V 0 rfl rfl) (by kernel_rfl) rfl ((blk_cell (((hI.2).block g4 (blk_lt hbxg4)).trans hbxg4) 0).trans rfl)) rfl) ?_
      refine .on rfl (fun a w hS hI hp => does_val (x_bin rfl (hp.V 1 rfl rfl) (rfl) (b_neq _ _ _ _ _ _)) rfl) ?_
      refine .mv 2 rfl rfl rfl rfl ?_
      iterate 3 refine .sn 3 12 rfl rfl rfl rfl rfl ((congrArg (!·) (decide_eq_false c1))) ?_
      refine .on rfl (fun a w hS hI hp => does_val (x_pickT rfl ((hp.V 3 rfl rfl).trans (bT (congrArg (!·) (decide_eq_false c1)))) (rfl)) rfl) ?_
      exact .nil
    clear hS
    intro at7 w8 hS hI hp
    have hBw8_w := hI.1
    have hBw8_w3 := hI.2
    have hv16 : sl _ 16 = .bool true := hp 7 (by decide)
    have hBw8_w8 := Below.refl w8.heap.size w8
    have hS := hS.cons hv16
    clear hp hI hv16
    refine hK6 _ _ ?_
    (try clear hK6 K6)
    refine wp_cond_true ((hS.get 0 rfl).trans (bT rfl)) ?_
    refine wp_seq_k (fun K9 hK9 => ?_)
    refine reg_seq (N := 33) (bs := [(16, .bool true), (1, .pointer (some ⟨g4, 0, none⟩))]) (I := fun x => Below w.heap.size w x ∧ Below w3.heap.size w3 x ∧ Below w8.heap.size w8 x) (ps := [VI 0, VI 0, VB false]) (by kernel_rfl) ?_ ?_ rfl hS ⟨hBw8_w, hBw8_w3, hBw8_w8⟩ ?_ ?_
    · exact fun x y hI hb => ⟨below_step hI.1 hb, below_step hI.2.1 hb, below_step hI.2.2 hb⟩
    · exact .v (.v (.v (.nil)))
    · refine .on rfl (fun a w hS hI hp => does_val (x_assign rfl (rfl)) rfl) ?_
      iterate 2 refine .on rfl (fun a w hS hI hp => does_val (x_assign rfl (rfl)) rfl) ?_
      exact .nil
    clear hS
    intro at10 w11 hS hI hp
    have hBw11_w := hI.1
    have hBw11_w3 := hI.2.1
    have hBw11_w8 := hI.2.2
    replace hS := hS.nil
    have hv2 : sl _ 2 = .int .i64 0 := hp 0 (by decide)
    have hv3 : sl _ 3 = .int .i64 0 := hp 1 (by decide)
    have hv4 : sl _ 4 = .bool false := hp 2 (by decide)
    have hBw11_w11 := Below.refl w11.heap.size w11
    have hS := hS.cons hv2
    have hS := hS.cons hv3
    have hS := hS.cons hv4
    clear hp hI hv2 hv3 hv4
    refine hK9 _ _ ?_
    (try clear hK9 K9)
    refine wp_ret ?_
    (try simp only [Exit.then, Exit.inBlock, Exit.jump, Exit.noGoto])
    exact bodyPost_ret (v := .tuple #[.int .i64 0, .int .i64 0, .bool false]) (results_list (rs := [.tmp 2, .tmp 3, .tmp 4]) rfl (by simp) (Vals.at (hS.get 2 rfl) (Vals.at (hS.get 1 rfl) (Vals.at (hS.get 0 rfl) .nil)))) hS.nodef ⟨rfl, hBw11_w⟩
  rw [if_pos c1] at H
  obtain ⟨t7, At7, H⟩ := Option.bind_eq_some_iff.mp H
  by_cases c2 : t7 = true
  rotate_left
  · rw [if_neg c2] at H
    simp only [Option.some.injEq, Prod.mk.injEq] at H
    obtain ⟨rfl, rfl, rfl⟩ := H
    refine calls_of_wp (fn := Try.f38) (by kernel_rfl) rfl ?_
    have hS := St.enter #[.agg #[.int .i64 a0_0, .string a0_1]] 33 (by simp) [(0, .agg #[.int .i64 a0_0, .string a0_1])] (by simp)
    have HB0 := Below.refl w.heap.size w
    refine wp_seq_k (fun K1 hK1 => ?_)
    refine reg_seq (N := 33) (bs := [(0, .agg #[.int .i64 a0_0, .string a0_1])]) (I := fun x => Below w.heap.size w x) (ps := [IsB #[.int .i64 a0_0, .string a0_1] 26 w.heap.size, VI 0, VI 0, VB false]) (by kernel_rfl) ?_ ?_ rfl hS HB0 ?_ ?_
    · exact fun x y hI hb => below_step hI hb
    · exact .cons (Stays.b _ _ _) (.v (.v (.v (.nil))))
    · refine .on rfl (fun a w hS hI hp => does_var (x_box rfl (congrArg Value.cells (hS.get 0 rfl))) (hI).size) ?_
      iterate 3 refine .on rfl (fun a w hS hI hp => does_val (x_assign rfl (rfl)) rfl) ?_
      exact .nil
    clear hS
    intro at2 w3 hS hI hp
    have hBw3_w := hI
    replace hS := hS.nil
    obtain ⟨g4, hv1, hgeg4, hbxg4⟩ := (show IsB _ 26 _ (sl _ 1) _ from hp 0 (by decide))
    have hBw3_w3 := Below.refl w3.heap.size w3
    have hS := hS.cons hv1
    clear hp hI hv1
    refine hK1 _ _ ?_
    (try clear hK1 K1)
    refine wp_seq_k (fun K5 hK5 => ?_)
    refine wp_seq_k (fun K6 hK6 => ?_)
    refine reg_seq (N := 33) (bs := [(1, .pointer (some ⟨g4, 0, none⟩))]) (I := fun x => Below w.heap.size w x ∧ Below w3.heap.size w3 x) (ps := [VP g4 0, VI a0_0, VB (!decide (a0_0 = 2)), VB (!decide (a0_0 = 2)), IsV (.agg #[.int .i64 a0_0, .string a0_1]), VB t7, VB (!t7), VB (!t7)]) (by kernel_rfl) ?_ ?_ rfl hS ⟨hBw3_w, hBw3_w3⟩ ?_ ?_
    · exact fun x y hI hb => ⟨below_step hI.1 hb, below_step hI.2 hb⟩
    · exact .v (.v (.v (.v (.v (.v (.v (.v (.nil))))))))
    · refine .on rfl (fun a w hS hI hp => does_val (x_fieldE (b := 0) rfl (hS.get 0 rfl) Try.underlying26 rfl rfl (by kernel_rfl)) rfl) ?_
      refine .on rfl (fun a w hS hI hp => does_val (x_load1 (d := .int .i64) rfl (hp.V 0 rfl rfl) (by kernel_rfl) rfl ((blk_cell (((hI.2).block g4 (blk_lt hbxg4)).trans hbxg4) 0).trans rfl)) rfl) ?_
      refine .on rfl (fun a w hS hI hp => does_val (x_bin rfl (hp.V 1 rfl rfl) (rfl) (b_neq _ _ _ _ _ _)) rfl) ?_
      refine .mv 2 rfl rfl rfl rfl ?_
      refine .oy 3 12 rfl rfl rfl rfl rfl ((congrArg (!·) (decide_eq_true c1))) (fun a w hS hI hp => does_loadrow rfl (hS.get 0 rfl) (((hI.2).block g4 (blk_lt hbxg4)).trans hbxg4) Try.underlying26 rfl (by kernel_rfl) rfl) ?_
      refine .oy 3 12 rfl rfl rfl rfl rfl ((congrArg (!·) (decide_eq_true c1))) (fun a w hS hI hp => does_call (by kernel_rfl) (ar1 (hp.V 4 rfl rfl)) ((carillonref08_Known.calls a0_0 a0_1 t7 _  At7).mono fun _ _ h => ⟨_, h.1, h.2, rfl⟩)) ?_
      refine .oy 3 12 rfl rfl rfl rfl rfl ((congrArg (!·) (decide_eq_true c1))) (fun a w hS hI hp => does_val (x_not rfl (hp.V 5 rfl rfl)) rfl) ?_
      refine .on rfl (fun a w hS hI hp => does_val (x_pickF rfl ((hp.V 3 rfl rfl).trans (bF (congrArg (!·) (decide_eq_true c1)))) (hp.V 6 rfl rfl)) rfl) ?_
      exact .nil
    clear hS
    intro at8 w9 hS hI hp
    have hBw9_w := hI.1
    have hBw9_w3 := hI.2
    have hv16 : sl _ 16 = .bool (!t7) := hp 7 (by decide)
    have hBw9_w9 := Below.refl w9.heap.size w9
    have hS := hS.cons hv16
    clear hp hI hv16
    refine hK6 _ _ ?_
    (try clear hK6 K6)
    refine wp_cond_true ((hS.get 0 rfl).trans (bT (congrArg (!·) (Bool.eq_false_iff.2 c2)))) ?_
    refine wp_seq_k (fun K10 hK10 => ?_)
    refine reg_seq (N := 33) (bs := [(16, .bool (!t7)), (1, .pointer (some ⟨g4, 0, none⟩))]) (I := fun x => Below w.heap.size w x ∧ Below w3.heap.size w3 x ∧ Below w9.heap.size w9 x) (ps := [VI 0, VI 0, VB false]) (by kernel_rfl) ?_ ?_ rfl hS ⟨hBw9_w, hBw9_w3, hBw9_w9⟩ ?_ ?_
    · exact fun x y hI hb => ⟨below_step hI.1 hb, below_step hI.2.1 hb, below_step hI.2.2 hb⟩
    · exact .v (.v (.v (.nil)))
    · refine .on rfl (fun a w hS hI hp => does_val (x_assign rfl (rfl)) rfl) ?_
      iterate 2 refine .on rfl (fun a w hS hI hp => does_val (x_assign rfl (rfl)) rfl) ?_
      exact .nil
    clear hS
    intro at11 w12 hS hI hp
    have hBw12_w := hI.1
    have hBw12_w3 := hI.2.1
    have hBw12_w9 := hI.2.2
    replace hS := hS.nil
    have hv2 : sl _ 2 = .int .i64 0 := hp 0 (by decide)
    have hv3 : sl _ 3 = .int .i64 0 := hp 1 (by decide)
    have hv4 : sl _ 4 = .bool false := hp 2 (by decide)
    have hBw12_w12 := Below.refl w12.heap.size w12
    have hS := hS.cons hv2
    have hS := hS.cons hv3
    have hS := hS.cons hv4
    clear hp hI hv2 hv3 hv4
    refine hK10 _ _ ?_
    (try clear hK10 K10)
    refine wp_ret ?_
    (try simp only [Exit.then, Exit.inBlock, Exit.jump, Exit.noGoto])
    exact bodyPost_ret (v := .tuple #[.int .i64 0, .int .i64 0, .bool false]) (results_list (rs := [.tmp 2, .tmp 3, .tmp 4]) rfl (by simp) (Vals.at (hS.get 2 rfl) (Vals.at (hS.get 1 rfl) (Vals.at (hS.get 0 rfl) .nil)))) hS.nodef ⟨rfl, hBw12_w⟩
  rw [if_pos c2] at H
  by_cases c3 : a0_1.size ≤ 9223372036854775807
  rotate_left
  · rw [if_neg c3] at H
    exact absurd H (by simp)
  rw [if_pos c3] at H
  obtain ⟨t11, At11, H⟩ := Option.bind_eq_some_iff.mp H
  obtain ⟨t11_1, t11_2⟩ := t11
  (try dsimp only at H)
  obtain ⟨t15, At15, H⟩ := Option.bind_eq_some_iff.mp H
  obtain ⟨t15_1, t15_2⟩ := t15
  (try dsimp only at H)
  simp only [Option.some.injEq, Prod.mk.injEq] at H
  obtain ⟨rfl, rfl, rfl⟩ := H
  refine calls_of_wp (fn := Try.f38) (by kernel_rfl) rfl ?_
  have hS := St.enter #[.agg #[.int .i64 a0_0, .string a0_1]] 33 (by simp) [(0, .agg #[.int .i64 a0_0, .string a0_1])] (by simp)
  have HB0 := Below.refl w.heap.size w
  refine wp_seq_k (fun K1 hK1 => ?_)
  refine reg_seq (N := 33) (bs := [(0, .agg #[.int .i64 a0_0, .string a0_1])]) (I := fun x => Below w.heap.size w x) (ps := [IsB #[.int .i64 a0_0, .string a0_1] 26 w.heap.size, VI 0, VI 0, VB false]) (by kernel_rfl) ?_ ?_ rfl hS HB0 ?_ ?_
  · exact fun x y hI hb => below_step hI hb
  · exact .cons (Stays.b _ _ _) (.v (.v (.v (.nil))))
  · refine .on rfl (fun a w hS hI hp => does_var (x_box rfl (congrArg Value.cells (hS.get 0 rfl))) (hI).size) ?_
    iterate 3 refine .on rfl (fun a w hS hI hp => does_val (x_assign rfl (rfl)) rfl) ?_
    exact .nil
  clear hS
  intro at2 w3 hS hI hp
  have hBw3_w := hI
  replace hS := hS.nil
  obtain ⟨g4, hv1, hgeg4, hbxg4⟩ := (show IsB _ 26 _ (sl _ 1) _ from hp 0 (by decide))
  have hBw3_w3 := Below.refl w3.heap.size w3
  have hS := hS.cons hv1
  clear hp hI hv1
  refine hK1 _ _ ?_
  (try clear hK1 K1)
  refine wp_seq_k (fun K5 hK5 => ?_)
  refine wp_seq_k (fun K6 hK6 => ?_)
  refine reg_seq (N := 33) (bs := [(1, .pointer (some ⟨g4, 0, none⟩))]) (I := fun x => Below w.heap.size w x ∧ Below w3.heap.size w3 x) (ps := [VP g4 0, VI a0_0, VB (!decide (a0_0 = 2)), VB (!decide (a0_0 = 2)), IsV (.agg #[.int .i64 a0_0, .string a0_1]), VB t7, VB (!t7), VB (!t7)]) (by kernel_rfl) ?_ ?_ rfl hS ⟨hBw3_w, hBw3_w3⟩ ?_ ?_
  · exact fun x y hI hb => ⟨below_step hI.1 hb, below_step hI.2 hb⟩
  · exact .v (.v (.v (.v (.v (.v (.v (.v (.nil))))))))
  · refine .on rfl (fun a w hS hI hp => does_val (x_fieldE (b := 0) rfl (hS.get 0 rfl) Try.underlying26 rfl rfl (by kernel_rfl)) rfl) ?_
    refine .on rfl (fun a w hS hI hp => does_val (x_load1 (d := .int .i64) rfl (hp.V 0 rfl rfl) (by kernel_rfl) rfl ((blk_cell (((hI.2).block g4 (blk_lt hbxg4)).trans hbxg4) 0).trans rfl)) rfl) ?_
    refine .on rfl (fun a w hS hI hp => does_val (x_bin rfl (hp.V 1 rfl rfl) (rfl) (b_neq _ _ _ _ _ _)) rfl) ?_
    refine .mv 2 rfl rfl rfl rfl ?_
    refine .oy 3 12 rfl rfl rfl rfl rfl ((congrArg (!·) (decide_eq_true c1))) (fun a w hS hI hp => does_loadrow rfl (hS.get 0 rfl) (((hI.2).block g4 (blk_lt hbxg4)).trans hbxg4) Try.underlying26 rfl (by kernel_rfl) rfl) ?_
    refine .oy 3 12 rfl rfl rfl rfl rfl ((congrArg (!·) (decide_eq_true c1))) (fun a w hS hI hp => does_call (by kernel_rfl) (ar1 (hp.V 4 rfl rfl)) ((carillonref08_Known.calls a0_0 a0_1 t7 _  At7).mono fun _ _ h => ⟨_, h.1, h.2, rfl⟩)) ?_
    refine .oy 3 12 rfl rfl rfl rfl rfl ((congrArg (!·) (decide_eq_true c1))) (fun a w hS hI hp => does_val (x_not rfl (hp.V 5 rfl rfl)) rfl) ?_
    refine .on rfl (fun a w hS hI hp => does_val (x_pickF rfl ((hp.V 3 rfl rfl).trans (bF (congrArg (!·) (decide_eq_true c1)))) (hp.V 6 rfl rfl)) rfl) ?_
    exact .nil
  clear hS
  intro at8 w9 hS hI hp
  have hBw9_w := hI.1
  have hBw9_w3 := hI.2
  have hv16 : sl _ 16 = .bool (!t7) := hp 7 (by decide)
  have hBw9_w9 := Below.refl w9.heap.size w9
  have hS := hS.cons hv16
  clear hp hI hv16
  refine hK6 _ _ ?_
  (try clear hK6 K6)
  refine wp_cond_false ((hS.get 0 rfl).trans (bF (congrArg (!·) c2))) ?_
  refine wp_skip ?_
  refine hK5 _ _ ?_
  (try clear hK5 K5)
  refine wp_seq_k (fun K10 hK10 => ?_)
  refine reg_seq (N := 33) (bs := [(16, .bool (!t7)), (1, .pointer (some ⟨g4, 0, none⟩))]) (I := fun x => Below w.heap.size w x ∧ Below w3.heap.size w3 x ∧ Below w9.heap.size w9 x) (ps := [VP g4 1, IsV (.string a0_1), IsC (Kd.int .u8) (bytesOf a0_1), IsV (.tuple #[.int .i64 t11_1, .bool t11_2]), IsV (.tuple #[.int .i64 t11_1, .bool t11_2]), VI t11_1, VB t11_2, VI t11_1, VB t11_2]) (by kernel_rfl) ?_ ?_ rfl hS ⟨hBw9_w, hBw9_w3, hBw9_w9⟩ ?_ ?_
  · exact fun x y hI hb => ⟨below_step hI.1 hb, below_step hI.2.1 hb, below_step hI.2.2 hb⟩
  · exact .v (.v (.cons (Stays.c _ _) (.v (.v (.v (.v (.v (.v (.nil)))))))))
  · refine .on rfl (fun a w hS hI hp => does_val (x_fieldE (b := 0) rfl (hS.get 1 rfl) Try.underlying26 rfl rfl (by kernel_rfl)) rfl) ?_
    refine .on rfl (fun a w hS hI hp => does_val (x_load1 (d := .string) rfl (hp.V 0 rfl rfl) (by kernel_rfl) rfl ((blk_cell (((hI.2.1).block g4 (blk_lt hbxg4)).trans hbxg4) 1).trans rfl)) rfl) ?_
    refine .on rfl (fun a w hS hI hp => does_bytes (e := 5) rfl (by kernel_rfl) (by kernel_rfl) (by kernel_rfl) (hp.V 1 rfl rfl) c3) ?_
    refine .on rfl (fun a w hS hI hp => (hp.V 2 rfl rfl).elim fun A_ h_ => h_.elim fun c_ h_ => h_.elim fun hv_ h_ => h_.elim fun hl_ hc_ => does_call (by kernel_rfl) (ar3 (hv_) (rfl) (rfl)) ((carillonref01_Get.calls k _ _ (bytesOf a0_1) 0 2 t11_1 t11_2 _ hc_ hl_ At11).mono fun _ _ h => ⟨_, h.1, h.2.below, rfl⟩)) ?_
    refine .mv 3 rfl rfl rfl rfl ?_
    iterate 2 refine .on rfl (fun a w hS hI hp => does_val (x_extract rfl (hp.V 4 rfl rfl) rfl) rfl) ?_
    refine .asg 5 rfl rfl rfl rfl ?_
    refine .asg 6 rfl rfl rfl rfl ?_
    exact .nil
  clear hS
  intro at12 w13 hS hI hp
  have hBw13_w := hI.1
  have hBw13_w3 := hI.2.1
  have hBw13_w9 := hI.2.2
  replace hS := (hS.nil).cons (hS.get 1 rfl)
  have hv5 : sl _ 5 = .int .i64 t11_1 := hp 7 (by decide)
  have hBw13_w13 := Below.refl w13.heap.size w13
  have hS := hS.cons hv5
  clear hp hI hv5
  refine hK10 _ _ ?_
  (try clear hK10 K10)
  refine wp_seq_k (fun K14 hK14 => ?_)
  refine reg_seq (N := 33) (bs := [(5, .int .i64 t11_1), (1, .pointer (some ⟨g4, 0, none⟩))]) (I := fun x => Below w.heap.size w x ∧ Below w3.heap.size w3 x ∧ Below w13.heap.size w13 x) (ps := [VP g4 1, IsV (.string a0_1), IsC (Kd.int .u8) (bytesOf a0_1), IsV (.tuple #[.int .i64 t15_1, .bool t15_2]), IsV (.tuple #[.int .i64 t15_1, .bool t15_2]), VI t15_1, VB t15_2, VI t15_1, VB t15_2]) (by kernel_rfl) ?_ ?_ rfl hS ⟨hBw13_w, hBw13_w3, hBw13_w13⟩ ?_ ?_
  · exact fun x y hI hb => ⟨below_step hI.1 hb, below_step hI.2.1 hb, below_step hI.2.2 hb⟩
  · exact .v (.v (.cons (Stays.c _ _) (.v (.v (.v (.v (.v (.v (.nil)))))))))
  · refine .on rfl (fun a w hS hI hp => does_val (x_fieldE (b := 0) rfl (hS.get 1 rfl) Try.underlying26 rfl rfl (by kernel_rfl)) rfl) ?_
    refine .on rfl (fun a w hS hI hp => does_val (x_load1 (d := .string) rfl (hp.V 0 rfl rfl) (by kernel_rfl) rfl ((blk_cell (((hI.2.1).block g4 (blk_lt hbxg4)).trans hbxg4) 1).trans rfl)) rfl) ?_
    refine .on rfl (fun a w hS hI hp => does_bytes (e := 5) rfl (by kernel_rfl) (by kernel_rfl) (by kernel_rfl) (hp.V 1 rfl rfl) c3) ?_
    refine .on rfl (fun a w hS hI hp => (hp.V 2 rfl rfl).elim fun A_ h_ => h_.elim fun c_ h_ => h_.elim fun hv_ h_ => h_.elim fun hl_ hc_ => does_call (by kernel_rfl) (ar3 (hv_) (rfl) (rfl)) ((carillonref01_Get.calls k _ _ (bytesOf a0_1) 2 2 t15_1 t15_2 _ hc_ hl_ At15).mono fun _ _ h => ⟨_, h.1, h.2.below, rfl⟩)) ?_
    refine .mv 3 rfl rfl rfl rfl ?_
    iterate 2 refine .on rfl (fun a w hS hI hp => does_val (x_extract rfl (hp.V 4 rfl rfl) rfl) rfl) ?_
    refine .asg 5 rfl rfl rfl rfl ?_
    refine .asg 6 rfl rfl rfl rfl ?_
    exact .nil
  clear hS
  intro at16 w17 hS hI hp
  have hBw17_w := hI.1
  have hBw17_w3 := hI.2.1
  have hBw17_w13 := hI.2.2
  replace hS := (hS.nil).cons (hS.get 0 rfl)
  have hv7 : sl _ 7 = .int .i64 t15_1 := hp 7 (by decide)
  have hBw17_w17 := Below.refl w17.heap.size w17
  have hS := hS.cons hv7
  clear hp hI hv7
  refine hK14 _ _ ?_
  (try clear hK14 K14)
  refine wp_seq_k (fun K18 hK18 => ?_)
  refine reg_seq (N := 33) (bs := [(7, .int .i64 t15_1), (5, .int .i64 t11_1)]) (I := fun x => Below w.heap.size w x ∧ Below w3.heap.size w3 x ∧ Below w17.heap.size w17 x) (ps := [VI t11_1, VI t15_1, VI t11_1, VI t15_1, VB true]) (by kernel_rfl) ?_ ?_ rfl hS ⟨hBw17_w, hBw17_w3, hBw17_w17⟩ ?_ ?_
  · exact fun x y hI hb => ⟨below_step hI.1 hb, below_step hI.2.1 hb, below_step hI.2.2 hb⟩
  · exact .v (.v (.v (.v (.v (.nil)))))
  · refine .ms 1 rfl rfl rfl ?_
    refine .ms 0 rfl rfl rfl ?_
    refine .asg 0 rfl rfl rfl rfl ?_
    refine .asg 1 rfl rfl rfl rfl ?_
    refine .on rfl (fun a w hS hI hp => does_val (x_assign rfl (rfl)) rfl) ?_
    exact .nil
  clear hS
  intro at19 w20 hS hI hp
  have hBw20_w := hI.1
  have hBw20_w3 := hI.2.1
  have hBw20_w17 := hI.2.2
  replace hS := hS.nil
  have hv2 : sl _ 2 = .int .i64 t11_1 := hp 2 (by decide)
  have hv3 : sl _ 3 = .int .i64 t15_1 := hp 3 (by decide)
  have hv4 : sl _ 4 = .bool true := hp 4 (by decide)
  have hBw20_w20 := Below.refl w20.heap.size w20
  have hS := hS.cons hv2
  have hS := hS.cons hv3
  have hS := hS.cons hv4
  clear hp hI hv2 hv3 hv4
  refine hK18 _ _ ?_
  (try clear hK18 K18)
  refine wp_ret ?_
  (try simp only [Exit.then, Exit.inBlock, Exit.jump, Exit.noGoto])
  exact bodyPost_ret (v := .tuple #[.int .i64 t11_1, .int .i64 t15_1, .bool true]) (results_list (rs := [.tmp 2, .tmp 3, .tmp 4]) rfl (by simp) (Vals.at (hS.get 2 rfl) (Vals.at (hS.get 1 rfl) (Vals.at (hS.get 0 rfl) .nil)))) hS.nodef ⟨rfl, hBw20_w⟩
/-! ### carillonlaw00_SameIds: function 39 -/
def carillonlaw00_SameIds.l0 : Nat → List Int → List Int → Int → Option (Bool)
  | 0, _, _, _ => none
  | k + 1, x0, x1, x5 => if x5 < (x0.length : Int) then (if 0 ≤ x5 then (if x5 < (x1.length : Int) then (if (rd x0 x5) = (rd x1 x5) then (carillonlaw00_SameIds.l0 k x0 x1 (wrap64 (x5 + 1))) else (some false)) else (none)) else (none)) else (some true)
def carillonlaw00_SameIds.f (k : Nat) (l0 : List Int) (l1 : List Int) : Option (Bool) := if (l0.length : Int) = (l1.length : Int) then (carillonlaw00_SameIds.l0 k l0 l1 0) else (some false)
set_option maxHeartbeats 8000000 in
set_option maxRecDepth 100000 in
theorem carillonlaw00_SameIds.calls (k : Nat) (A0 : Option Addr) (c0 : Nat) (l0 : List Int) (A1 : Option Addr) (c1 : Nat) (l1 : List Int) (r : Bool) (w : World) (hr0 : Kd.C (Kd.int .u64) w A0 l0.length l0) (hc0 : l0.length ≤ c0) (hr1 : Kd.C (Kd.int .u64) w A1 l1.length l1) (hc1 : l1.length ≤ c1) (h : carillonlaw00_SameIds.f k l0 l1 = some r) :
    Calls Try.prog 39 #[.slice A0 l0.length c0, .slice A1 l1.length c1] w fun e w' => e = .returned (.bool r) ∧ Drawn0 w w' := by
  have HR0 := Aside0.mk hr0
  have HC0 := Aside0.mk hc0
  clear hr0 hc0
  have HR1 := Aside0.mk hr1
  have HC1 := Aside0.mk hc1
  clear hr1 hc1
  have H : (if (l0.length : Int) = (l1.length : Int) then (carillonlaw00_SameIds.l0 k l0 l1 0) else (some false)) = some r := h
  clear h
  by_cases c3 : (l0.length : Int) = (l1.length : Int)
  · rw [if_pos c3] at H
    have c3b0 : ((l0.length : Int) == (l1.length : Int)) = true := beq_iff_eq.mpr c3
    have c3b1 : ((l0.length : Int) != (l1.length : Int)) = false := bne_eq_false_iff_eq.mpr c3
    have c3b2 : (l0.length == l1.length) = true := by first | simpa using c3 | (simp at c3 ⊢; omega)
    clear c3
    have H' := Aside0.mk H
    clear H
    go_enter Try.func39, Try.ntmps39
    go_wp2
    repeat (go_quiet (fail); try go_wp2)
    go_loopg [5] k (fun kq v5 w' => ∃ (x5_1 : Int), v5 = .int .i64 x5_1 ∧ Aside0 (carillonlaw00_SameIds.l0 kq l0 l1 x5_1 = some r) ∧ Aside0 (kq ≤ k) ∧ Drawn0 w w')
    case atStart => exact ⟨(0), (by first | rfl | (simp; done) | (simp [*]; done)), H', ⟨Nat.le_refl _⟩, by repeat (first | exact Drawn0.refl _ | apply Drawn0.step)⟩
    case round =>
      clear H'
      try clear c1
      try clear p2
      try clear c3
      try clear c3b0
      try clear c3b1
      try clear c3b2
      obtain ⟨x5_1, rfl, HA, HK1, ⟨m1, rfl⟩⟩ := hrel
      cases gk with
      | zero => exact absurd HA.out (by simp [carillonlaw00_SameIds.l0])
      | succ k1 =>
        have H := HA.out
        clear HA
        simp only [carillonlaw00_SameIds.l0] at H
        by_cases c4 : x5_1 < (l0.length : Int)
        · rw [if_pos c4] at H
          have c4b0 : decide (x5_1 < (l0.length : Int)) = true := decide_eq_true c4
          clear c4
          by_cases c5 : 0 ≤ x5_1
          · rw [if_pos c5] at H
            have c5b0 : decide (0 ≤ x5_1) = true := decide_eq_true c5
            clear c5
            by_cases c6 : x5_1 < (l1.length : Int)
            · rw [if_pos c6] at H
              have c6b0 : decide (x5_1 < (l1.length : Int)) = true := decide_eq_true c6
              clear c6
              by_cases c7 : (rd l0 x5_1) = (rd l1 x5_1)
              · rw [if_pos c7] at H
                have c7b0 : ((rd l0 x5_1) == (rd l1 x5_1)) = true := beq_iff_eq.mpr c7
                have c7b1 : ((rd l0 x5_1) != (rd l1 x5_1)) = false := bne_eq_false_iff_eq.mpr c7
                clear c7
                have H' := Aside0.mk H
                clear H
                have p216 : 0 ≤ (x5_1 : Int) := of_decide_eq_true (by first | (with_reducible assumption) | assumption)
                have q216 : x5_1 < (l0.length : Int) := of_decide_eq_true (by first | (with_reducible assumption) | assumption)
                obtain ⟨ad216, e216, hx216_0⟩ := Kd.at_int HR0.out x5_1 p216 q216
                cases e216
                replace p216 := eq_true p216
                replace q216 := eq_true q216
                have p217 : 0 ≤ (x5_1 : Int) := of_decide_eq_true (by first | (with_reducible assumption) | assumption)
                have q217 : x5_1 < (l1.length : Int) := of_decide_eq_true (by first | (with_reducible assumption) | assumption)
                obtain ⟨ad217, e217, hx217_0⟩ := Kd.at_int HR1.out x5_1 p217 q217
                cases e217
                replace p217 := eq_true p217
                replace q217 := eq_true q217
                go_wp2
                repeat (go_quiet (fail); try go_wp2)
                go_roundg k1
                case measure => have := HK1.out; omega
                case rel => exact ⟨(wrap64 (x5_1 + 1)), (by first | rfl | (simp; done) | (simp [*]; done)), H', ⟨by have := HK1.out; omega⟩, by repeat (first | exact Drawn0.refl _ | apply Drawn0.step)⟩
              · rw [if_neg c7] at H
                have c7b0 : ((rd l0 x5_1) == (rd l1 x5_1)) = false := beq_eq_false_iff_ne.mpr c7
                have c7b1 : ((rd l0 x5_1) != (rd l1 x5_1)) = true := bne_iff_ne.mpr c7
                obtain rfl := Option.some.inj H
                have p216 : 0 ≤ (x5_1 : Int) := of_decide_eq_true (by first | (with_reducible assumption) | assumption)
                have q216 : x5_1 < (l0.length : Int) := of_decide_eq_true (by first | (with_reducible assumption) | assumption)
                obtain ⟨ad216, e216, hx216_0⟩ := Kd.at_int HR0.out x5_1 p216 q216
                cases e216
                replace p216 := eq_true p216
                replace q216 := eq_true q216
                have p217 : 0 ≤ (x5_1 : Int) := of_decide_eq_true (by first | (with_reducible assumption) | assumption)
                have q217 : x5_1 < (l1.length : Int) := of_decide_eq_true (by first | (with_reducible assumption) | assumption)
                obtain ⟨ad217, e217, hx217_0⟩ := Kd.at_int HR1.out x5_1 p217 q217
                cases e217
                replace p217 := eq_true p217
                replace q217 := eq_true q217
                go_wp2
                repeat (go_quiet (fail); try go_wp2)
                all_goals
                  go_ret
                  exact ⟨by first | rfl | (simp; done) | (simp [*]; done), by repeat (first | exact Drawn0.refl _ | apply Drawn0.step)⟩
            · rw [if_neg c6] at H
              exact absurd H (by simp)
          · rw [if_neg c5] at H
            exact absurd H (by simp)
        · rw [if_neg c4] at H
          have c4b0 : decide (x5_1 < (l0.length : Int)) = false := decide_eq_false c4
          clear c4
          obtain rfl := Option.some.inj H
          go_wp2
          repeat (go_quiet (fail); try go_wp2)
          all_goals
            go_ret
            exact ⟨by first | rfl | (simp; done) | (simp [*]; done), by repeat (first | exact Drawn0.refl _ | apply Drawn0.step)⟩
  · rw [if_neg c3] at H
    have c3b0 : ((l0.length : Int) == (l1.length : Int)) = false := beq_eq_false_iff_ne.mpr c3
    have c3b1 : ((l0.length : Int) != (l1.length : Int)) = true := bne_iff_ne.mpr c3
    have c3b2 : (l0.length == l1.length) = false := by first | simpa using c3 | (simp at c3 ⊢; omega)
    obtain rfl := Option.some.inj H
    go_enter Try.func39, Try.ntmps39
    go_wp2
    repeat (go_quiet (fail); try go_wp2)
    all_goals
      go_ret
      exact ⟨by first | rfl | (simp; done) | (simp [*]; done), by repeat (first | exact Drawn0.refl _ | apply Drawn0.step)⟩
end Go.Proofs.Ytgmiokocipmbaaa.P
