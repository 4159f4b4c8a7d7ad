/- Functions and loops of the given program as Lean functions, and that the code comes to what they say: written by this session's own program; Lean checks it. -/
import Derived.Test.YtgmiokocipmbaaaZzPx0
namespace Go.Proofs.Ytgmiokocipmbaaa.P
open Go.RowKit Go.Proofs.YtgmiokocipmbaaaW.PrintWords Go.Proofs.YtgmiokocipmbaaaW.PrintLast Go.Proofs.YtgmiokocipmbaaaW.PrintMore
attribute [local go_sem] max2_int min2_int max_two min_two max_three min_three max_four min_four   -- for this text's walks alone
set_option linter.unusedVariables false
set_option linter.unusedSimpArgs false
/-! ### tlv_Known: function 18: by our own printer -/
def tlv_Known.f (a0_0 : Int) (a0_1 : ByteArray) : Option (Bool) := if a0_0 = 1 then (some (decide ((a0_1.size : Int) ≥ 2))) else (if a0_0 = 2 then (some (decide ((a0_1.size : Int) ≥ 8))) else (if a0_0 = 3 then (some (decide ((a0_1.size : Int) ≥ 6))) else (if a0_0 = 4 then (some (decide ((a0_1.size : Int) = 6))) else (if a0_0 = 5 then (some (decide ((a0_1.size : Int) = 8))) else (if (if a0_0 = 6 then decide (a0_0 = 6) else decide (a0_0 = 7)) = true then (some (decide ((a0_1.size : Int) = 2))) else (if a0_0 = 8 then (if (Int.tmod (a0_1.size : Int) 8) = 0 then (some (decide ((a0_1.size : Int) ≤ 128))) else (some false)) else (if a0_0 = 9 then (some (decide ((a0_1.size : Int) ≥ 16))) else (some (decide (a0_0 = 32776))))))))))
open Go.Proofs.Ytgmiokocipmbaaa.E in
set_option maxHeartbeats 60000000 in
set_option maxRecDepth 100000 in
theorem tlv_Known.calls (a0_0 : Int) (a0_1 : ByteArray) (r : Bool) (w : World) (h : tlv_Known.f a0_0 a0_1 = some r) :
    Calls Try.prog 18 #[.agg #[.int .i64 a0_0, .string a0_1]] w fun e w' => e = .returned (.bool r) ∧ Below w.heap.size w w' := by
  have H := h
  clear h
  unfold tlv_Known.f at H
  by_cases c1 : a0_0 = 1
  · rw [if_pos c1] at H
    obtain rfl := Option.some.inj H
    refine calls_of_wp (fn := Try.f18) (by kernel_rfl) rfl ?_
    have hS := St.enter #[.agg #[.int .i64 a0_0, .string a0_1]] 50 (by simp) [(0, .agg #[.int .i64 a0_0, .string a0_1])] (by simp)
    have HB0 := Below.refl w.heap.size w
    refine wp_seq_k (fun K1 hK1 => ?_)
    refine reg_seq (N := 50) (bs := [(0, .agg #[.int .i64 a0_0, .string a0_1])]) (I := fun x => Below w.heap.size w x) (ps := [IsB #[.int .i64 a0_0, .string a0_1] 26 w.heap.size, VB false]) (by kernel_rfl) ?_ ?_ rfl hS HB0 ?_ ?_
    · exact fun x y hI hb => below_step hI hb
    · exact .cons (Stays.b _ _ _) (.v (.nil))
    · refine .on rfl (fun a w hS hI hp => does_var (x_box rfl (congrArg Value.cells (hS.get 0 rfl))) (hI).size) ?_
      refine .on rfl (fun a w hS hI hp => does_val (x_assign rfl (rfl)) rfl) ?_
      exact .nil
    clear hS
    intro at2 w3 hS hI hp
    have hBw3_w := hI
    replace hS := hS.nil
    obtain ⟨g4, hv1, hgeg4, hbxg4⟩ := (show IsB _ 26 _ (sl _ 1) _ from hp 0 (by decide))
    have hBw3_w3 := Below.refl w3.heap.size w3
    have hS := hS.cons hv1
    clear hp hI hv1
    refine hK1 _ _ ?_
    (try clear hK1 K1)
    refine wp_seq_k (fun K5 hK5 => ?_)
    refine reg_seq (N := 50) (bs := [(1, .pointer (some ⟨g4, 0, none⟩))]) (I := fun x => Below w.heap.size w x ∧ Below w3.heap.size w3 x) (ps := [VP g4 1, IsV (.string a0_1), VI (a0_1.size : Int), VI (a0_1.size : Int)]) (by kernel_rfl) ?_ ?_ rfl hS ⟨hBw3_w, hBw3_w3⟩ ?_ ?_
    · exact fun x y hI hb => ⟨below_step hI.1 hb, below_step hI.2 hb⟩
    · exact .v (.v (.v (.v (.nil))))
    · refine .on rfl (fun a w hS hI hp => does_val (x_fieldE (b := 0) rfl (hS.get 0 rfl) Try.underlying26 rfl rfl (by kernel_rfl)) rfl) ?_
      refine .on rfl (fun a w hS hI hp => does_val (x_load1 (d := .string) rfl (hp.V 0 rfl rfl) (by kernel_rfl) rfl ((blk_cell (((hI.2).block g4 (blk_lt hbxg4)).trans hbxg4) 1).trans rfl)) rfl) ?_
      refine .on rfl (fun a w hS hI hp => does_val (x_lenS rfl (by kernel_rfl) (hp.V 1 rfl rfl)) rfl) ?_
      refine .asg 2 rfl rfl rfl rfl ?_
      exact .nil
    clear hS
    intro at6 w7 hS hI hp
    have hBw7_w := hI.1
    have hBw7_w3 := hI.2
    have hv3 : sl _ 3 = .int .i64 (a0_1.size : Int) := hp 3 (by decide)
    have hBw7_w7 := Below.refl w7.heap.size w7
    have hS := hS.cons hv3
    clear hp hI hv3
    refine hK5 _ _ ?_
    (try clear hK5 K5)
    refine wp_seq_k (fun K8 hK8 => ?_)
    refine wp_seq_k (fun K9 hK9 => ?_)
    refine reg_seq (N := 50) (bs := [(3, .int .i64 (a0_1.size : Int)), (1, .pointer (some ⟨g4, 0, none⟩))]) (I := fun x => Below w.heap.size w x ∧ Below w3.heap.size w3 x ∧ Below w7.heap.size w7 x) (ps := [VP g4 0, VI a0_0]) (by kernel_rfl) ?_ ?_ rfl hS ⟨hBw7_w, hBw7_w3, hBw7_w7⟩ ?_ ?_
    · exact fun x y hI hb => ⟨below_step hI.1 hb, below_step hI.2.1 hb, below_step hI.2.2 hb⟩
    · exact .v (.v (.nil))
    · refine .on rfl (fun a w hS hI hp => does_val (x_fieldE (b := 0) rfl (hS.get 1 rfl) Try.underlying26 rfl rfl (by kernel_rfl)) rfl) ?_
      refine .on rfl (fun a w hS hI hp => does_val (x_load1 (d := .int .i64) rfl (hp.V 0 rfl rfl) (by kernel_rfl) rfl ((blk_cell (((hI.2.1).block g4 (blk_lt hbxg4)).trans hbxg4) 0).trans rfl)) rfl) ?_
      exact .nil
    clear hS
    intro at10 w11 hS hI hp
    have hBw11_w := hI.1
    have hBw11_w3 := hI.2.1
    have hBw11_w7 := hI.2.2
    have hv8 : sl _ 8 = .int .i64 a0_0 := hp 1 (by decide)
    have hBw11_w11 := Below.refl w11.heap.size w11
    have hS := hS.cons hv8
    clear hp hI hv8
    refine hK9 _ _ ?_
    (try clear hK9 K9)
    refine wp_block ?_
    refine wp_seq_k (fun K12 hK12 => ?_)
    refine reg_seq (N := 50) (bs := [(8, .int .i64 a0_0), (3, .int .i64 (a0_1.size : Int)), (1, .pointer (some ⟨g4, 0, none⟩))]) (I := fun x => Below w.heap.size w x ∧ Below w3.heap.size w3 x ∧ Below w11.heap.size w11 x) (ps := [VB (decide (a0_0 = 1)), VB (decide (a0_0 = 1))]) (by kernel_rfl) ?_ ?_ rfl hS ⟨hBw11_w, hBw11_w3, hBw11_w11⟩ ?_ ?_
    · exact fun x y hI hb => ⟨below_step hI.1 hb, below_step hI.2.1 hb, below_step hI.2.2 hb⟩
    · exact .v (.v (.nil))
    · refine .on rfl (fun a w hS hI hp => does_val (x_bin rfl (hS.get 0 rfl) (rfl) (b_eql _ _ _ _ _ _)) rfl) ?_
      refine .asg 0 rfl rfl rfl rfl ?_
      exact .nil
    clear hS
    intro at13 w14 hS hI hp
    have hBw14_w := hI.1
    have hBw14_w3 := hI.2.1
    have hBw14_w11 := hI.2.2
    have hv9 : sl _ 9 = .bool (decide (a0_0 = 1)) := hp 1 (by decide)
    have hBw14_w14 := Below.refl w14.heap.size w14
    have hS := hS.cons hv9
    clear hp hI hv9
    refine hK12 _ _ ?_
    (try clear hK12 K12)
    refine wp_cond_true ((hS.get 0 rfl).trans (bT (decide_eq_true c1))) ?_
    refine wp_seq_k (fun K15 hK15 => ?_)
    refine reg_seq (N := 50) (bs := [(9, .bool (decide (a0_0 = 1))), (8, .int .i64 a0_0), (3, .int .i64 (a0_1.size : Int)), (1, .pointer (some ⟨g4, 0, none⟩))]) (I := fun x => Below w.heap.size w x ∧ Below w3.heap.size w3 x ∧ Below w14.heap.size w14 x) (ps := [VI (a0_1.size : Int), VB (decide ((a0_1.size : Int) ≥ 2)), VB (decide ((a0_1.size : Int) ≥ 2))]) (by kernel_rfl) ?_ ?_ rfl hS ⟨hBw14_w, hBw14_w3, hBw14_w14⟩ ?_ ?_
    · exact fun x y hI hb => ⟨below_step hI.1 hb, below_step hI.2.1 hb, below_step hI.2.2 hb⟩
    · exact .v (.v (.v (.nil)))
    · refine .ms 2 rfl rfl rfl ?_
      refine .on rfl (fun a w hS hI hp => does_val (x_bin rfl (hp.V 0 rfl rfl) (rfl) (b_geq _ _ _ _ _ _)) rfl) ?_
      refine .asg 1 rfl rfl rfl rfl ?_
      exact .nil
    clear hS
    intro at16 w17 hS hI hp
    have hBw17_w := hI.1
    have hBw17_w3 := hI.2.1
    have hBw17_w14 := hI.2.2
    replace hS := hS.nil
    have hv2 : sl _ 2 = .bool (decide ((a0_1.size : Int) ≥ 2)) := hp 2 (by decide)
    have hBw17_w17 := Below.refl w17.heap.size w17
    have hS := hS.cons hv2
    clear hp hI hv2
    refine hK15 _ _ ?_
    (try clear hK15 K15)
    refine wp_ret ?_
    (try simp only [Exit.then, Exit.inBlock, Exit.jump, Exit.noGoto])
    exact bodyPost_ret (v := .bool (decide ((a0_1.size : Int) ≥ 2))) (results_single rfl (Vals.at (hS.get 0 rfl) .nil)) hS.nodef ⟨rfl, hBw17_w⟩
  rw [if_neg c1] at H
  by_cases c2 : a0_0 = 2
  · rw [if_pos c2] at H
    obtain rfl := Option.some.inj H
    refine calls_of_wp (fn := Try.f18) (by kernel_rfl) rfl ?_
    have hS := St.enter #[.agg #[.int .i64 a0_0, .string a0_1]] 50 (by simp) [(0, .agg #[.int .i64 a0_0, .string a0_1])] (by simp)
    have HB0 := Below.refl w.heap.size w
    refine wp_seq_k (fun K1 hK1 => ?_)
    refine reg_seq (N := 50) (bs := [(0, .agg #[.int .i64 a0_0, .string a0_1])]) (I := fun x => Below w.heap.size w x) (ps := [IsB #[.int .i64 a0_0, .string a0_1] 26 w.heap.size, VB false]) (by kernel_rfl) ?_ ?_ rfl hS HB0 ?_ ?_
    · exact fun x y hI hb => below_step hI hb
    · exact .cons (Stays.b _ _ _) (.v (.nil))
    · refine .on rfl (fun a w hS hI hp => does_var (x_box rfl (congrArg Value.cells (hS.get 0 rfl))) (hI).size) ?_
      refine .on rfl (fun a w hS hI hp => does_val (x_assign rfl (rfl)) rfl) ?_
      exact .nil
    clear hS
    intro at2 w3 hS hI hp
    have hBw3_w := hI
    replace hS := hS.nil
    obtain ⟨g4, hv1, hgeg4, hbxg4⟩ := (show IsB _ 26 _ (sl _ 1) _ from hp 0 (by decide))
    have hBw3_w3 := Below.refl w3.heap.size w3
    have hS := hS.cons hv1
    clear hp hI hv1
    refine hK1 _ _ ?_
    (try clear hK1 K1)
    refine wp_seq_k (fun K5 hK5 => ?_)
    refine reg_seq (N := 50) (bs := [(1, .pointer (some ⟨g4, 0, none⟩))]) (I := fun x => Below w.heap.size w x ∧ Below w3.heap.size w3 x) (ps := [VP g4 1, IsV (.string a0_1), VI (a0_1.size : Int), VI (a0_1.size : Int)]) (by kernel_rfl) ?_ ?_ rfl hS ⟨hBw3_w, hBw3_w3⟩ ?_ ?_
    · exact fun x y hI hb => ⟨below_step hI.1 hb, below_step hI.2 hb⟩
    · exact .v (.v (.v (.v (.nil))))
    · refine .on rfl (fun a w hS hI hp => does_val (x_fieldE (b := 0) rfl (hS.get 0 rfl) Try.underlying26 rfl rfl (by kernel_rfl)) rfl) ?_
      refine .on rfl (fun a w hS hI hp => does_val (x_load1 (d := .string) rfl (hp.V 0 rfl rfl) (by kernel_rfl) rfl ((blk_cell (((hI.2).block g4 (blk_lt hbxg4)).trans hbxg4) 1).trans rfl)) rfl) ?_
      refine .on rfl (fun a w hS hI hp => does_val (x_lenS rfl (by kernel_rfl) (hp.V 1 rfl rfl)) rfl) ?_
      refine .asg 2 rfl rfl rfl rfl ?_
      exact .nil
    clear hS
    intro at6 w7 hS hI hp
    have hBw7_w := hI.1
    have hBw7_w3 := hI.2
    have hv3 : sl _ 3 = .int .i64 (a0_1.size : Int) := hp 3 (by decide)
    have hBw7_w7 := Below.refl w7.heap.size w7
    have hS := hS.cons hv3
    clear hp hI hv3
    refine hK5 _ _ ?_
    (try clear hK5 K5)
    refine wp_seq_k (fun K8 hK8 => ?_)
    refine wp_seq_k (fun K9 hK9 => ?_)
    refine reg_seq (N := 50) (bs := [(3, .int .i64 (a0_1.size : Int)), (1, .pointer (some ⟨g4, 0, none⟩))]) (I := fun x => Below w.heap.size w x ∧ Below w3.heap.size w3 x ∧ Below w7.heap.size w7 x) (ps := [VP g4 0, VI a0_0]) (by kernel_rfl) ?_ ?_ rfl hS ⟨hBw7_w, hBw7_w3, hBw7_w7⟩ ?_ ?_
    · exact fun x y hI hb => ⟨below_step hI.1 hb, below_step hI.2.1 hb, below_step hI.2.2 hb⟩
    · exact .v (.v (.nil))
    · refine .on rfl (fun a w hS hI hp => does_val (x_fieldE (b := 0) rfl (hS.get 1 rfl) Try.underlying26 rfl rfl (by kernel_rfl)) rfl) ?_
      refine .on rfl (fun a w hS hI hp => does_val (x_load1 (d := .int .i64) rfl (hp.V 0 rfl rfl) (by kernel_rfl) rfl ((blk_cell (((hI.2.1).block g4 (blk_lt hbxg4)).trans hbxg4) 0).trans rfl)) rfl) ?_
      exact .nil
    clear hS
    intro at10 w11 hS hI hp
    have hBw11_w := hI.1
    have hBw11_w3 := hI.2.1
    have hBw11_w7 := hI.2.2
    have hv8 : sl _ 8 = .int .i64 a0_0 := hp 1 (by decide)
    have hBw11_w11 := Below.refl w11.heap.size w11
    have hS := hS.cons hv8
    clear hp hI hv8
    refine hK9 _ _ ?_
    (try clear hK9 K9)
    refine wp_block ?_
    refine wp_seq_k (fun K12 hK12 => ?_)
    refine reg_seq (N := 50) (bs := [(8, .int .i64 a0_0), (3, .int .i64 (a0_1.size : Int)), (1, .pointer (some ⟨g4, 0, none⟩))]) (I := fun x => Below w.heap.size w x ∧ Below w3.heap.size w3 x ∧ Below w11.heap.size w11 x) (ps := [VB (decide (a0_0 = 1)), VB (decide (a0_0 = 1))]) (by kernel_rfl) ?_ ?_ rfl hS ⟨hBw11_w, hBw11_w3, hBw11_w11⟩ ?_ ?_
    · exact fun x y hI hb => ⟨below_step hI.1 hb, below_step hI.2.1 hb, below_step hI.2.2 hb⟩
    · exact .v (.v (.nil))
    · refine .on rfl (fun a w hS hI hp => does_val (x_bin rfl (hS.get 0 rfl) (rfl) (b_eql _ _ _ _ _ _)) rfl) ?_
      refine .asg 0 rfl rfl rfl rfl ?_
      exact .nil
    clear hS
    intro at13 w14 hS hI hp
    have hBw14_w := hI.1
    have hBw14_w3 := hI.2.1
    have hBw14_w11 := hI.2.2
    have hv9 : sl _ 9 = .bool (decide (a0_0 = 1)) := hp 1 (by decide)
    have hBw14_w14 := Below.refl w14.heap.size w14
    have hS := hS.cons hv9
    clear hp hI hv9
    refine hK12 _ _ ?_
    (try clear hK12 K12)
    refine wp_cond_false ((hS.get 0 rfl).trans (bF (decide_eq_false c1))) ?_
    refine wp_seq_k (fun K15 hK15 => ?_)
    refine reg_seq (N := 50) (bs := [(9, .bool (decide (a0_0 = 1))), (8, .int .i64 a0_0), (3, .int .i64 (a0_1.size : Int)), (1, .pointer (some ⟨g4, 0, none⟩))]) (I := fun x => Below w.heap.size w x ∧ Below w3.heap.size w3 x ∧ Below w14.heap.size w14 x) (ps := [VB (decide (a0_0 = 2)), VB (decide (a0_0 = 2))]) (by kernel_rfl) ?_ ?_ rfl hS ⟨hBw14_w, hBw14_w3, hBw14_w14⟩ ?_ ?_
    · exact fun x y hI hb => ⟨below_step hI.1 hb, below_step hI.2.1 hb, below_step hI.2.2 hb⟩
    · exact .v (.v (.nil))
    · refine .on rfl (fun a w hS hI hp => does_val (x_bin rfl (hS.get 1 rfl) (rfl) (b_eql _ _ _ _ _ _)) rfl) ?_
      refine .asg 0 rfl rfl rfl rfl ?_
      exact .nil
    clear hS
    intro at16 w17 hS hI hp
    have hBw17_w := hI.1
    have hBw17_w3 := hI.2.1
    have hBw17_w14 := hI.2.2
    replace hS := (((hS.nil).cons (hS.get 3 rfl)).cons (hS.get 2 rfl)).cons (hS.get 1 rfl)
    have hv13 : sl _ 13 = .bool (decide (a0_0 = 2)) := hp 1 (by decide)
    have hBw17_w17 := Below.refl w17.heap.size w17
    have hS := hS.cons hv13
    clear hp hI hv13
    refine hK15 _ _ ?_
    (try clear hK15 K15)
    refine wp_cond_true ((hS.get 0 rfl).trans (bT (decide_eq_true c2))) ?_
    refine wp_seq_k (fun K18 hK18 => ?_)
    refine reg_seq (N := 50) (bs := [(13, .bool (decide (a0_0 = 2))), (8, .int .i64 a0_0), (3, .int .i64 (a0_1.size : Int)), (1, .pointer (some ⟨g4, 0, none⟩))]) (I := fun x => Below w.heap.size w x ∧ Below w3.heap.size w3 x ∧ Below w17.heap.size w17 x) (ps := [VI (a0_1.size : Int), VB (decide ((a0_1.size : Int) ≥ 8)), VB (decide ((a0_1.size : Int) ≥ 8))]) (by kernel_rfl) ?_ ?_ rfl hS ⟨hBw17_w, hBw17_w3, hBw17_w17⟩ ?_ ?_
    · exact fun x y hI hb => ⟨below_step hI.1 hb, below_step hI.2.1 hb, below_step hI.2.2 hb⟩
    · exact .v (.v (.v (.nil)))
    · refine .ms 2 rfl rfl rfl ?_
      refine .on rfl (fun a w hS hI hp => does_val (x_bin rfl (hp.V 0 rfl rfl) (rfl) (b_geq _ _ _ _ _ _)) rfl) ?_
      refine .asg 1 rfl rfl rfl rfl ?_
      exact .nil
    clear hS
    intro at19 w20 hS hI hp
    have hBw20_w := hI.1
    have hBw20_w3 := hI.2.1
    have hBw20_w17 := hI.2.2
    replace hS := hS.nil
    have hv2 : sl _ 2 = .bool (decide ((a0_1.size : Int) ≥ 8)) := hp 2 (by decide)
    have hBw20_w20 := Below.refl w20.heap.size w20
    have hS := hS.cons hv2
    clear hp hI hv2
    refine hK18 _ _ ?_
    (try clear hK18 K18)
    refine wp_ret ?_
    (try simp only [Exit.then, Exit.inBlock, Exit.jump, Exit.noGoto])
    exact bodyPost_ret (v := .bool (decide ((a0_1.size : Int) ≥ 8))) (results_single rfl (Vals.at (hS.get 0 rfl) .nil)) hS.nodef ⟨rfl, hBw20_w⟩
  rw [if_neg c2] at H
  by_cases c3 : a0_0 = 3
  · rw [if_pos c3] at H
    obtain rfl := Option.some.inj H
    refine calls_of_wp (fn := Try.f18) (by kernel_rfl) rfl ?_
    have hS := St.enter #[.agg #[.int .i64 a0_0, .string a0_1]] 50 (by simp) [(0, .agg #[.int .i64 a0_0, .string a0_1])] (by simp)
    have HB0 := Below.refl w.heap.size w
    refine wp_seq_k (fun K1 hK1 => ?_)
    refine reg_seq (N := 50) (bs := [(0, .agg #[.int .i64 a0_0, .string a0_1])]) (I := fun x => Below w.heap.size w x) (ps := [IsB #[.int .i64 a0_0, .string a0_1] 26 w.heap.size, VB false]) (by kernel_rfl) ?_ ?_ rfl hS HB0 ?_ ?_
    · exact fun x y hI hb => below_step hI hb
    · exact .cons (Stays.b _ _ _) (.v (.nil))
    · refine .on rfl (fun a w hS hI hp => does_var (x_box rfl (congrArg Value.cells (hS.get 0 rfl))) (hI).size) ?_
      refine .on rfl (fun a w hS hI hp => does_val (x_assign rfl (rfl)) rfl) ?_
      exact .nil
    clear hS
    intro at2 w3 hS hI hp
    have hBw3_w := hI
    replace hS := hS.nil
    obtain ⟨g4, hv1, hgeg4, hbxg4⟩ := (show IsB _ 26 _ (sl _ 1) _ from hp 0 (by decide))
    have hBw3_w3 := Below.refl w3.heap.size w3
    have hS := hS.cons hv1
    clear hp hI hv1
    refine hK1 _ _ ?_
    (try clear hK1 K1)
    refine wp_seq_k (fun K5 hK5 => ?_)
    refine reg_seq (N := 50) (bs := [(1, .pointer (some ⟨g4, 0, none⟩))]) (I := fun x => Below w.heap.size w x ∧ Below w3.heap.size w3 x) (ps := [VP g4 1, IsV (.string a0_1), VI (a0_1.size : Int), VI (a0_1.size : Int)]) (by kernel_rfl) ?_ ?_ rfl hS ⟨hBw3_w, hBw3_w3⟩ ?_ ?_
    · exact fun x y hI hb => ⟨below_step hI.1 hb, below_step hI.2 hb⟩
    · exact .v (.v (.v (.v (.nil))))
    · refine .on rfl (fun a w hS hI hp => does_val (x_fieldE (b := 0) rfl (hS.get 0 rfl) Try.underlying26 rfl rfl (by kernel_rfl)) rfl) ?_
      refine .on rfl (fun a w hS hI hp => does_val (x_load1 (d := .string) rfl (hp.V 0 rfl rfl) (by kernel_rfl) rfl ((blk_cell (((hI.2).block g4 (blk_lt hbxg4)).trans hbxg4) 1).trans rfl)) rfl) ?_
      refine .on rfl (fun a w hS hI hp => does_val (x_lenS rfl (by kernel_rfl) (hp.V 1 rfl rfl)) rfl) ?_
      refine .asg 2 rfl rfl rfl rfl ?_
      exact .nil
    clear hS
    intro at6 w7 hS hI hp
    have hBw7_w := hI.1
    have hBw7_w3 := hI.2
    have hv3 : sl _ 3 = .int .i64 (a0_1.size : Int) := hp 3 (by decide)
    have hBw7_w7 := Below.refl w7.heap.size w7
    have hS := hS.cons hv3
    clear hp hI hv3
    refine hK5 _ _ ?_
    (try clear hK5 K5)
    refine wp_seq_k (fun K8 hK8 => ?_)
    refine wp_seq_k (fun K9 hK9 => ?_)
    refine reg_seq (N := 50) (bs := [(3, .int .i64 (a0_1.size : Int)), (1, .pointer (some ⟨g4, 0, none⟩))]) (I := fun x => Below w.heap.size w x ∧ Below w3.heap.size w3 x ∧ Below w7.heap.size w7 x) (ps := [VP g4 0, VI a0_0]) (by kernel_rfl) ?_ ?_ rfl hS ⟨hBw7_w, hBw7_w3, hBw7_w7⟩ ?_ ?_
    · exact fun x y hI hb => ⟨below_step hI.1 hb, below_step hI.2.1 hb, below_step hI.2.2 hb⟩
    · exact .v (.v (.nil))
    · refine .on rfl (fun a w hS hI hp => does_val (x_fieldE (b := 0) rfl (hS.get 1 rfl) Try.underlying26 rfl rfl (by kernel_rfl)) rfl) ?_
      refine .on rfl (fun a w hS hI hp => does_val (x_load1 (d := .int .i64) rfl (hp.V 0 rfl rfl) (by kernel_rfl) rfl ((blk_cell (((hI.2.1).block g4 (blk_lt hbxg4)).trans hbxg4) 0).trans rfl)) rfl) ?_
      exact .nil
    clear hS
    intro at10 w11 hS hI hp
    have hBw11_w := hI.1
    have hBw11_w3 := hI.2.1
    have hBw11_w7 := hI.2.2
    have hv8 : sl _ 8 = .int .i64 a0_0 := hp 1 (by decide)
    have hBw11_w11 := Below.refl w11.heap.size w11
    have hS := hS.cons hv8
    clear hp hI hv8
    refine hK9 _ _ ?_
    (try clear hK9 K9)
    refine wp_block ?_
    refine wp_seq_k (fun K12 hK12 => ?_)
    refine reg_seq (N := 50) (bs := [(8, .int .i64 a0_0), (3, .int .i64 (a0_1.size : Int)), (1, .pointer (some ⟨g4, 0, none⟩))]) (I := fun x => Below w.heap.size w x ∧ Below w3.heap.size w3 x ∧ Below w11.heap.size w11 x) (ps := [VB (decide (a0_0 = 1)), VB (decide (a0_0 = 1))]) (by kernel_rfl) ?_ ?_ rfl hS ⟨hBw11_w, hBw11_w3, hBw11_w11⟩ ?_ ?_
    · exact fun x y hI hb => ⟨below_step hI.1 hb, below_step hI.2.1 hb, below_step hI.2.2 hb⟩
    · exact .v (.v (.nil))
    · refine .on rfl (fun a w hS hI hp => does_val (x_bin rfl (hS.get 0 rfl) (rfl) (b_eql _ _ _ _ _ _)) rfl) ?_
      refine .asg 0 rfl rfl rfl rfl ?_
      exact .nil
    clear hS
    intro at13 w14 hS hI hp
    have hBw14_w := hI.1
    have hBw14_w3 := hI.2.1
    have hBw14_w11 := hI.2.2
    have hv9 : sl _ 9 = .bool (decide (a0_0 = 1)) := hp 1 (by decide)
    have hBw14_w14 := Below.refl w14.heap.size w14
    have hS := hS.cons hv9
    clear hp hI hv9
    refine hK12 _ _ ?_
    (try clear hK12 K12)
    refine wp_cond_false ((hS.get 0 rfl).trans (bF (decide_eq_false c1))) ?_
    refine wp_seq_k (fun K15 hK15 => ?_)
    refine reg_seq (N := 50) (bs := [(9, .bool (decide (a0_0 = 1))), (8, .int .i64 a0_0), (3, .int .i64 (a0_1.size : Int)), (1, .pointer (some ⟨g4, 0, none⟩))]) (I := fun x => Below w.heap.size w x ∧ Below w3.heap.size w3 x ∧ Below w14.heap.size w14 x) (ps := [VB (decide (a0_0 = 2)), VB (decide (a0_0 = 2))]) (by kernel_rfl) ?_ ?_ rfl hS ⟨hBw14_w, hBw14_w3, hBw14_w14⟩ ?_ ?_
    · exact fun x y hI hb => ⟨below_step hI.1 hb, below_step hI.2.1 hb, below_step hI.2.2 hb⟩
    · exact .v (.v (.nil))
    · refine .on rfl (fun a w hS hI hp => does_val (x_bin rfl (hS.get 1 rfl) (rfl) (b_eql _ _ _ _ _ _)) rfl) ?_
      refine .asg 0 rfl rfl rfl rfl ?_
      exact .nil
    clear hS
    intro at16 w17 hS hI hp
    have hBw17_w := hI.1
    have hBw17_w3 := hI.2.1
    have hBw17_w14 := hI.2.2
    replace hS := (((hS.nil).cons (hS.get 3 rfl)).cons (hS.get 2 rfl)).cons (hS.get 1 rfl)
    have hv13 : sl _ 13 = .bool (decide (a0_0 = 2)) := hp 1 (by decide)
    have hBw17_w17 := Below.refl w17.heap.size w17
    have hS := hS.cons hv13
    clear hp hI hv13
    refine hK15 _ _ ?_
    (try clear hK15 K15)
    refine wp_cond_false ((hS.get 0 rfl).trans (bF (decide_eq_false c2))) ?_
    refine wp_seq_k (fun K18 hK18 => ?_)
    refine reg_seq (N := 50) (bs := [(13, .bool (decide (a0_0 = 2))), (8, .int .i64 a0_0), (3, .int .i64 (a0_1.size : Int)), (1, .pointer (some ⟨g4, 0, none⟩))]) (I := fun x => Below w.heap.size w x ∧ Below w3.heap.size w3 x ∧ Below w17.heap.size w17 x) (ps := [VB (decide (a0_0 = 3)), VB (decide (a0_0 = 3))]) (by kernel_rfl) ?_ ?_ rfl hS ⟨hBw17_w, hBw17_w3, hBw17_w17⟩ ?_ ?_
    · exact fun x y hI hb => ⟨below_step hI.1 hb, below_step hI.2.1 hb, below_step hI.2.2 hb⟩
    · exact .v (.v (.nil))
    · refine .on rfl (fun a w hS hI hp => does_val (x_bin rfl (hS.get 1 rfl) (rfl) (b_eql _ _ _ _ _ _)) rfl) ?_
      refine .asg 0 rfl rfl rfl rfl ?_
      exact .nil
    clear hS
    intro at19 w20 hS hI hp
    have hBw20_w := hI.1
    have hBw20_w3 := hI.2.1
    have hBw20_w17 := hI.2.2
    replace hS := (((hS.nil).cons (hS.get 3 rfl)).cons (hS.get 2 rfl)).cons (hS.get 1 rfl)
    have hv17 : sl _ 17 = .bool (decide (a0_0 = 3)) := hp 1 (by decide)
    have hBw20_w20 := Below.refl w20.heap.size w20
    have hS := hS.cons hv17
    clear hp hI hv17
    refine hK18 _ _ ?_
    (try clear hK18 K18)
    refine wp_cond_true ((hS.get 0 rfl).trans (bT (decide_eq_true c3))) ?_
    refine wp_seq_k (fun K21 hK21 => ?_)
    refine reg_seq (N := 50) (bs := [(17, .bool (decide (a0_0 = 3))), (8, .int .i64 a0_0), (3, .int .i64 (a0_1.size : Int)), (1, .pointer (some ⟨g4, 0, none⟩))]) (I := fun x => Below w.heap.size w x ∧ Below w3.heap.size w3 x ∧ Below w20.heap.size w20 x) (ps := [VI (a0_1.size : Int), VB (decide ((a0_1.size : Int) ≥ 6)), VB (decide ((a0_1.size : Int) ≥ 6))]) (by kernel_rfl) ?_ ?_ rfl hS ⟨hBw20_w, hBw20_w3, hBw20_w20⟩ ?_ ?_
    · exact fun x y hI hb => ⟨below_step hI.1 hb, below_step hI.2.1 hb, below_step hI.2.2 hb⟩
    · exact .v (.v (.v (.nil)))
    · refine .ms 2 rfl rfl rfl ?_
      refine .on rfl (fun a w hS hI hp => does_val (x_bin rfl (hp.V 0 rfl rfl) (rfl) (b_geq _ _ _ _ _ _)) rfl) ?_
      refine .asg 1 rfl rfl rfl rfl ?_
      exact .nil
    clear hS
    intro at22 w23 hS hI hp
    have hBw23_w := hI.1
    have hBw23_w3 := hI.2.1
    have hBw23_w20 := hI.2.2
    replace hS := hS.nil
    have hv2 : sl _ 2 = .bool (decide ((a0_1.size : Int) ≥ 6)) := hp 2 (by decide)
    have hBw23_w23 := Below.refl w23.heap.size w23
    have hS := hS.cons hv2
    clear hp hI hv2
    refine hK21 _ _ ?_
    (try clear hK21 K21)
    refine wp_ret ?_
    (try simp only [Exit.then, Exit.inBlock, Exit.jump, Exit.noGoto])
    exact bodyPost_ret (v := .bool (decide ((a0_1.size : Int) ≥ 6))) (results_single rfl (Vals.at (hS.get 0 rfl) .nil)) hS.nodef ⟨rfl, hBw23_w⟩
  rw [if_neg c3] at H
  by_cases c4 : a0_0 = 4
  · rw [if_pos c4] at H
    obtain rfl := Option.some.inj H
    refine calls_of_wp (fn := Try.f18) (by kernel_rfl) rfl ?_
    have hS := St.enter #[.agg #[.int .i64 a0_0, .string a0_1]] 50 (by simp) [(0, .agg #[.int .i64 a0_0, .string a0_1])] (by simp)
    have HB0 := Below.refl w.heap.size w
    refine wp_seq_k (fun K1 hK1 => ?_)
    refine reg_seq (N := 50) (bs := [(0, .agg #[.int .i64 a0_0, .string a0_1])]) (I := fun x => Below w.heap.size w x) (ps := [IsB #[.int .i64 a0_0, .string a0_1] 26 w.heap.size, VB false]) (by kernel_rfl) ?_ ?_ rfl hS HB0 ?_ ?_
    · exact fun x y hI hb => below_step hI hb
    · exact .cons (Stays.b _ _ _) (.v (.nil))
    · refine .on rfl (fun a w hS hI hp => does_var (x_box rfl (congrArg Value.cells (hS.get 0 rfl))) (hI).size) ?_
      refine .on rfl (fun a w hS hI hp => does_val (x_assign rfl (rfl)) rfl) ?_
      exact .nil
    clear hS
    intro at2 w3 hS hI hp
    have hBw3_w := hI
    replace hS := hS.nil
    obtain ⟨g4, hv1, hgeg4, hbxg4⟩ := (show IsB _ 26 _ (sl _ 1) _ from hp 0 (by decide))
    have hBw3_w3 := Below.refl w3.heap.size w3
    have hS := hS.cons hv1
    clear hp hI hv1
    refine hK1 _ _ ?_
    (try clear hK1 K1)
    refine wp_seq_k (fun K5 hK5 => ?_)
    refine reg_seq (N := 50) (bs := [(1, .pointer (some ⟨g4, 0, none⟩))]) (I := fun x => Below w.heap.size w x ∧ Below w3.heap.size w3 x) (ps := [VP g4 1, IsV (.string a0_1), VI (a0_1.size : Int), VI (a0_1.size : Int)]) (by kernel_rfl) ?_ ?_ rfl hS ⟨hBw3_w, hBw3_w3⟩ ?_ ?_
    · exact fun x y hI hb => ⟨below_step hI.1 hb, below_step hI.2 hb⟩
    · exact .v (.v (.v (.v (.nil))))
    · refine .on rfl (fun a w hS hI hp => does_val (x_fieldE (b := 0) rfl (hS.get 0 rfl) Try.underlying26 rfl rfl (by kernel_rfl)) rfl) ?_
      refine .on rfl (fun a w hS hI hp => does_val (x_load1 (d := .string) rfl (hp.V 0 rfl rfl) (by kernel_rfl) rfl ((blk_cell (((hI.2).block g4 (blk_lt hbxg4)).trans hbxg4) 1).trans rfl)) rfl) ?_
      refine .on rfl (fun a w hS hI hp => does_val (x_lenS rfl (by kernel_rfl) (hp.V 1 rfl rfl)) rfl) ?_
      refine .asg 2 rfl rfl rfl rfl ?_
      exact .nil
    clear hS
    intro at6 w7 hS hI hp
    have hBw7_w := hI.1
    have hBw7_w3 := hI.2
    have hv3 : sl _ 3 = .int .i64 (a0_1.size : Int) := hp 3 (by decide)
    have hBw7_w7 := Below.refl w7.heap.size w7
    have hS := hS.cons hv3
    clear hp hI hv3
    refine hK5 _ _ ?_
    (try clear hK5 K5)
    refine wp_seq_k (fun K8 hK8 => ?_)
    refine wp_seq_k (fun K9 hK9 => ?_)
    refine reg_seq (N := 50) (bs := [(3, .int .i64 (a0_1.size : Int)), (1, .pointer (some ⟨g4, 0, none⟩))]) (I := fun x => Below w.heap.size w x ∧ Below w3.heap.size w3 x ∧ Below w7.heap.size w7 x) (ps := [VP g4 0, VI a0_0]) (by kernel_rfl) ?_ ?_ rfl hS ⟨hBw7_w, hBw7_w3, hBw7_w7⟩ ?_ ?_
    · exact fun x y hI hb => ⟨below_step hI.1 hb, below_step hI.2.1 hb, below_step hI.2.2 hb⟩
    · exact .v (.v (.nil))
    · refine .on rfl (fun a w hS hI hp => does_val (x_fieldE (b := 0) rfl (hS.get 1 rfl) Try.underlying26 rfl rfl (by kernel_rfl)) rfl) ?_
      refine .on rfl (fun a w hS hI hp => does_val (x_load1 (d := .int .i64) rfl (hp.V 0 rfl rfl) (by kernel_rfl) rfl ((blk_cell (((hI.2.1).block g4 (blk_lt hbxg4)).trans hbxg4) 0).trans rfl)) rfl) ?_
      exact .nil
    clear hS
    intro at10 w11 hS hI hp
    have hBw11_w := hI.1
    have hBw11_w3 := hI.2.1
    have hBw11_w7 := hI.2.2
    have hv8 : sl _ 8 = .int .i64 a0_0 := hp 1 (by decide)
    have hBw11_w11 := Below.refl w11.heap.size w11
    have hS := hS.cons hv8
    clear hp hI hv8
    refine hK9 _ _ ?_
    (try clear hK9 K9)
    refine wp_block ?_
    refine wp_seq_k (fun K12 hK12 => ?_)
    refine reg_seq (N := 50) (bs := [(8, .int .i64 a0_0), (3, .int .i64 (a0_1.size : Int)), (1, .pointer (some ⟨g4, 0, none⟩))]) (I := fun x => Below w.heap.size w x ∧ Below w3.heap.size w3 x ∧ Below w11.heap.size w11 x) (ps := [VB (decide (a0_0 = 1)), VB (decide (a0_0 = 1))]) (by kernel_rfl) ?_ ?_ rfl hS ⟨hBw11_w, hBw11_w3, hBw11_w11⟩ ?_ ?_
    · exact fun x y hI hb => ⟨below_step hI.1 hb, below_step hI.2.1 hb, below_step hI.2.2 hb⟩
    · exact .v (.v (.nil))
    · refine .on rfl (fun a w hS hI hp => does_val (x_bin rfl (hS.get 0 rfl) (rfl) (b_eql _ _ _ _ _ _)) rfl) ?_
      refine .asg 0 rfl rfl rfl rfl ?_
      exact .nil
    clear hS
    intro at13 w14 hS hI hp
    have hBw14_w := hI.1
    have hBw14_w3 := hI.2.1
    have hBw14_w11 := hI.2.2
    have hv9 : sl _ 9 = .bool (decide (a0_0 = 1)) := hp 1 (by decide)
    have hBw14_w14 := Below.refl w14.heap.size w14
    have hS := hS.cons hv9
    clear hp hI hv9
    refine hK12 _ _ ?_
    (try clear hK12 K12)
    refine wp_cond_false ((hS.get 0 rfl).trans (bF (decide_eq_false c1))) ?_
    refine wp_seq_k (fun K15 hK15 => ?_)
    refine reg_seq (N := 50) (bs := [(9, .bool (decide (a0_0 = 1))), (8, .int .i64 a0_0), (3, .int .i64 (a0_1.size : Int)), (1, .pointer (some ⟨g4, 0, none⟩))]) (I := fun x => Below w.heap.size w x ∧ Below w3.heap.size w3 x ∧ Below w14.heap.size w14 x) (ps := [VB (decide (a0_0 = 2)), VB (decide (a0_0 = 2))]) (by kernel_rfl) ?_ ?_ rfl hS ⟨hBw14_w, hBw14_w3, hBw14_w14⟩ ?_ ?_
    · exact fun x y hI hb => ⟨below_step hI.1 hb, below_step hI.2.1 hb, below_step hI.2.2 hb⟩
    · exact .v (.v (.nil))
    · refine .on rfl (fun a w hS hI hp => does_val (x_bin rfl (hS.get 1 rfl) (rfl) (b_eql _ _ _ _ _ _)) rfl) ?_
      refine .asg 0 rfl rfl rfl rfl ?_
      exact .nil
    clear hS
    intro at16 w17 hS hI hp
    have hBw17_w := hI.1
    have hBw17_w3 := hI.2.1
    have hBw17_w14 := hI.2.2
    replace hS := (((hS.nil).cons (hS.get 3 rfl)).cons (hS.get 2 rfl)).cons (hS.get 1 rfl)
    have hv13 : sl _ 13 = .bool (decide (a0_0 = 2)) := hp 1 (by decide)
    have hBw17_w17 := Below.refl w17.heap.size w17
    have hS := hS.cons hv13
    clear hp hI hv13
    refine hK15 _ _ ?_
    (try clear hK15 K15)
    refine wp_cond_false ((hS.get 0 rfl).trans (bF (decide_eq_false c2))) ?_
    refine wp_seq_k (fun K18 hK18 => ?_)
    refine reg_seq (N := 50) (bs := [(13, .bool (decide (a0_0 = 2))), (8, .int .i64 a0_0), (3, .int .i64 (a0_1.size : Int)), (1, .pointer (some ⟨g4, 0, none⟩))]) (I := fun x => Below w.heap.size w x ∧ Below w3.heap.size w3 x ∧ Below w17.heap.size w17 x) (ps := [VB (decide (a0_0 = 3)), VB (decide (a0_0 = 3))]) (by kernel_rfl) ?_ ?_ rfl hS ⟨hBw17_w, hBw17_w3, hBw17_w17⟩ ?_ ?_
    · exact fun x y hI hb => ⟨below_step hI.1 hb, below_step hI.2.1 hb, below_step hI.2.2 hb⟩
    · exact .v (.v (.nil))
    · refine .on rfl (fun a w hS hI hp => does_val (x_bin rfl (hS.get 1 rfl) (rfl) (b_eql _ _ _ _ _ _)) rfl) ?_
      refine .asg 0 rfl rfl rfl rfl ?_
      exact .nil
    clear hS
    intro at19 w20 hS hI hp
    have hBw20_w := hI.1
    have hBw20_w3 := hI.2.1
    have hBw20_w17 := hI.2.2
    replace hS := (((hS.nil).cons (hS.get 3 rfl)).cons (hS.get 2 rfl)).cons (hS.get 1 rfl)
    have hv17 : sl _ 17 = .bool (decide (a0_0 = 3)) := hp 1 (by decide)
    have hBw20_w20 := Below.refl w20.heap.size w20
    have hS := hS.cons hv17
    clear hp hI hv17
    refine hK18 _ _ ?_
    (try clear hK18 K18)
    refine wp_cond_false ((hS.get 0 rfl).trans (bF (decide_eq_false c3))) ?_
    refine wp_seq_k (fun K21 hK21 => ?_)
    refine reg_seq (N := 50) (bs := [(17, .bool (decide (a0_0 = 3))), (8, .int .i64 a0_0), (3, .int .i64 (a0_1.size : Int)), (1, .pointer (some ⟨g4, 0, none⟩))]) (I := fun x => Below w.heap.size w x ∧ Below w3.heap.size w3 x ∧ Below w20.heap.size w20 x) (ps := [VB (decide (a0_0 = 4)), VB (decide (a0_0 = 4))]) (by kernel_rfl) ?_ ?_ rfl hS ⟨hBw20_w, hBw20_w3, hBw20_w20⟩ ?_ ?_
    · exact fun x y hI hb => ⟨below_step hI.1 hb, below_step hI.2.1 hb, below_step hI.2.2 hb⟩
    · exact .v (.v (.nil))
    · refine .on rfl (fun a w hS hI hp => does_val (x_bin rfl (hS.get 1 rfl) (rfl) (b_eql _ _ _ _ _ _)) rfl) ?_
      refine .asg 0 rfl rfl rfl rfl ?_
      exact .nil
    clear hS
    intro at22 w23 hS hI hp
    have hBw23_w := hI.1
    have hBw23_w3 := hI.2.1
    have hBw23_w20 := hI.2.2
    replace hS := (((hS.nil).cons (hS.get 3 rfl)).cons (hS.get 2 rfl)).cons (hS.get 1 rfl)
    have hv21 : sl _ 21 = .bool (decide (a0_0 = 4)) := hp 1 (by decide)
    have hBw23_w23 := Below.refl w23.heap.size w23
    have hS := hS.cons hv21
    clear hp hI hv21
    refine hK21 _ _ ?_
    (try clear hK21 K21)
    refine wp_cond_true ((hS.get 0 rfl).trans (bT (decide_eq_true c4))) ?_
    refine wp_seq_k (fun K24 hK24 => ?_)
    refine reg_seq (N := 50) (bs := [(21, .bool (decide (a0_0 = 4))), (8, .int .i64 a0_0), (3, .int .i64 (a0_1.size : Int)), (1, .pointer (some ⟨g4, 0, none⟩))]) (I := fun x => Below w.heap.size w x ∧ Below w3.heap.size w3 x ∧ Below w23.heap.size w23 x) (ps := [VI (a0_1.size : Int), VB (decide ((a0_1.size : Int) = 6)), VB (decide ((a0_1.size : Int) = 6))]) (by kernel_rfl) ?_ ?_ rfl hS ⟨hBw23_w, hBw23_w3, hBw23_w23⟩ ?_ ?_
    · exact fun x y hI hb => ⟨below_step hI.1 hb, below_step hI.2.1 hb, below_step hI.2.2 hb⟩
    · exact .v (.v (.v (.nil)))
    · refine .ms 2 rfl rfl rfl ?_
      refine .on rfl (fun a w hS hI hp => does_val (x_bin rfl (hp.V 0 rfl rfl) (rfl) (b_eql _ _ _ _ _ _)) rfl) ?_
      refine .asg 1 rfl rfl rfl rfl ?_
      exact .nil
    clear hS
    intro at25 w26 hS hI hp
    have hBw26_w := hI.1
    have hBw26_w3 := hI.2.1
    have hBw26_w23 := hI.2.2
    replace hS := hS.nil
    have hv2 : sl _ 2 = .bool (decide ((a0_1.size : Int) = 6)) := hp 2 (by decide)
    have hBw26_w26 := Below.refl w26.heap.size w26
    have hS := hS.cons hv2
    clear hp hI hv2
    refine hK24 _ _ ?_
    (try clear hK24 K24)
    refine wp_ret ?_
    (try simp only [Exit.then, Exit.inBlock, Exit.jump, Exit.noGoto])
    exact bodyPost_ret (v := .bool (decide ((a0_1.size : Int) = 6))) (results_single rfl (Vals.at (hS.get 0 rfl) .nil)) hS.nodef ⟨rfl, hBw26_w⟩
  rw [if_neg c4] at H
  by_cases c5 : a0_0 = 5
  · rw [if_pos c5] at H
    obtain rfl := Option.some.inj H
    refine calls_of_wp (fn := Try.f18) (by kernel_rfl) rfl ?_
    have hS := St.enter #[.agg #[.int .i64 a0_0, .string a0_1]] 50 (by simp) [(0, .agg #[.int .i64 a0_0, .string a0_1])] (by simp)
    have HB0 := Below.refl w.heap.size w
    refine wp_seq_k (fun K1 hK1 => ?_)
    refine reg_seq (N := 50) (bs := [(0, .agg #[.int .i64 a0_0, .string a0_1])]) (I := fun x => Below w.heap.size w x) (ps := [IsB #[.int .i64 a0_0, .string a0_1] 26 w.heap.size, VB false]) (by kernel_rfl) ?_ ?_ rfl hS HB0 ?_ ?_
    · exact fun x y hI hb => below_step hI hb
    · exact .cons (Stays.b _ _ _) (.v (.nil))
    · refine .on rfl (fun a w hS hI hp => does_var (x_box rfl (congrArg Value.cells (hS.get 0 rfl))) (hI).size) ?_
      refine .on rfl (fun a w hS hI hp => does_val (x_assign rfl (rfl)) rfl) ?_
      exact .nil
    clear hS
    intro at2 w3 hS hI hp
    have hBw3_w := hI
    replace hS := hS.nil
    obtain ⟨g4, hv1, hgeg4, hbxg4⟩ := (show IsB _ 26 _ (sl _ 1) _ from hp 0 (by decide))
    have hBw3_w3 := Below.refl w3.heap.size w3
    have hS := hS.cons hv1
    clear hp hI hv1
    refine hK1 _ _ ?_
    (try clear hK1 K1)
    refine wp_seq_k (fun K5 hK5 => ?_)
    refine reg_seq (N := 50) (bs := [(1, .pointer (some ⟨g4, 0, none⟩))]) (I := fun x => Below w.heap.size w x ∧ Below w3.heap.size w3 x) (ps := [VP g4 1, IsV (.string a0_1), VI (a0_1.size : Int), VI (a0_1.size : Int)]) (by kernel_rfl) ?_ ?_ rfl hS ⟨hBw3_w, hBw3_w3⟩ ?_ ?_
    · exact fun x y hI hb => ⟨below_step hI.1 hb, below_step hI.2 hb⟩
    · exact .v (.v (.v (.v (.nil))))
    · refine .on rfl (fun a w hS hI hp => does_val (x_fieldE (b := 0) rfl (hS.get 0 rfl) Try.underlying26 rfl rfl (by kernel_rfl)) rfl) ?_
      refine .on rfl (fun a w hS hI hp => does_val (x_load1 (d := .string) rfl (hp.V 0 rfl rfl) (by kernel_rfl) rfl ((blk_cell (((hI.2).block g4 (blk_lt hbxg4)).trans hbxg4) 1).trans rfl)) rfl) ?_
      refine .on rfl (fun a w hS hI hp => does_val (x_lenS rfl (by kernel_rfl) (hp.V 1 rfl rfl)) rfl) ?_
      refine .asg 2 rfl rfl rfl rfl ?_
      exact .nil
    clear hS
    intro at6 w7 hS hI hp
    have hBw7_w := hI.1
    have hBw7_w3 := hI.2
    have hv3 : sl _ 3 = .int .i64 (a0_1.size : Int) := hp 3 (by decide)
    have hBw7_w7 := Below.refl w7.heap.size w7
    have hS := hS.cons hv3
    clear hp hI hv3
    refine hK5 _ _ ?_
    (try clear hK5 K5)
    refine wp_seq_k (fun K8 hK8 => ?_)
    refine wp_seq_k (fun K9 hK9 => ?_)
    refine reg_seq (N := 50) (bs := [(3, .int .i64 (a0_1.size : Int)), (1, .pointer (some ⟨g4, 0, none⟩))]) (I := fun x => Below w.heap.size w x ∧ Below w3.heap.size w3 x ∧ Below w7.heap.size w7 x) (ps := [VP g4 0, VI a0_0]) (by kernel_rfl) ?_ ?_ rfl hS ⟨hBw7_w, hBw7_w3, hBw7_w7⟩ ?_ ?_
    · exact fun x y hI hb => ⟨below_step hI.1 hb, below_step hI.2.1 hb, below_step hI.2.2 hb⟩
    · exact .v (.v (.nil))
    · refine .on rfl (fun a w hS hI hp => does_val (x_fieldE (b := 0) rfl (hS.get 1 rfl) Try.underlying26 rfl rfl (by kernel_rfl)) rfl) ?_
      refine .on rfl (fun a w hS hI hp => does_val (x_load1 (d := .int .i64) rfl (hp.V 0 rfl rfl) (by kernel_rfl) rfl ((blk_cell (((hI.2.1).block g4 (blk_lt hbxg4)).trans hbxg4) 0).trans rfl)) rfl) ?_
      exact .nil
    clear hS
    intro at10 w11 hS hI hp
    have hBw11_w := hI.1
    have hBw11_w3 := hI.2.1
    have hBw11_w7 := hI.2.2
    have hv8 : sl _ 8 = .int .i64 a0_0 := hp 1 (by decide)
    have hBw11_w11 := Below.refl w11.heap.size w11
    have hS := hS.cons hv8
    clear hp hI hv8
    refine hK9 _ _ ?_
    (try clear hK9 K9)
    refine wp_block ?_
    refine wp_seq_k (fun K12 hK12 => ?_)
    refine reg_seq (N := 50) (bs := [(8, .int .i64 a0_0), (3, .int .i64 (a0_1.size : Int)), (1, .pointer (some ⟨g4, 0, none⟩))]) (I := fun x => Below w.heap.size w x ∧ Below w3.heap.size w3 x ∧ Below w11.heap.size w11 x) (ps := [VB (decide (a0_0 = 1)), VB (decide (a0_0 = 1))]) (by kernel_rfl) ?_ ?_ rfl hS ⟨hBw11_w, hBw11_w3, hBw11_w11⟩ ?_ ?_
    · exact fun x y hI hb => ⟨below_step hI.1 hb, below_step hI.2.1 hb, below_step hI.2.2 hb⟩
    · exact .v (.v (.nil))
    · refine .on rfl (fun a w hS hI hp => does_val (x_bin rfl (hS.get 0 rfl) (rfl) (b_eql _ _ _ _ _ _)) rfl) ?_
      refine .asg 0 rfl rfl rfl rfl ?_
      exact .nil
    clear hS
    intro at13 w14 hS hI hp
    have hBw14_w := hI.1
    have hBw14_w3 := hI.2.1
    have hBw14_w11 := hI.2.2
    have hv9 : sl _ 9 = .bool (decide (a0_0 = 1)) := hp 1 (by decide)
    have hBw14_w14 := Below.refl w14.heap.size w14
    have hS := hS.cons hv9
    clear hp hI hv9
    refine hK12 _ _ ?_
    (try clear hK12 K12)
    refine wp_cond_false ((hS.get 0 rfl).trans (bF (decide_eq_false c1))) ?_
    refine wp_seq_k (fun K15 hK15 => ?_)
    refine reg_seq (N := 50) (bs := [(9, .bool (decide (a0_0 = 1))), (8, .int .i64 a0_0), (3, .int .i64 (a0_1.size : Int)), (1, .pointer (some ⟨g4, 0, none⟩))]) (I := fun x => Below w.heap.size w x ∧ Below w3.heap.size w3 x ∧ Below w14.heap.size w14 x) (ps := [VB (decide (a0_0 = 2)), VB (decide (a0_0 = 2))]) (by kernel_rfl) ?_ ?_ rfl hS ⟨hBw14_w, hBw14_w3, hBw14_w14⟩ ?_ ?_
    · exact fun x y hI hb => ⟨below_step hI.1 hb, below_step hI.2.1 hb, below_step hI.2.2 hb⟩
    · exact .v (.v (.nil))
    · refine .on rfl (fun a w hS hI hp => does_val (x_bin rfl (hS.get 1 rfl) (rfl) (b_eql _ _ _ _ _ _)) rfl) ?_
      refine .asg 0 rfl rfl rfl rfl ?_
      exact .nil
    clear hS
    intro at16 w17 hS hI hp
    have hBw17_w := hI.1
    have hBw17_w3 := hI.2.1
    have hBw17_w14 := hI.2.2
    replace hS := (((hS.nil).cons (hS.get 3 rfl)).cons (hS.get 2 rfl)).cons (hS.get 1 rfl)
    have hv13 : sl _ 13 = .bool (decide (a0_0 = 2)) := hp 1 (by decide)
    have hBw17_w17 := Below.refl w17.heap.size w17
    have hS := hS.cons hv13
    clear hp hI hv13
    refine hK15 _ _ ?_
    (try clear hK15 K15)
    refine wp_cond_false ((hS.get 0 rfl).trans (bF (decide_eq_false c2))) ?_
    refine wp_seq_k (fun K18 hK18 => ?_)
    refine reg_seq (N := 50) (bs := [(13, .bool (decide (a0_0 = 2))), (8, .int .i64 a0_0), (3, .int .i64 (a0_1.size : Int)), (1, .pointer (some ⟨g4, 0, none⟩))]) (I := fun x => Below w.heap.size w x ∧ Below w3.heap.size w3 x ∧ Below w17.heap.size w17 x) (ps := [VB (decide (a0_0 = 3)), VB (decide (a0_0 = 3))]) (by kernel_rfl) ?_ ?_ rfl hS ⟨hBw17_w, hBw17_w3, hBw17_w17⟩ ?_ ?_
    · exact fun x y hI hb => ⟨below_step hI.1 hb, below_step hI.2.1 hb, below_step hI.2.2 hb⟩
    · exact .v (.v (.nil))
    · refine .on rfl (fun a w hS hI hp => does_val (x_bin rfl (hS.get 1 rfl) (rfl) (b_eql _ _ _ _ _ _)) rfl) ?_
      refine .asg 0 rfl rfl rfl rfl ?_
      exact .nil
    clear hS
    intro at19 w20 hS hI hp
    have hBw20_w := hI.1
    have hBw20_w3 := hI.2.1
    have hBw20_w17 := hI.2.2
    replace hS := (((hS.nil).cons (hS.get 3 rfl)).cons (hS.get 2 rfl)).cons (hS.get 1 rfl)
    have hv17 : sl _ 17 = .bool (decide (a0_0 = 3)) := hp 1 (by decide)
    have hBw20_w20 := Below.refl w20.heap.size w20
    have hS := hS.cons hv17
    clear hp hI hv17
    refine hK18 _ _ ?_
    (try clear hK18 K18)
    refine wp_cond_false ((hS.get 0 rfl).trans (bF (decide_eq_false c3))) ?_
    refine wp_seq_k (fun K21 hK21 => ?_)
    refine reg_seq (N := 50) (bs := [(17, .bool (decide (a0_0 = 3))), (8, .int .i64 a0_0), (3, .int .i64 (a0_1.size : Int)), (1, .pointer (some ⟨g4, 0, none⟩))]) (I := fun x => Below w.heap.size w x ∧ Below w3.heap.size w3 x ∧ Below w20.heap.size w20 x) (ps := [VB (decide (a0_0 = 4)), VB (decide (a0_0 = 4))]) (by kernel_rfl) ?_ ?_ rfl hS ⟨hBw20_w, hBw20_w3, hBw20_w20⟩ ?_ ?_
    · exact fun x y hI hb => ⟨below_step hI.1 hb, below_step hI.2.1 hb, below_step hI.2.2 hb⟩
    · exact .v (.v (.nil))
    · refine .on rfl (fun a w hS hI hp => does_val (x_bin rfl (hS.get 1 rfl) (rfl) (b_eql _ _ _ _ _ _)) rfl) ?_
      refine .asg 0 rfl rfl rfl rfl ?_
      exact .nil
    clear hS
    intro at22 w23 hS hI hp
    have hBw23_w := hI.1
    have hBw23_w3 := hI.2.1
    have hBw23_w20 := hI.2.2
    replace hS := (((hS.nil).cons (hS.get 3 rfl)).cons (hS.get 2 rfl)).cons (hS.get 1 rfl)
    have hv21 : sl _ 21 = .bool (decide (a0_0 = 4)) := hp 1 (by decide)
    have hBw23_w23 := Below.refl w23.heap.size w23
    have hS := hS.cons hv21
    clear hp hI hv21
    refine hK21 _ _ ?_
    (try clear hK21 K21)
    refine wp_cond_false ((hS.get 0 rfl).trans (bF (decide_eq_false c4))) ?_
    refine wp_seq_k (fun K24 hK24 => ?_)
    refine reg_seq (N := 50) (bs := [(21, .bool (decide (a0_0 = 4))), (8, .int .i64 a0_0), (3, .int .i64 (a0_1.size : Int)), (1, .pointer (some ⟨g4, 0, none⟩))]) (I := fun x => Below w.heap.size w x ∧ Below w3.heap.size w3 x ∧ Below w23.heap.size w23 x) (ps := [VB (decide (a0_0 = 5)), VB (decide (a0_0 = 5))]) (by kernel_rfl) ?_ ?_ rfl hS ⟨hBw23_w, hBw23_w3, hBw23_w23⟩ ?_ ?_
    · exact fun x y hI hb => ⟨below_step hI.1 hb, below_step hI.2.1 hb, below_step hI.2.2 hb⟩
    · exact .v (.v (.nil))
    · refine .on rfl (fun a w hS hI hp => does_val (x_bin rfl (hS.get 1 rfl) (rfl) (b_eql _ _ _ _ _ _)) rfl) ?_
      refine .asg 0 rfl rfl rfl rfl ?_
      exact .nil
    clear hS
    intro at25 w26 hS hI hp
    have hBw26_w := hI.1
    have hBw26_w3 := hI.2.1
    have hBw26_w23 := hI.2.2
    replace hS := (((hS.nil).cons (hS.get 3 rfl)).cons (hS.get 2 rfl)).cons (hS.get 1 rfl)
    have hv25 : sl _ 25 = .bool (decide (a0_0 = 5)) := hp 1 (by decide)
    have hBw26_w26 := Below.refl w26.heap.size w26
    have hS := hS.cons hv25
    clear hp hI hv25
    refine hK24 _ _ ?_
    (try clear hK24 K24)
    refine wp_cond_true ((hS.get 0 rfl).trans (bT (decide_eq_true c5))) ?_
    refine wp_seq_k (fun K27 hK27 => ?_)
    refine reg_seq (N := 50) (bs := [(25, .bool (decide (a0_0 = 5))), (8, .int .i64 a0_0), (3, .int .i64 (a0_1.size : Int)), (1, .pointer (some ⟨g4, 0, none⟩))]) (I := fun x => Below w.heap.size w x ∧ Below w3.heap.size w3 x ∧ Below w26.heap.size w26 x) (ps := [VI (a0_1.size : Int), VB (decide ((a0_1.size : Int) = 8)), VB (decide ((a0_1.size : Int) = 8))]) (by kernel_rfl) ?_ ?_ rfl hS ⟨hBw26_w, hBw26_w3, hBw26_w26⟩ ?_ ?_
    · exact fun x y hI hb => ⟨below_step hI.1 hb, below_step hI.2.1 hb, below_step hI.2.2 hb⟩
    · exact .v (.v (.v (.nil)))
    · refine .ms 2 rfl rfl rfl ?_
      refine .on rfl (fun a w hS hI hp => does_val (x_bin rfl (hp.V 0 rfl rfl) (rfl) (b_eql _ _ _ _ _ _)) rfl) ?_
      refine .asg 1 rfl rfl rfl rfl ?_
      exact .nil
    clear hS
    intro at28 w29 hS hI hp
    have hBw29_w := hI.1
    have hBw29_w3 := hI.2.1
    have hBw29_w26 := hI.2.2
    replace hS := hS.nil
    have hv2 : sl _ 2 = .bool (decide ((a0_1.size : Int) = 8)) := hp 2 (by decide)
    have hBw29_w29 := Below.refl w29.heap.size w29
    have hS := hS.cons hv2
    clear hp hI hv2
    refine hK27 _ _ ?_
    (try clear hK27 K27)
    refine wp_ret ?_
    (try simp only [Exit.then, Exit.inBlock, Exit.jump, Exit.noGoto])
    exact bodyPost_ret (v := .bool (decide ((a0_1.size : Int) = 8))) (results_single rfl (Vals.at (hS.get 0 rfl) .nil)) hS.nodef ⟨rfl, hBw29_w⟩
  rw [if_neg c5] at H
  by_cases c6 : (if a0_0 = 6 then decide (a0_0 = 6) else decide (a0_0 = 7)) = true
  · rw [if_pos c6] at H
    obtain rfl := Option.some.inj H
    refine calls_of_wp (fn := Try.f18) (by kernel_rfl) rfl ?_
    have hS := St.enter #[.agg #[.int .i64 a0_0, .string a0_1]] 50 (by simp) [(0, .agg #[.int .i64 a0_0, .string a0_1])] (by simp)
    have HB0 := Below.refl w.heap.size w
    refine wp_seq_k (fun K1 hK1 => ?_)
    refine reg_seq (N := 50) (bs := [(0, .agg #[.int .i64 a0_0, .string a0_1])]) (I := fun x => Below w.heap.size w x) (ps := [IsB #[.int .i64 a0_0, .string a0_1] 26 w.heap.size, VB false]) (by kernel_rfl) ?_ ?_ rfl hS HB0 ?_ ?_
    · exact fun x y hI hb => below_step hI hb
    · exact .cons (Stays.b _ _ _) (.v (.nil))
    · refine .on rfl (fun a w hS hI hp => does_var (x_box rfl (congrArg Value.cells (hS.get 0 rfl))) (hI).size) ?_
      refine .on rfl (fun a w hS hI hp => does_val (x_assign rfl (rfl)) rfl) ?_
      exact .nil
    clear hS
    intro at2 w3 hS hI hp
    have hBw3_w := hI
    replace hS := hS.nil
    obtain ⟨g4, hv1, hgeg4, hbxg4⟩ := (show IsB _ 26 _ (sl _ 1) _ from hp 0 (by decide))
    have hBw3_w3 := Below.refl w3.heap.size w3
    have hS := hS.cons hv1
    clear hp hI hv1
    refine hK1 _ _ ?_
    (try clear hK1 K1)
    refine wp_seq_k (fun K5 hK5 => ?_)
    refine reg_seq (N := 50) (bs := [(1, .pointer (some ⟨g4, 0, none⟩))]) (I := fun x => Below w.heap.size w x ∧ Below w3.heap.size w3 x) (ps := [VP g4 1, IsV (.string a0_1), VI (a0_1.size : Int), VI (a0_1.size : Int)]) (by kernel_rfl) ?_ ?_ rfl hS ⟨hBw3_w, hBw3_w3⟩ ?_ ?_
    · exact fun x y hI hb => ⟨below_step hI.1 hb, below_step hI.2 hb⟩
    · exact .v (.v (.v (.v (.nil))))
    · refine .on rfl (fun a w hS hI hp => does_val (x_fieldE (b := 0) rfl (hS.get 0 rfl) Try.underlying26 rfl rfl (by kernel_rfl)) rfl) ?_
      refine .on rfl (fun a w hS hI hp => does_val (x_load1 (d := .string) rfl (hp.V 0 rfl rfl) (by kernel_rfl) rfl ((blk_cell (((hI.2).block g4 (blk_lt hbxg4)).trans hbxg4) 1).trans rfl)) rfl) ?_
      refine .on rfl (fun a w hS hI hp => does_val (x_lenS rfl (by kernel_rfl) (hp.V 1 rfl rfl)) rfl) ?_
      refine .asg 2 rfl rfl rfl rfl ?_
      exact .nil
    clear hS
    intro at6 w7 hS hI hp
    have hBw7_w := hI.1
    have hBw7_w3 := hI.2
    have hv3 : sl _ 3 = .int .i64 (a0_1.size : Int) := hp 3 (by decide)
    have hBw7_w7 := Below.refl w7.heap.size w7
    have hS := hS.cons hv3
    clear hp hI hv3
    refine hK5 _ _ ?_
    (try clear hK5 K5)
    refine wp_seq_k (fun K8 hK8 => ?_)
    refine wp_seq_k (fun K9 hK9 => ?_)
    refine reg_seq (N := 50) (bs := [(3, .int .i64 (a0_1.size : Int)), (1, .pointer (some ⟨g4, 0, none⟩))]) (I := fun x => Below w.heap.size w x ∧ Below w3.heap.size w3 x ∧ Below w7.heap.size w7 x) (ps := [VP g4 0, VI a0_0]) (by kernel_rfl) ?_ ?_ rfl hS ⟨hBw7_w, hBw7_w3, hBw7_w7⟩ ?_ ?_
    · exact fun x y hI hb => ⟨below_step hI.1 hb, below_step hI.2.1 hb, below_step hI.2.2 hb⟩
    · exact .v (.v (.nil))
    · refine .on rfl (fun a w hS hI hp => does_val (x_fieldE (b := 0) rfl (hS.get 1 rfl) Try.underlying26 rfl rfl (by kernel_rfl)) rfl) ?_
      refine .on rfl (fun a w hS hI hp => does_val (x_load1 (d := .int .i64) rfl (hp.V 0 rfl rfl) (by kernel_rfl) rfl ((blk_cell (((hI.2.1).block g4 (blk_lt hbxg4)).trans hbxg4) 0).trans rfl)) rfl) ?_
      exact .nil
    clear hS
    intro at10 w11 hS hI hp
    have hBw11_w := hI.1
    have hBw11_w3 := hI.2.1
    have hBw11_w7 := hI.2.2
    have hv8 : sl _ 8 = .int .i64 a0_0 := hp 1 (by decide)
    have hBw11_w11 := Below.refl w11.heap.size w11
    have hS := hS.cons hv8
    clear hp hI hv8
    refine hK9 _ _ ?_
    (try clear hK9 K9)
    refine wp_block ?_
    refine wp_seq_k (fun K12 hK12 => ?_)
    refine reg_seq (N := 50) (bs := [(8, .int .i64 a0_0), (3, .int .i64 (a0_1.size : Int)), (1, .pointer (some ⟨g4, 0, none⟩))]) (I := fun x => Below w.heap.size w x ∧ Below w3.heap.size w3 x ∧ Below w11.heap.size w11 x) (ps := [VB (decide (a0_0 = 1)), VB (decide (a0_0 = 1))]) (by kernel_rfl) ?_ ?_ rfl hS ⟨hBw11_w, hBw11_w3, hBw11_w11⟩ ?_ ?_
    · exact fun x y hI hb => ⟨below_step hI.1 hb, below_step hI.2.1 hb, below_step hI.2.2 hb⟩
    · exact .v (.v (.nil))
    · refine .on rfl (fun a w hS hI hp => does_val (x_bin rfl (hS.get 0 rfl) (rfl) (b_eql _ _ _ _ _ _)) rfl) ?_
      refine .asg 0 rfl rfl rfl rfl ?_
      exact .nil
    clear hS
    intro at13 w14 hS hI hp
    have hBw14_w := hI.1
    have hBw14_w3 := hI.2.1
    have hBw14_w11 := hI.2.2
    have hv9 : sl _ 9 = .bool (decide (a0_0 = 1)) := hp 1 (by decide)
    have hBw14_w14 := Below.refl w14.heap.size w14
    have hS := hS.cons hv9
    clear hp hI hv9
    refine hK12 _ _ ?_
    (try clear hK12 K12)
    refine wp_cond_false ((hS.get 0 rfl).trans (bF (decide_eq_false c1))) ?_
    refine wp_seq_k (fun K15 hK15 => ?_)
    refine reg_seq (N := 50) (bs := [(9, .bool (decide (a0_0 = 1))), (8, .int .i64 a0_0), (3, .int .i64 (a0_1.size : Int)), (1, .pointer (some ⟨g4, 0, none⟩))]) (I := fun x => Below w.heap.size w x ∧ Below w3.heap.size w3 x ∧ Below w14.heap.size w14 x) (ps := [VB (decide (a0_0 = 2)), VB (decide (a0_0 = 2))]) (by kernel_rfl) ?_ ?_ rfl hS ⟨hBw14_w, hBw14_w3, hBw14_w14⟩ ?_ ?_
    · exact fun x y hI hb => ⟨below_step hI.1 hb, below_step hI.2.1 hb, below_step hI.2.2 hb⟩
    · exact .v (.v (.nil))
    · refine .on rfl (fun a w hS hI hp => does_val (x_bin rfl (hS.get 1 rfl) (rfl) (b_eql _ _ _ _ _ _)) rfl) ?_
      refine .asg 0 rfl rfl rfl rfl ?_
      exact .nil
    clear hS
    intro at16 w17 hS hI hp
    have hBw17_w := hI.1
    have hBw17_w3 := hI.2.1
    have hBw17_w14 := hI.2.2
    replace hS := (((hS.nil).cons (hS.get 3 rfl)).cons (hS.get 2 rfl)).cons (hS.get 1 rfl)
    have hv13 : sl _ 13 = .bool (decide (a0_0 = 2)) := hp 1 (by decide)
    have hBw17_w17 := Below.refl w17.heap.size w17
    have hS := hS.cons hv13
    clear hp hI hv13
    refine hK15 _ _ ?_
    (try clear hK15 K15)
    refine wp_cond_false ((hS.get 0 rfl).trans (bF (decide_eq_false c2))) ?_
    refine wp_seq_k (fun K18 hK18 => ?_)
    refine reg_seq (N := 50) (bs := [(13, .bool (decide (a0_0 = 2))), (8, .int .i64 a0_0), (3, .int .i64 (a0_1.size : Int)), (1, .pointer (some ⟨g4, 0, none⟩))]) (I := fun x => Below w.heap.size w x ∧ Below w3.heap.size w3 x ∧ Below w17.heap.size w17 x) (ps := [VB (decide (a0_0 = 3)), VB (decide (a0_0 = 3))]) (by kernel_rfl) ?_ ?_ rfl hS ⟨hBw17_w, hBw17_w3, hBw17_w17⟩ ?_ ?_
    · exact fun x y hI hb => ⟨below_step hI.1 hb, below_step hI.2.1 hb, below_step hI.2.2 hb⟩
    · exact .v (.v (.nil))
    · refine .on rfl (fun a w hS hI hp => does_val (x_bin rfl (hS.get 1 rfl) (rfl) (b_eql _ _ _ _ _ _)) rfl) ?_
      refine .asg 0 rfl rfl rfl rfl ?_
      exact .nil
    clear hS
    intro at19 w20 hS hI hp
    have hBw20_w := hI.1
    have hBw20_w3 := hI.2.1
    have hBw20_w17 := hI.2.2
    replace hS := (((hS.nil).cons (hS.get 3 rfl)).cons (hS.get 2 rfl)).cons (hS.get 1 rfl)
    have hv17 : sl _ 17 = .bool (decide (a0_0 = 3)) := hp 1 (by decide)
    have hBw20_w20 := Below.refl w20.heap.size w20
    have hS := hS.cons hv17
    clear hp hI hv17
    refine hK18 _ _ ?_
    (try clear hK18 K18)
    refine wp_cond_false ((hS.get 0 rfl).trans (bF (decide_eq_false c3))) ?_
    refine wp_seq_k (fun K21 hK21 => ?_)
    refine reg_seq (N := 50) (bs := [(17, .bool (decide (a0_0 = 3))), (8, .int .i64 a0_0), (3, .int .i64 (a0_1.size : Int)), (1, .pointer (some ⟨g4, 0, none⟩))]) (I := fun x => Below w.heap.size w x ∧ Below w3.heap.size w3 x ∧ Below w20.heap.size w20 x) (ps := [VB (decide (a0_0 = 4)), VB (decide (a0_0 = 4))]) (by kernel_rfl) ?_ ?_ rfl hS ⟨hBw20_w, hBw20_w3, hBw20_w20⟩ ?_ ?_
    · exact fun x y hI hb => ⟨below_step hI.1 hb, below_step hI.2.1 hb, below_step hI.2.2 hb⟩
    · exact .v (.v (.nil))
    · refine .on rfl (fun a w hS hI hp => does_val (x_bin rfl (hS.get 1 rfl) (rfl) (b_eql _ _ _ _ _ _)) rfl) ?_
      refine .asg 0 rfl rfl rfl rfl ?_
      exact .nil
    clear hS
    intro at22 w23 hS hI hp
    have hBw23_w := hI.1
    have hBw23_w3 := hI.2.1
    have hBw23_w20 := hI.2.2
    replace hS := (((hS.nil).cons (hS.get 3 rfl)).cons (hS.get 2 rfl)).cons (hS.get 1 rfl)
    have hv21 : sl _ 21 = .bool (decide (a0_0 = 4)) := hp 1 (by decide)
    have hBw23_w23 := Below.refl w23.heap.size w23
    have hS := hS.cons hv21
    clear hp hI hv21
    refine hK21 _ _ ?_
    (try clear hK21 K21)
    refine wp_cond_false ((hS.get 0 rfl).trans (bF (decide_eq_false c4))) ?_
    refine wp_seq_k (fun K24 hK24 => ?_)
    refine reg_seq (N := 50) (bs := [(21, .bool (decide (a0_0 = 4))), (8, .int .i64 a0_0), (3, .int .i64 (a0_1.size : Int)), (1, .pointer (some ⟨g4, 0, none⟩))]) (I := fun x => Below w.heap.size w x ∧ Below w3.heap.size w3 x ∧ Below w23.heap.size w23 x) (ps := [VB (decide (a0_0 = 5)), VB (decide (a0_0 = 5))]) (by kernel_rfl) ?_ ?_ rfl hS ⟨hBw23_w, hBw23_w3, hBw23_w23⟩ ?_ ?_
    · exact fun x y hI hb => ⟨below_step hI.1 hb, below_step hI.2.1 hb, below_step hI.2.2 hb⟩
    · exact .v (.v (.nil))
    · refine .on rfl (fun a w hS hI hp => does_val (x_bin rfl (hS.get 1 rfl) (rfl) (b_eql _ _ _ _ _ _)) rfl) ?_
      refine .asg 0 rfl rfl rfl rfl ?_
      exact .nil
    clear hS
    intro at25 w26 hS hI hp
    have hBw26_w := hI.1
    have hBw26_w3 := hI.2.1
    have hBw26_w23 := hI.2.2
    replace hS := (((hS.nil).cons (hS.get 3 rfl)).cons (hS.get 2 rfl)).cons (hS.get 1 rfl)
    have hv25 : sl _ 25 = .bool (decide (a0_0 = 5)) := hp 1 (by decide)
    have hBw26_w26 := Below.refl w26.heap.size w26
    have hS := hS.cons hv25
    clear hp hI hv25
    refine hK24 _ _ ?_
    (try clear hK24 K24)
    refine wp_cond_false ((hS.get 0 rfl).trans (bF (decide_eq_false c5))) ?_
    refine wp_seq_k (fun K27 hK27 => ?_)
    refine wp_mono (Q := fun e a' w' => e = Exit.normal ∧ St 50 [(1, .pointer (some ⟨g4, 0, none⟩)), (3, .int .i64 (a0_1.size : Int)), (8, .int .i64 a0_0), (29, .bool (if a0_0 = 6 then decide (a0_0 = 6) else decide (a0_0 = 7)))] a' ∧ Below w.heap.size w w' ∧ Below w3.heap.size w3 w' ∧ Below w26.heap.size w26 w') ?_ ?_
    · by_cases d28_0 : a0_0 = 6
      · refine wp_seq_k (fun K32 hK32 => ?_)
        refine reg_seq (N := 50) (bs := [(25, .bool (decide (a0_0 = 5))), (8, .int .i64 a0_0), (3, .int .i64 (a0_1.size : Int)), (1, .pointer (some ⟨g4, 0, none⟩))]) (I := fun x => Below w.heap.size w x ∧ Below w3.heap.size w3 x ∧ Below w26.heap.size w26 x) (ps := [VB (decide (a0_0 = 6)), VB (decide (a0_0 = 6))]) (by kernel_rfl) ?_ ?_ rfl hS ⟨hBw26_w, hBw26_w3, hBw26_w26⟩ ?_ ?_
        · exact fun x y hI hb => ⟨below_step hI.1 hb, below_step hI.2.1 hb, below_step hI.2.2 hb⟩
        · exact .v (.v (.nil))
        · refine .on rfl (fun a w hS hI hp => does_val (x_bin rfl (hS.get 1 rfl) (rfl) (b_eql _ _ _ _ _ _)) rfl) ?_
          refine .asg 0 rfl rfl rfl rfl ?_
          exact .nil
        clear hS
        intro at33 w34 hS hI hp
        have hBw34_w := hI.1
        have hBw34_w3 := hI.2.1
        have hBw34_w26 := hI.2.2
        replace hS := (((hS.nil).cons (hS.get 3 rfl)).cons (hS.get 2 rfl)).cons (hS.get 1 rfl)
        have hv29 : sl _ 29 = .bool (decide (a0_0 = 6)) := hp 1 (by decide)
        have hBw34_w34 := Below.refl w34.heap.size w34
        have hS := hS.cons hv29
        clear hp hI hv29
        refine hK32 _ _ ?_
        (try clear hK32 K32)
        refine wp_cond_true ((hS.get 0 rfl).trans (bT (decide_eq_true d28_0))) ?_
        refine wp_skip ?_
        (try simp only [Exit.then, Exit.inBlock, reduceIte])
        exact ⟨by trivial, ((((hS.nil).cons ((hS.get 0 rfl).trans (congrArg (Value.bool) (by simp only [if_pos d28_0])))).cons (hS.get 1 rfl)).cons (hS.get 2 rfl)).cons (hS.get 3 rfl), hBw34_w, hBw34_w3, hBw34_w26⟩
      · refine wp_seq_k (fun K35 hK35 => ?_)
        refine reg_seq (N := 50) (bs := [(25, .bool (decide (a0_0 = 5))), (8, .int .i64 a0_0), (3, .int .i64 (a0_1.size : Int)), (1, .pointer (some ⟨g4, 0, none⟩))]) (I := fun x => Below w.heap.size w x ∧ Below w3.heap.size w3 x ∧ Below w26.heap.size w26 x) (ps := [VB (decide (a0_0 = 6)), VB (decide (a0_0 = 6))]) (by kernel_rfl) ?_ ?_ rfl hS ⟨hBw26_w, hBw26_w3, hBw26_w26⟩ ?_ ?_
        · exact fun x y hI hb => ⟨below_step hI.1 hb, below_step hI.2.1 hb, below_step hI.2.2 hb⟩
        · exact .v (.v (.nil))
        · refine .on rfl (fun a w hS hI hp => does_val (x_bin rfl (hS.get 1 rfl) (rfl) (b_eql _ _ _ _ _ _)) rfl) ?_
          refine .asg 0 rfl rfl rfl rfl ?_
          exact .nil
        clear hS
        intro at36 w37 hS hI hp
        have hBw37_w := hI.1
        have hBw37_w3 := hI.2.1
        have hBw37_w26 := hI.2.2
        replace hS := (((hS.nil).cons (hS.get 3 rfl)).cons (hS.get 2 rfl)).cons (hS.get 1 rfl)
        have hv29 : sl _ 29 = .bool (decide (a0_0 = 6)) := hp 1 (by decide)
        have hBw37_w37 := Below.refl w37.heap.size w37
        have hS := hS.cons hv29
        clear hp hI hv29
        refine hK35 _ _ ?_
        (try clear hK35 K35)
        refine wp_cond_false ((hS.get 0 rfl).trans (bF (decide_eq_false d28_0))) ?_
        replace hS := (((hS.nil).cons (hS.get 3 rfl)).cons (hS.get 2 rfl)).cons (hS.get 1 rfl)
        refine reg_seq (N := 50) (bs := [(8, .int .i64 a0_0), (3, .int .i64 (a0_1.size : Int)), (1, .pointer (some ⟨g4, 0, none⟩))]) (I := fun x => Below w.heap.size w x ∧ Below w3.heap.size w3 x ∧ Below w26.heap.size w26 x ∧ Below w37.heap.size w37 x) (ps := [VB (decide (a0_0 = 7)), VB (decide (a0_0 = 7))]) (by kernel_rfl) ?_ ?_ rfl hS ⟨hBw37_w, hBw37_w3, hBw37_w26, hBw37_w37⟩ ?_ ?_
        · exact fun x y hI hb => ⟨below_step hI.1 hb, below_step hI.2.1 hb, below_step hI.2.2.1 hb, below_step hI.2.2.2 hb⟩
        · exact .v (.v (.nil))
        · refine .on rfl (fun a w hS hI hp => does_val (x_bin rfl (hS.get 0 rfl) (rfl) (b_eql _ _ _ _ _ _)) rfl) ?_
          refine .asg 0 rfl rfl rfl rfl ?_
          exact .nil
        clear hS
        intro at38 w39 hS hI hp
        have hBw39_w := hI.1
        have hBw39_w3 := hI.2.1
        have hBw39_w26 := hI.2.2.1
        have hBw39_w37 := hI.2.2.2
        have hv29 : sl _ 29 = .bool (decide (a0_0 = 7)) := hp 1 (by decide)
        have hBw39_w39 := Below.refl w39.heap.size w39
        have hS := hS.cons hv29
        clear hp hI hv29
        (try simp only [Exit.then, Exit.inBlock, reduceIte])
        exact ⟨by trivial, ((((hS.nil).cons ((hS.get 0 rfl).trans (congrArg (Value.bool) (by simp only [if_neg d28_0])))).cons (hS.get 1 rfl)).cons (hS.get 2 rfl)).cons (hS.get 3 rfl), hBw39_w, hBw39_w3, hBw39_w26⟩
    rintro e41 at41 w40 ⟨rfl, hS, hBw40_w, hBw40_w3, hBw40_w26⟩
    have hBw40_w40 := Below.refl w40.heap.size w40
    (try simp only [Exit.then, Exit.inBlock, reduceIte])
    refine hK27 _ _ ?_
    (try clear hK27 K27)
    refine wp_cond_true ((hS.get 3 rfl).trans (bT c6)) ?_
    refine wp_seq_k (fun K42 hK42 => ?_)
    refine reg_seq (N := 50) (bs := [(1, .pointer (some ⟨g4, 0, none⟩)), (3, .int .i64 (a0_1.size : Int)), (8, .int .i64 a0_0), (29, .bool (if a0_0 = 6 then decide (a0_0 = 6) else decide (a0_0 = 7)))]) (I := fun x => Below w.heap.size w x ∧ Below w3.heap.size w3 x ∧ Below w40.heap.size w40 x) (ps := [VI (a0_1.size : Int), VB (decide ((a0_1.size : Int) = 2)), VB (decide ((a0_1.size : Int) = 2))]) (by kernel_rfl) ?_ ?_ rfl hS ⟨hBw40_w, hBw40_w3, hBw40_w40⟩ ?_ ?_
    · exact fun x y hI hb => ⟨below_step hI.1 hb, below_step hI.2.1 hb, below_step hI.2.2 hb⟩
    · exact .v (.v (.v (.nil)))
    · refine .ms 1 rfl rfl rfl ?_
      refine .on rfl (fun a w hS hI hp => does_val (x_bin rfl (hp.V 0 rfl rfl) (rfl) (b_eql _ _ _ _ _ _)) rfl) ?_
      refine .asg 1 rfl rfl rfl rfl ?_
      exact .nil
    clear hS
    intro at43 w44 hS hI hp
    have hBw44_w := hI.1
    have hBw44_w3 := hI.2.1
    have hBw44_w40 := hI.2.2
    replace hS := hS.nil
    have hv2 : sl _ 2 = .bool (decide ((a0_1.size : Int) = 2)) := hp 2 (by decide)
    have hBw44_w44 := Below.refl w44.heap.size w44
    have hS := hS.cons hv2
    clear hp hI hv2
    refine hK42 _ _ ?_
    (try clear hK42 K42)
    refine wp_ret ?_
    (try simp only [Exit.then, Exit.inBlock, Exit.jump, Exit.noGoto])
    exact bodyPost_ret (v := .bool (decide ((a0_1.size : Int) = 2))) (results_single rfl (Vals.at (hS.get 0 rfl) .nil)) hS.nodef ⟨rfl, hBw44_w⟩
  rw [if_neg c6] at H
  by_cases c7 : a0_0 = 8
  · rw [if_pos c7] at H
    by_cases c8 : (Int.tmod (a0_1.size : Int) 8) = 0
    · rw [if_pos c8] at H
      obtain rfl := Option.some.inj H
      refine calls_of_wp (fn := Try.f18) (by kernel_rfl) rfl ?_
      have hS := St.enter #[.agg #[.int .i64 a0_0, .string a0_1]] 50 (by simp) [(0, .agg #[.int .i64 a0_0, .string a0_1])] (by simp)
      have HB0 := Below.refl w.heap.size w
      refine wp_seq_k (fun K1 hK1 => ?_)
      refine reg_seq (N := 50) (bs := [(0, .agg #[.int .i64 a0_0, .string a0_1])]) (I := fun x => Below w.heap.size w x) (ps := [IsB #[.int .i64 a0_0, .string a0_1] 26 w.heap.size, VB false]) (by kernel_rfl) ?_ ?_ rfl hS HB0 ?_ ?_
      · exact fun x y hI hb => below_step hI hb
      · exact .cons (Stays.b _ _ _) (.v (.nil))
      · refine .on rfl (fun a w hS hI hp => does_var (x_box rfl (congrArg Value.cells (hS.get 0 rfl))) (hI).size) ?_
        refine .on rfl (fun a w hS hI hp => does_val (x_assign rfl (rfl)) rfl) ?_
        exact .nil
      clear hS
      intro at2 w3 hS hI hp
      have hBw3_w := hI
      replace hS := hS.nil
      obtain ⟨g4, hv1, hgeg4, hbxg4⟩ := (show IsB _ 26 _ (sl _ 1) _ from hp 0 (by decide))
      have hBw3_w3 := Below.refl w3.heap.size w3
      have hS := hS.cons hv1
      clear hp hI hv1
      refine hK1 _ _ ?_
      (try clear hK1 K1)
      refine wp_seq_k (fun K5 hK5 => ?_)
      refine reg_seq (N := 50) (bs := [(1, .pointer (some ⟨g4, 0, none⟩))]) (I := fun x => Below w.heap.size w x ∧ Below w3.heap.size w3 x) (ps := [VP g4 1, IsV (.string a0_1), VI (a0_1.size : Int), VI (a0_1.size : Int)]) (by kernel_rfl) ?_ ?_ rfl hS ⟨hBw3_w, hBw3_w3⟩ ?_ ?_
      · exact fun x y hI hb => ⟨below_step hI.1 hb, below_step hI.2 hb⟩
      · exact .v (.v (.v (.v (.nil))))
      · refine .on rfl (fun a w hS hI hp => does_val (x_fieldE (b := 0) rfl (hS.get 0 rfl) Try.underlying26 rfl rfl (by kernel_rfl)) rfl) ?_
        refine .on rfl (fun a w hS hI hp => does_val (x_load1 (d := .string) rfl (hp.V 0 rfl rfl) (by kernel_rfl) rfl ((blk_cell (((hI.2).block g4 (blk_lt hbxg4)).trans hbxg4) 1).trans rfl)) rfl) ?_
        refine .on rfl (fun a w hS hI hp => does_val (x_lenS rfl (by kernel_rfl) (hp.V 1 rfl rfl)) rfl) ?_
        refine .asg 2 rfl rfl rfl rfl ?_
        exact .nil
      clear hS
      intro at6 w7 hS hI hp
      have hBw7_w := hI.1
      have hBw7_w3 := hI.2
      have hv3 : sl _ 3 = .int .i64 (a0_1.size : Int) := hp 3 (by decide)
      have hBw7_w7 := Below.refl w7.heap.size w7
      have hS := hS.cons hv3
      clear hp hI hv3
      refine hK5 _ _ ?_
      (try clear hK5 K5)
      refine wp_seq_k (fun K8 hK8 => ?_)
      refine wp_seq_k (fun K9 hK9 => ?_)
      refine reg_seq (N := 50) (bs := [(3, .int .i64 (a0_1.size : Int)), (1, .pointer (some ⟨g4, 0, none⟩))]) (I := fun x => Below w.heap.size w x ∧ Below w3.heap.size w3 x ∧ Below w7.heap.size w7 x) (ps := [VP g4 0, VI a0_0]) (by kernel_rfl) ?_ ?_ rfl hS ⟨hBw7_w, hBw7_w3, hBw7_w7⟩ ?_ ?_
      · exact fun x y hI hb => ⟨below_step hI.1 hb, below_step hI.2.1 hb, below_step hI.2.2 hb⟩
      · exact .v (.v (.nil))
      · refine .on rfl (fun a w hS hI hp => does_val (x_fieldE (b := 0) rfl (hS.get 1 rfl) Try.underlying26 rfl rfl (by kernel_rfl)) rfl) ?_
        refine .on rfl (fun a w hS hI hp => does_val (x_load1 (d := .int .i64) rfl (hp.V 0 rfl rfl) (by kernel_rfl) rfl ((blk_cell (((hI.2.1).block g4 (blk_lt hbxg4)).trans hbxg4) 0).trans rfl)) rfl) ?_
        exact .nil
      clear hS
      intro at10 w11 hS hI hp
      have hBw11_w := hI.1
      have hBw11_w3 := hI.2.1
      have hBw11_w7 := hI.2.2
      have hv8 : sl _ 8 = .int .i64 a0_0 := hp 1 (by decide)
      have hBw11_w11 := Below.refl w11.heap.size w11
      have hS := hS.cons hv8
      clear hp hI hv8
      refine hK9 _ _ ?_
      (try clear hK9 K9)
      refine wp_block ?_
      refine wp_seq_k (fun K12 hK12 => ?_)
      refine reg_seq (N := 50) (bs := [(8, .int .i64 a0_0), (3, .int .i64 (a0_1.size : Int)), (1, .pointer (some ⟨g4, 0, none⟩))]) (I := fun x => Below w.heap.size w x ∧ Below w3.heap.size w3 x ∧ Below w11.heap.size w11 x) (ps := [VB (decide (a0_0 = 1)), VB (decide (a0_0 = 1))]) (by kernel_rfl) ?_ ?_ rfl hS ⟨hBw11_w, hBw11_w3, hBw11_w11⟩ ?_ ?_
      · exact fun x y hI hb => ⟨below_step hI.1 hb, below_step hI.2.1 hb, below_step hI.2.2 hb⟩
      · exact .v (.v (.nil))
      · refine .on rfl (fun a w hS hI hp => does_val (x_bin rfl (hS.get 0 rfl) (rfl) (b_eql _ _ _ _ _ _)) rfl) ?_
        refine .asg 0 rfl rfl rfl rfl ?_
        exact .nil
      clear hS
      intro at13 w14 hS hI hp
      have hBw14_w := hI.1
      have hBw14_w3 := hI.2.1
      have hBw14_w11 := hI.2.2
      have hv9 : sl _ 9 = .bool (decide (a0_0 = 1)) := hp 1 (by decide)
      have hBw14_w14 := Below.refl w14.heap.size w14
      have hS := hS.cons hv9
      clear hp hI hv9
      refine hK12 _ _ ?_
      (try clear hK12 K12)
      refine wp_cond_false ((hS.get 0 rfl).trans (bF (decide_eq_false c1))) ?_
      refine wp_seq_k (fun K15 hK15 => ?_)
      refine reg_seq (N := 50) (bs := [(9, .bool (decide (a0_0 = 1))), (8, .int .i64 a0_0), (3, .int .i64 (a0_1.size : Int)), (1, .pointer (some ⟨g4, 0, none⟩))]) (I := fun x => Below w.heap.size w x ∧ Below w3.heap.size w3 x ∧ Below w14.heap.size w14 x) (ps := [VB (decide (a0_0 = 2)), VB (decide (a0_0 = 2))]) (by kernel_rfl) ?_ ?_ rfl hS ⟨hBw14_w, hBw14_w3, hBw14_w14⟩ ?_ ?_
      · exact fun x y hI hb => ⟨below_step hI.1 hb, below_step hI.2.1 hb, below_step hI.2.2 hb⟩
      · exact .v (.v (.nil))
      · refine .on rfl (fun a w hS hI hp => does_val (x_bin rfl (hS.get 1 rfl) (rfl) (b_eql _ _ _ _ _ _)) rfl) ?_
        refine .asg 0 rfl rfl rfl rfl ?_
        exact .nil
      clear hS
      intro at16 w17 hS hI hp
      have hBw17_w := hI.1
      have hBw17_w3 := hI.2.1
      have hBw17_w14 := hI.2.2
      replace hS := (((hS.nil).cons (hS.get 3 rfl)).cons (hS.get 2 rfl)).cons (hS.get 1 rfl)
      have hv13 : sl _ 13 = .bool (decide (a0_0 = 2)) := hp 1 (by decide)
      have hBw17_w17 := Below.refl w17.heap.size w17
      have hS := hS.cons hv13
      clear hp hI hv13
      refine hK15 _ _ ?_
      (try clear hK15 K15)
      refine wp_cond_false ((hS.get 0 rfl).trans (bF (decide_eq_false c2))) ?_
      refine wp_seq_k (fun K18 hK18 => ?_)
      refine reg_seq (N := 50) (bs := [(13, .bool (decide (a0_0 = 2))), (8, .int .i64 a0_0), (3, .int .i64 (a0_1.size : Int)), (1, .pointer (some ⟨g4, 0, none⟩))]) (I := fun x => Below w.heap.size w x ∧ Below w3.heap.size w3 x ∧ Below w17.heap.size w17 x) (ps := [VB (decide (a0_0 = 3)), VB (decide (a0_0 = 3))]) (by kernel_rfl) ?_ ?_ rfl hS ⟨hBw17_w, hBw17_w3, hBw17_w17⟩ ?_ ?_
      · exact fun x y hI hb => ⟨below_step hI.1 hb, below_step hI.2.1 hb, below_step hI.2.2 hb⟩
      · exact .v (.v (.nil))
      · refine .on rfl (fun a w hS hI hp => does_val (x_bin rfl (hS.get 1 rfl) (rfl) (b_eql _ _ _ _ _ _)) rfl) ?_
        refine .asg 0 rfl rfl rfl rfl ?_
        exact .nil
      clear hS
      intro at19 w20 hS hI hp
      have hBw20_w := hI.1
      have hBw20_w3 := hI.2.1
      have hBw20_w17 := hI.2.2
      replace hS := (((hS.nil).cons (hS.get 3 rfl)).cons (hS.get 2 rfl)).cons (hS.get 1 rfl)
      have hv17 : sl _ 17 = .bool (decide (a0_0 = 3)) := hp 1 (by decide)
      have hBw20_w20 := Below.refl w20.heap.size w20
      have hS := hS.cons hv17
      clear hp hI hv17
      refine hK18 _ _ ?_
      (try clear hK18 K18)
      refine wp_cond_false ((hS.get 0 rfl).trans (bF (decide_eq_false c3))) ?_
      refine wp_seq_k (fun K21 hK21 => ?_)
      refine reg_seq (N := 50) (bs := [(17, .bool (decide (a0_0 = 3))), (8, .int .i64 a0_0), (3, .int .i64 (a0_1.size : Int)), (1, .pointer (some ⟨g4, 0, none⟩))]) (I := fun x => Below w.heap.size w x ∧ Below w3.heap.size w3 x ∧ Below w20.heap.size w20 x) (ps := [VB (decide (a0_0 = 4)), VB (decide (a0_0 = 4))]) (by kernel_rfl) ?_ ?_ rfl hS ⟨hBw20_w, hBw20_w3, hBw20_w20⟩ ?_ ?_
      · exact fun x y hI hb => ⟨below_step hI.1 hb, below_step hI.2.1 hb, below_step hI.2.2 hb⟩
      · exact .v (.v (.nil))
      · refine .on rfl (fun a w hS hI hp => does_val (x_bin rfl (hS.get 1 rfl) (rfl) (b_eql _ _ _ _ _ _)) rfl) ?_
        refine .asg 0 rfl rfl rfl rfl ?_
        exact .nil
      clear hS
      intro at22 w23 hS hI hp
      have hBw23_w := hI.1
      have hBw23_w3 := hI.2.1
      have hBw23_w20 := hI.2.2
      replace hS := (((hS.nil).cons (hS.get 3 rfl)).cons (hS.get 2 rfl)).cons (hS.get 1 rfl)
      have hv21 : sl _ 21 = .bool (decide (a0_0 = 4)) := hp 1 (by decide)
      have hBw23_w23 := Below.refl w23.heap.size w23
      have hS := hS.cons hv21
      clear hp hI hv21
      refine hK21 _ _ ?_
      (try clear hK21 K21)
      refine wp_cond_false ((hS.get 0 rfl).trans (bF (decide_eq_false c4))) ?_
      refine wp_seq_k (fun K24 hK24 => ?_)
      refine reg_seq (N := 50) (bs := [(21, .bool (decide (a0_0 = 4))), (8, .int .i64 a0_0), (3, .int .i64 (a0_1.size : Int)), (1, .pointer (some ⟨g4, 0, none⟩))]) (I := fun x => Below w.heap.size w x ∧ Below w3.heap.size w3 x ∧ Below w23.heap.size w23 x) (ps := [VB (decide (a0_0 = 5)), VB (decide (a0_0 = 5))]) (by kernel_rfl) ?_ ?_ rfl hS ⟨hBw23_w, hBw23_w3, hBw23_w23⟩ ?_ ?_
      · exact fun x y hI hb => ⟨below_step hI.1 hb, below_step hI.2.1 hb, below_step hI.2.2 hb⟩
      · exact .v (.v (.nil))
      · refine .on rfl (fun a w hS hI hp => does_val (x_bin rfl (hS.get 1 rfl) (rfl) (b_eql _ _ _ _ _ _)) rfl) ?_
        refine .asg 0 rfl rfl rfl rfl ?_
        exact .nil
      clear hS
      intro at25 w26 hS hI hp
      have hBw26_w := hI.1
      have hBw26_w3 := hI.2.1
      have hBw26_w23 := hI.2.2
      replace hS := (((hS.nil).cons (hS.get 3 rfl)).cons (hS.get 2 rfl)).cons (hS.get 1 rfl)
      have hv25 : sl _ 25 = .bool (decide (a0_0 = 5)) := hp 1 (by decide)
      have hBw26_w26 := Below.refl w26.heap.size w26
      have hS := hS.cons hv25
      clear hp hI hv25
      refine hK24 _ _ ?_
      (try clear hK24 K24)
      refine wp_cond_false ((hS.get 0 rfl).trans (bF (decide_eq_false c5))) ?_
      refine wp_seq_k (fun K27 hK27 => ?_)
      refine wp_mono (Q := fun e a' w' => e = Exit.normal ∧ St 50 [(1, .pointer (some ⟨g4, 0, none⟩)), (3, .int .i64 (a0_1.size : Int)), (8, .int .i64 a0_0), (29, .bool (if a0_0 = 6 then decide (a0_0 = 6) else decide (a0_0 = 7)))] a' ∧ Below w.heap.size w w' ∧ Below w3.heap.size w3 w' ∧ Below w26.heap.size w26 w') ?_ ?_
      · by_cases d28_0 : a0_0 = 6
        · refine wp_seq_k (fun K32 hK32 => ?_)
          refine reg_seq (N := 50) (bs := [(25, .bool (decide (a0_0 = 5))), (8, .int .i64 a0_0), (3, .int .i64 (a0_1.size : Int)), (1, .pointer (some ⟨g4, 0, none⟩))]) (I := fun x => Below w.heap.size w x ∧ Below w3.heap.size w3 x ∧ Below w26.heap.size w26 x) (ps := [VB (decide (a0_0 = 6)), VB (decide (a0_0 = 6))]) (by kernel_rfl) ?_ ?_ rfl hS ⟨hBw26_w, hBw26_w3, hBw26_w26⟩ ?_ ?_
          · exact fun x y hI hb => ⟨below_step hI.1 hb, below_step hI.2.1 hb, below_step hI.2.2 hb⟩
          · exact .v (.v (.nil))
          · refine .on rfl (fun a w hS hI hp => does_val (x_bin rfl (hS.get 1 rfl) (rfl) (b_eql _ _ _ _ _ _)) rfl) ?_
            refine .asg 0 rfl rfl rfl rfl ?_
            exact .nil
          clear hS
          intro at33 w34 hS hI hp
          have hBw34_w := hI.1
          have hBw34_w3 := hI.2.1
          have hBw34_w26 := hI.2.2
          replace hS := (((hS.nil).cons (hS.get 3 rfl)).cons (hS.get 2 rfl)).cons (hS.get 1 rfl)
          have hv29 : sl _ 29 = .bool (decide (a0_0 = 6)) := hp 1 (by decide)
          have hBw34_w34 := Below.refl w34.heap.size w34
          have hS := hS.cons hv29
          clear hp hI hv29
          refine hK32 _ _ ?_
          (try clear hK32 K32)
          refine wp_cond_true ((hS.get 0 rfl).trans (bT (decide_eq_true d28_0))) ?_
          refine wp_skip ?_
          (try simp only [Exit.then, Exit.inBlock, reduceIte])
          exact ⟨by trivial, ((((hS.nil).cons ((hS.get 0 rfl).trans (congrArg (Value.bool) (by simp only [if_pos d28_0])))).cons (hS.get 1 rfl)).cons (hS.get 2 rfl)).cons (hS.get 3 rfl), hBw34_w, hBw34_w3, hBw34_w26⟩
        · refine wp_seq_k (fun K35 hK35 => ?_)
          refine reg_seq (N := 50) (bs := [(25, .bool (decide (a0_0 = 5))), (8, .int .i64 a0_0), (3, .int .i64 (a0_1.size : Int)), (1, .pointer (some ⟨g4, 0, none⟩))]) (I := fun x => Below w.heap.size w x ∧ Below w3.heap.size w3 x ∧ Below w26.heap.size w26 x) (ps := [VB (decide (a0_0 = 6)), VB (decide (a0_0 = 6))]) (by kernel_rfl) ?_ ?_ rfl hS ⟨hBw26_w, hBw26_w3, hBw26_w26⟩ ?_ ?_
          · exact fun x y hI hb => ⟨below_step hI.1 hb, below_step hI.2.1 hb, below_step hI.2.2 hb⟩
          · exact .v (.v (.nil))
          · refine .on rfl (fun a w hS hI hp => does_val (x_bin rfl (hS.get 1 rfl) (rfl) (b_eql _ _ _ _ _ _)) rfl) ?_
            refine .asg 0 rfl rfl rfl rfl ?_
            exact .nil
          clear hS
          intro at36 w37 hS hI hp
          have hBw37_w := hI.1
          have hBw37_w3 := hI.2.1
          have hBw37_w26 := hI.2.2
          replace hS := (((hS.nil).cons (hS.get 3 rfl)).cons (hS.get 2 rfl)).cons (hS.get 1 rfl)
          have hv29 : sl _ 29 = .bool (decide (a0_0 = 6)) := hp 1 (by decide)
          have hBw37_w37 := Below.refl w37.heap.size w37
          have hS := hS.cons hv29
          clear hp hI hv29
          refine hK35 _ _ ?_
          (try clear hK35 K35)
          refine wp_cond_false ((hS.get 0 rfl).trans (bF (decide_eq_false d28_0))) ?_
          replace hS := (((hS.nil).cons (hS.get 3 rfl)).cons (hS.get 2 rfl)).cons (hS.get 1 rfl)
          refine reg_seq (N := 50) (bs := [(8, .int .i64 a0_0), (3, .int .i64 (a0_1.size : Int)), (1, .pointer (some ⟨g4, 0, none⟩))]) (I := fun x => Below w.heap.size w x ∧ Below w3.heap.size w3 x ∧ Below w26.heap.size w26 x ∧ Below w37.heap.size w37 x) (ps := [VB (decide (a0_0 = 7)), VB (decide (a0_0 = 7))]) (by kernel_rfl) ?_ ?_ rfl hS ⟨hBw37_w, hBw37_w3, hBw37_w26, hBw37_w37⟩ ?_ ?_
          · exact fun x y hI hb => ⟨below_step hI.1 hb, below_step hI.2.1 hb, below_step hI.2.2.1 hb, below_step hI.2.2.2 hb⟩
          · exact .v (.v (.nil))
          · refine .on rfl (fun a w hS hI hp => does_val (x_bin rfl (hS.get 0 rfl) (rfl) (b_eql _ _ _ _ _ _)) rfl) ?_
            refine .asg 0 rfl rfl rfl rfl ?_
            exact .nil
          clear hS
          intro at38 w39 hS hI hp
          have hBw39_w := hI.1
          have hBw39_w3 := hI.2.1
          have hBw39_w26 := hI.2.2.1
          have hBw39_w37 := hI.2.2.2
          have hv29 : sl _ 29 = .bool (decide (a0_0 = 7)) := hp 1 (by decide)
          have hBw39_w39 := Below.refl w39.heap.size w39
          have hS := hS.cons hv29
          clear hp hI hv29
          (try simp only [Exit.then, Exit.inBlock, reduceIte])
          exact ⟨by trivial, ((((hS.nil).cons ((hS.get 0 rfl).trans (congrArg (Value.bool) (by simp only [if_neg d28_0])))).cons (hS.get 1 rfl)).cons (hS.get 2 rfl)).cons (hS.get 3 rfl), hBw39_w, hBw39_w3, hBw39_w26⟩
      rintro e41 at41 w40 ⟨rfl, hS, hBw40_w, hBw40_w3, hBw40_w26⟩
      have hBw40_w40 := Below.refl w40.heap.size w40
      (try simp only [Exit.then, Exit.inBlock, reduceIte])
      refine hK27 _ _ ?_
      (try clear hK27 K27)
      refine wp_cond_false ((hS.get 3 rfl).trans (bF (Bool.eq_false_iff.2 c6))) ?_
      refine wp_seq_k (fun K42 hK42 => ?_)
      refine reg_seq (N := 50) (bs := [(1, .pointer (some ⟨g4, 0, none⟩)), (3, .int .i64 (a0_1.size : Int)), (8, .int .i64 a0_0), (29, .bool (if a0_0 = 6 then decide (a0_0 = 6) else decide (a0_0 = 7)))]) (I := fun x => Below w.heap.size w x ∧ Below w3.heap.size w3 x ∧ Below w40.heap.size w40 x) (ps := [VB (decide (a0_0 = 8)), VB (decide (a0_0 = 8))]) (by kernel_rfl) ?_ ?_ rfl hS ⟨hBw40_w, hBw40_w3, hBw40_w40⟩ ?_ ?_
      · exact fun x y hI hb => ⟨below_step hI.1 hb, below_step hI.2.1 hb, below_step hI.2.2 hb⟩
      · exact .v (.v (.nil))
      · refine .on rfl (fun a w hS hI hp => does_val (x_bin rfl (hS.get 2 rfl) (rfl) (b_eql _ _ _ _ _ _)) rfl) ?_
        refine .asg 0 rfl rfl rfl rfl ?_
        exact .nil
      clear hS
      intro at43 w44 hS hI hp
      have hBw44_w := hI.1
      have hBw44_w3 := hI.2.1
      have hBw44_w40 := hI.2.2
      replace hS := (((hS.nil).cons (hS.get 2 rfl)).cons (hS.get 1 rfl)).cons (hS.get 0 rfl)
      have hv34 : sl _ 34 = .bool (decide (a0_0 = 8)) := hp 1 (by decide)
      have hBw44_w44 := Below.refl w44.heap.size w44
      have hS := hS.cons hv34
      clear hp hI hv34
      refine hK42 _ _ ?_
      (try clear hK42 K42)
      refine wp_cond_true ((hS.get 0 rfl).trans (bT (decide_eq_true c7))) ?_
      refine wp_seq_k (fun K45 hK45 => ?_)
      refine reg_seq (N := 50) (bs := [(34, .bool (decide (a0_0 = 8))), (1, .pointer (some ⟨g4, 0, none⟩)), (3, .int .i64 (a0_1.size : Int)), (8, .int .i64 a0_0)]) (I := fun x => Below w.heap.size w x ∧ Below w3.heap.size w3 x ∧ Below w44.heap.size w44 x) (ps := [VI (a0_1.size : Int), VI (Int.tmod (a0_1.size : Int) 8), VB (decide ((Int.tmod (a0_1.size : Int) 8) = 0)), VB (decide ((Int.tmod (a0_1.size : Int) 8) = 0)), VI (a0_1.size : Int), VB (decide ((a0_1.size : Int) ≤ 128)), VB (decide ((a0_1.size : Int) ≤ 128)), VB (decide ((a0_1.size : Int) ≤ 128))]) (by kernel_rfl) ?_ ?_ rfl hS ⟨hBw44_w, hBw44_w3, hBw44_w44⟩ ?_ ?_
      · exact fun x y hI hb => ⟨below_step hI.1 hb, below_step hI.2.1 hb, below_step hI.2.2 hb⟩
      · exact .v (.v (.v (.v (.v (.v (.v (.v (.nil))))))))
      · refine .ms 2 rfl rfl rfl ?_
        refine .on rfl (fun a w hS hI hp => does_val (x_bin rfl (hp.V 0 rfl rfl) (rfl) (b_rem _ _ _ _ _ _ (by decide))) rfl) ?_
        refine .on rfl (fun a w hS hI hp => does_val (x_bin rfl (hp.V 1 rfl rfl) (rfl) (b_eql _ _ _ _ _ _)) rfl) ?_
        refine .mv 2 rfl rfl rfl rfl ?_
        refine .oy 3 39 rfl rfl rfl rfl rfl ((decide_eq_true c8)) (fun a w hS hI hp => does_val (x_move rfl (hS.get 2 rfl)) rfl) ?_
        refine .oy 3 39 rfl rfl rfl rfl rfl ((decide_eq_true c8)) (fun a w hS hI hp => does_val (x_bin rfl (hp.V 4 rfl rfl) (rfl) (b_leq _ _ _ _ _ _)) rfl) ?_
        refine .pt 3 5 rfl rfl rfl rfl ((decide_eq_true c8)) rfl rfl ?_
        refine .asg 6 rfl rfl rfl rfl ?_
        exact .nil
      clear hS
      intro at46 w47 hS hI hp
      have hBw47_w := hI.1
      have hBw47_w3 := hI.2.1
      have hBw47_w44 := hI.2.2
      replace hS := hS.nil
      have hv2 : sl _ 2 = .bool (decide ((a0_1.size : Int) ≤ 128)) := hp 7 (by decide)
      have hBw47_w47 := Below.refl w47.heap.size w47
      have hS := hS.cons hv2
      clear hp hI hv2
      refine hK45 _ _ ?_
      (try clear hK45 K45)
      refine wp_ret ?_
      (try simp only [Exit.then, Exit.inBlock, Exit.jump, Exit.noGoto])
      exact bodyPost_ret (v := .bool (decide ((a0_1.size : Int) ≤ 128))) (results_single rfl (Vals.at (hS.get 0 rfl) .nil)) hS.nodef ⟨rfl, hBw47_w⟩
    rw [if_neg c8] at H
    obtain rfl := Option.some.inj H
    refine calls_of_wp (fn := Try.f18) (by kernel_rfl) rfl ?_
    have hS := St.enter #[.agg #[.int .i64 a0_0, .string a0_1]] 50 (by simp) [(0, .agg #[.int .i64 a0_0, .string a0_1])] (by simp)
    have HB0 := Below.refl w.heap.size w
    refine wp_seq_k (fun K1 hK1 => ?_)
    refine reg_seq (N := 50) (bs := [(0, .agg #[.int .i64 a0_0, .string a0_1])]) (I := fun x => Below w.heap.size w x) (ps := [IsB #[.int .i64 a0_0, .string a0_1] 26 w.heap.size, VB false]) (by kernel_rfl) ?_ ?_ rfl hS HB0 ?_ ?_
    · exact fun x y hI hb => below_step hI hb
    · exact .cons (Stays.b _ _ _) (.v (.nil))
    · refine .on rfl (fun a w hS hI hp => does_var (x_box rfl (congrArg Value.cells (hS.get 0 rfl))) (hI).size) ?_
      refine .on rfl (fun a w hS hI hp => does_val (x_assign rfl (rfl)) rfl) ?_
      exact .nil
    clear hS
    intro at2 w3 hS hI hp
    have hBw3_w := hI
    replace hS := hS.nil
    obtain ⟨g4, hv1, hgeg4, hbxg4⟩ := (show IsB _ 26 _ (sl _ 1) _ from hp 0 (by decide))
    have hBw3_w3 := Below.refl w3.heap.size w3
    have hS := hS.cons hv1
    clear hp hI hv1
    refine hK1 _ _ ?_
    (try clear hK1 K1)
    refine wp_seq_k (fun K5 hK5 => ?_)
    refine reg_seq (N := 50) (bs := [(1, .pointer (some ⟨g4, 0, none⟩))]) (I := fun x => Below w.heap.size w x ∧ Below w3.heap.size w3 x) (ps := [VP g4 1, IsV (.string a0_1), VI (a0_1.size : Int), VI (a0_1.size : Int)]) (by kernel_rfl) ?_ ?_ rfl hS ⟨hBw3_w, hBw3_w3⟩ ?_ ?_
    · exact fun x y hI hb => ⟨below_step hI.1 hb, below_step hI.2 hb⟩
    · exact .v (.v (.v (.v (.nil))))
    · refine .on rfl (fun a w hS hI hp => does_val (x_fieldE (b := 0) rfl (hS.get 0 rfl) Try.underlying26 rfl rfl (by kernel_rfl)) rfl) ?_
      refine .on rfl (fun a w hS hI hp => does_val (x_load1 (d := .string) rfl (hp.V 0 rfl rfl) (by kernel_rfl) rfl ((blk_cell (((hI.2).block g4 (blk_lt hbxg4)).trans hbxg4) 1).trans rfl)) rfl) ?_
      refine .on rfl (fun a w hS hI hp => does_val (x_lenS rfl (by kernel_rfl) (hp.V 1 rfl rfl)) rfl) ?_
      refine .asg 2 rfl rfl rfl rfl ?_
      exact .nil
    clear hS
    intro at6 w7 hS hI hp
    have hBw7_w := hI.1
    have hBw7_w3 := hI.2
    have hv3 : sl _ 3 = .int .i64 (a0_1.size : Int) := hp 3 (by decide)
    have hBw7_w7 := Below.refl w7.heap.size w7
    have hS := hS.cons hv3
    clear hp hI hv3
    refine hK5 _ _ ?_
    (try clear hK5 K5)
    refine wp_seq_k (fun K8 hK8 => ?_)
    refine wp_seq_k (fun K9 hK9 => ?_)
    refine reg_seq (N := 50) (bs := [(3, .int .i64 (a0_1.size : Int)), (1, .pointer (some ⟨g4, 0, none⟩))]) (I := fun x => Below w.heap.size w x ∧ Below w3.heap.size w3 x ∧ Below w7.heap.size w7 x) (ps := [VP g4 0, VI a0_0]) (by kernel_rfl) ?_ ?_ rfl hS ⟨hBw7_w, hBw7_w3, hBw7_w7⟩ ?_ ?_
    · exact fun x y hI hb => ⟨below_step hI.1 hb, below_step hI.2.1 hb, below_step hI.2.2 hb⟩
    · exact .v (.v (.nil))
    · refine .on rfl (fun a w hS hI hp => does_val (x_fieldE (b := 0) rfl (hS.get 1 rfl) Try.underlying26 rfl rfl (by kernel_rfl)) rfl) ?_
      refine .on rfl (fun a w hS hI hp => does_val (x_load1 (d := .int .i64) rfl (hp.V 0 rfl rfl) (by kernel_rfl) rfl ((blk_cell (((hI.2.1).block g4 (blk_lt hbxg4)).trans hbxg4) 0).trans rfl)) rfl) ?_
      exact .nil
    clear hS
    intro at10 w11 hS hI hp
    have hBw11_w := hI.1
    have hBw11_w3 := hI.2.1
    have hBw11_w7 := hI.2.2
    have hv8 : sl _ 8 = .int .i64 a0_0 := hp 1 (by decide)
    have hBw11_w11 := Below.refl w11.heap.size w11
    have hS := hS.cons hv8
    clear hp hI hv8
    refine hK9 _ _ ?_
    (try clear hK9 K9)
    refine wp_block ?_
    refine wp_seq_k (fun K12 hK12 => ?_)
    refine reg_seq (N := 50) (bs := [(8, .int .i64 a0_0), (3, .int .i64 (a0_1.size : Int)), (1, .pointer (some ⟨g4, 0, none⟩))]) (I := fun x => Below w.heap.size w x ∧ Below w3.heap.size w3 x ∧ Below w11.heap.size w11 x) (ps := [VB (decide (a0_0 = 1)), VB (decide (a0_0 = 1))]) (by kernel_rfl) ?_ ?_ rfl hS ⟨hBw11_w, hBw11_w3, hBw11_w11⟩ ?_ ?_
    · exact fun x y hI hb => ⟨below_step hI.1 hb, below_step hI.2.1 hb, below_step hI.2.2 hb⟩
    · exact .v (.v (.nil))
    · refine .on rfl (fun a w hS hI hp => does_val (x_bin rfl (hS.get 0 rfl) (rfl) (b_eql _ _ _ _ _ _)) rfl) ?_
      refine .asg 0 rfl rfl rfl rfl ?_
      exact .nil
    clear hS
    intro at13 w14 hS hI hp
    have hBw14_w := hI.1
    have hBw14_w3 := hI.2.1
    have hBw14_w11 := hI.2.2
    have hv9 : sl _ 9 = .bool (decide (a0_0 = 1)) := hp 1 (by decide)
    have hBw14_w14 := Below.refl w14.heap.size w14
    have hS := hS.cons hv9
    clear hp hI hv9
    refine hK12 _ _ ?_
    (try clear hK12 K12)
    refine wp_cond_false ((hS.get 0 rfl).trans (bF (decide_eq_false c1))) ?_
    refine wp_seq_k (fun K15 hK15 => ?_)
    refine reg_seq (N := 50) (bs := [(9, .bool (decide (a0_0 = 1))), (8, .int .i64 a0_0), (3, .int .i64 (a0_1.size : Int)), (1, .pointer (some ⟨g4, 0, none⟩))]) (I := fun x => Below w.heap.size w x ∧ Below w3.heap.size w3 x ∧ Below w14.heap.size w14 x) (ps := [VB (decide (a0_0 = 2)), VB (decide (a0_0 = 2))]) (by kernel_rfl) ?_ ?_ rfl hS ⟨hBw14_w, hBw14_w3, hBw14_w14⟩ ?_ ?_
    · exact fun x y hI hb => ⟨below_step hI.1 hb, below_step hI.2.1 hb, below_step hI.2.2 hb⟩
    · exact .v (.v (.nil))
    · refine .on rfl (fun a w hS hI hp => does_val (x_bin rfl (hS.get 1 rfl) (rfl) (b_eql _ _ _ _ _ _)) rfl) ?_
      refine .asg 0 rfl rfl rfl rfl ?_
      exact .nil
    clear hS
    intro at16 w17 hS hI hp
    have hBw17_w := hI.1
    have hBw17_w3 := hI.2.1
    have hBw17_w14 := hI.2.2
    replace hS := (((hS.nil).cons (hS.get 3 rfl)).cons (hS.get 2 rfl)).cons (hS.get 1 rfl)
    have hv13 : sl _ 13 = .bool (decide (a0_0 = 2)) := hp 1 (by decide)
    have hBw17_w17 := Below.refl w17.heap.size w17
    have hS := hS.cons hv13
    clear hp hI hv13
    refine hK15 _ _ ?_
    (try clear hK15 K15)
    refine wp_cond_false ((hS.get 0 rfl).trans (bF (decide_eq_false c2))) ?_
    refine wp_seq_k (fun K18 hK18 => ?_)
    refine reg_seq (N := 50) (bs := [(13, .bool (decide (a0_0 = 2))), (8, .int .i64 a0_0), (3, .int .i64 (a0_1.size : Int)), (1, .pointer (some ⟨g4, 0, none⟩))]) (I := fun x => Below w.heap.size w x ∧ Below w3.heap.size w3 x ∧ Below w17.heap.size w17 x) (ps := [VB (decide (a0_0 = 3)), VB (decide (a0_0 = 3))]) (by kernel_rfl) ?_ ?_ rfl hS ⟨hBw17_w, hBw17_w3, hBw17_w17⟩ ?_ ?_
    · exact fun x y hI hb => ⟨below_step hI.1 hb, below_step hI.2.1 hb, below_step hI.2.2 hb⟩
    · exact .v (.v (.nil))
    · refine .on rfl (fun a w hS hI hp => does_val (x_bin rfl (hS.get 1 rfl) (rfl) (b_eql _ _ _ _ _ _)) rfl) ?_
      refine .asg 0 rfl rfl rfl rfl ?_
      exact .nil
    clear hS
    intro at19 w20 hS hI hp
    have hBw20_w := hI.1
    have hBw20_w3 := hI.2.1
    have hBw20_w17 := hI.2.2
    replace hS := (((hS.nil).cons (hS.get 3 rfl)).cons (hS.get 2 rfl)).cons (hS.get 1 rfl)
    have hv17 : sl _ 17 = .bool (decide (a0_0 = 3)) := hp 1 (by decide)
    have hBw20_w20 := Below.refl w20.heap.size w20
    have hS := hS.cons hv17
    clear hp hI hv17
    refine hK18 _ _ ?_
    (try clear hK18 K18)
    refine wp_cond_false ((hS.get 0 rfl).trans (bF (decide_eq_false c3))) ?_
    refine wp_seq_k (fun K21 hK21 => ?_)
    refine reg_seq (N := 50) (bs := [(17, .bool (decide (a0_0 = 3))), (8, .int .i64 a0_0), (3, .int .i64 (a0_1.size : Int)), (1, .pointer (some ⟨g4, 0, none⟩))]) (I := fun x => Below w.heap.size w x ∧ Below w3.heap.size w3 x ∧ Below w20.heap.size w20 x) (ps := [VB (decide (a0_0 = 4)), VB (decide (a0_0 = 4))]) (by kernel_rfl) ?_ ?_ rfl hS ⟨hBw20_w, hBw20_w3, hBw20_w20⟩ ?_ ?_
    · exact fun x y hI hb => ⟨below_step hI.1 hb, below_step hI.2.1 hb, below_step hI.2.2 hb⟩
    · exact .v (.v (.nil))
    · refine .on rfl (fun a w hS hI hp => does_val (x_bin rfl (hS.get 1 rfl) (rfl) (b_eql _ _ _ _ _ _)) rfl) ?_
      refine .asg 0 rfl rfl rfl rfl ?_
      exact .nil
    clear hS
    intro at22 w23 hS hI hp
    have hBw23_w := hI.1
    have hBw23_w3 := hI.2.1
    have hBw23_w20 := hI.2.2
    replace hS := (((hS.nil).cons (hS.get 3 rfl)).cons (hS.get 2 rfl)).cons (hS.get 1 rfl)
    have hv21 : sl _ 21 = .bool (decide (a0_0 = 4)) := hp 1 (by decide)
    have hBw23_w23 := Below.refl w23.heap.size w23
    have hS := hS.cons hv21
    clear hp hI hv21
    refine hK21 _ _ ?_
    (try clear hK21 K21)
    refine wp_cond_false ((hS.get 0 rfl).trans (bF (decide_eq_false c4))) ?_
    refine wp_seq_k (fun K24 hK24 => ?_)
    refine reg_seq (N := 50) (bs := [(21, .bool (decide (a0_0 = 4))), (8, .int .i64 a0_0), (3, .int .i64 (a0_1.size : Int)), (1, .pointer (some ⟨g4, 0, none⟩))]) (I := fun x => Below w.heap.size w x ∧ Below w3.heap.size w3 x ∧ Below w23.heap.size w23 x) (ps := [VB (decide (a0_0 = 5)), VB (decide (a0_0 = 5))]) (by kernel_rfl) ?_ ?_ rfl hS ⟨hBw23_w, hBw23_w3, hBw23_w23⟩ ?_ ?_
    · exact fun x y hI hb => ⟨below_step hI.1 hb, below_step hI.2.1 hb, below_step hI.2.2 hb⟩
    · exact .v (.v (.nil))
    · refine .on rfl (fun a w hS hI hp => does_val (x_bin rfl (hS.get 1 rfl) (rfl) (b_eql _ _ _ _ _ _)) rfl) ?_
      refine .asg 0 rfl rfl rfl rfl ?_
      exact .nil
    clear hS
    intro at25 w26 hS hI hp
    have hBw26_w := hI.1
    have hBw26_w3 := hI.2.1
    have hBw26_w23 := hI.2.2
    replace hS := (((hS.nil).cons (hS.get 3 rfl)).cons (hS.get 2 rfl)).cons (hS.get 1 rfl)
    have hv25 : sl _ 25 = .bool (decide (a0_0 = 5)) := hp 1 (by decide)
    have hBw26_w26 := Below.refl w26.heap.size w26
    have hS := hS.cons hv25
    clear hp hI hv25
    refine hK24 _ _ ?_
    (try clear hK24 K24)
    refine wp_cond_false ((hS.get 0 rfl).trans (bF (decide_eq_false c5))) ?_
    refine wp_seq_k (fun K27 hK27 => ?_)
    refine wp_mono (Q := fun e a' w' => e = Exit.normal ∧ St 50 [(1, .pointer (some ⟨g4, 0, none⟩)), (3, .int .i64 (a0_1.size : Int)), (8, .int .i64 a0_0), (29, .bool (if a0_0 = 6 then decide (a0_0 = 6) else decide (a0_0 = 7)))] a' ∧ Below w.heap.size w w' ∧ Below w3.heap.size w3 w' ∧ Below w26.heap.size w26 w') ?_ ?_
    · by_cases d28_0 : a0_0 = 6
      · refine wp_seq_k (fun K32 hK32 => ?_)
        refine reg_seq (N := 50) (bs := [(25, .bool (decide (a0_0 = 5))), (8, .int .i64 a0_0), (3, .int .i64 (a0_1.size : Int)), (1, .pointer (some ⟨g4, 0, none⟩))]) (I := fun x => Below w.heap.size w x ∧ Below w3.heap.size w3 x ∧ Below w26.heap.size w26 x) (ps := [VB (decide (a0_0 = 6)), VB (decide (a0_0 = 6))]) (by kernel_rfl) ?_ ?_ rfl hS ⟨hBw26_w, hBw26_w3, hBw26_w26⟩ ?_ ?_
        · exact fun x y hI hb => ⟨below_step hI.1 hb, below_step hI.2.1 hb, below_step hI.2.2 hb⟩
        · exact .v (.v (.nil))
        · refine .on rfl (fun a w hS hI hp => does_val (x_bin rfl (hS.get 1 rfl) (rfl) (b_eql _ _ _ _ _ _)) rfl) ?_
          refine .asg 0 rfl rfl rfl rfl ?_
          exact .nil
        clear hS
        intro at33 w34 hS hI hp
        have hBw34_w := hI.1
        have hBw34_w3 := hI.2.1
        have hBw34_w26 := hI.2.2
        replace hS := (((hS.nil).cons (hS.get 3 rfl)).cons (hS.get 2 rfl)).cons (hS.get 1 rfl)
        have hv29 : sl _ 29 = .bool (decide (a0_0 = 6)) := hp 1 (by decide)
        have hBw34_w34 := Below.refl w34.heap.size w34
        have hS := hS.cons hv29
        clear hp hI hv29
        refine hK32 _ _ ?_
        (try clear hK32 K32)
        refine wp_cond_true ((hS.get 0 rfl).trans (bT (decide_eq_true d28_0))) ?_
        refine wp_skip ?_
        (try simp only [Exit.then, Exit.inBlock, reduceIte])
        exact ⟨by trivial, ((((hS.nil).cons ((hS.get 0 rfl).trans (congrArg (Value.bool) (by simp only [if_pos d28_0])))).cons (hS.get 1 rfl)).cons (hS.get 2 rfl)).cons (hS.get 3 rfl), hBw34_w, hBw34_w3, hBw34_w26⟩
      · refine wp_seq_k (fun K35 hK35 => ?_)
        refine reg_seq (N := 50) (bs := [(25, .bool (decide (a0_0 = 5))), (8, .int .i64 a0_0), (3, .int .i64 (a0_1.size : Int)), (1, .pointer (some ⟨g4, 0, none⟩))]) (I := fun x => Below w.heap.size w x ∧ Below w3.heap.size w3 x ∧ Below w26.heap.size w26 x) (ps := [VB (decide (a0_0 = 6)), VB (decide (a0_0 = 6))]) (by kernel_rfl) ?_ ?_ rfl hS ⟨hBw26_w, hBw26_w3, hBw26_w26⟩ ?_ ?_
        · exact fun x y hI hb => ⟨below_step hI.1 hb, below_step hI.2.1 hb, below_step hI.2.2 hb⟩
        · exact .v (.v (.nil))
        · refine .on rfl (fun a w hS hI hp => does_val (x_bin rfl (hS.get 1 rfl) (rfl) (b_eql _ _ _ _ _ _)) rfl) ?_
          refine .asg 0 rfl rfl rfl rfl ?_
          exact .nil
        clear hS
        intro at36 w37 hS hI hp
        have hBw37_w := hI.1
        have hBw37_w3 := hI.2.1
        have hBw37_w26 := hI.2.2
        replace hS := (((hS.nil).cons (hS.get 3 rfl)).cons (hS.get 2 rfl)).cons (hS.get 1 rfl)
        have hv29 : sl _ 29 = .bool (decide (a0_0 = 6)) := hp 1 (by decide)
        have hBw37_w37 := Below.refl w37.heap.size w37
        have hS := hS.cons hv29
        clear hp hI hv29
        refine hK35 _ _ ?_
        (try clear hK35 K35)
        refine wp_cond_false ((hS.get 0 rfl).trans (bF (decide_eq_false d28_0))) ?_
        replace hS := (((hS.nil).cons (hS.get 3 rfl)).cons (hS.get 2 rfl)).cons (hS.get 1 rfl)
        refine reg_seq (N := 50) (bs := [(8, .int .i64 a0_0), (3, .int .i64 (a0_1.size : Int)), (1, .pointer (some ⟨g4, 0, none⟩))]) (I := fun x => Below w.heap.size w x ∧ Below w3.heap.size w3 x ∧ Below w26.heap.size w26 x ∧ Below w37.heap.size w37 x) (ps := [VB (decide (a0_0 = 7)), VB (decide (a0_0 = 7))]) (by kernel_rfl) ?_ ?_ rfl hS ⟨hBw37_w, hBw37_w3, hBw37_w26, hBw37_w37⟩ ?_ ?_
        · exact fun x y hI hb => ⟨below_step hI.1 hb, below_step hI.2.1 hb, below_step hI.2.2.1 hb, below_step hI.2.2.2 hb⟩
        · exact .v (.v (.nil))
        · refine .on rfl (fun a w hS hI hp => does_val (x_bin rfl (hS.get 0 rfl) (rfl) (b_eql _ _ _ _ _ _)) rfl) ?_
          refine .asg 0 rfl rfl rfl rfl ?_
          exact .nil
        clear hS
        intro at38 w39 hS hI hp
        have hBw39_w := hI.1
        have hBw39_w3 := hI.2.1
        have hBw39_w26 := hI.2.2.1
        have hBw39_w37 := hI.2.2.2
        have hv29 : sl _ 29 = .bool (decide (a0_0 = 7)) := hp 1 (by decide)
        have hBw39_w39 := Below.refl w39.heap.size w39
        have hS := hS.cons hv29
        clear hp hI hv29
        (try simp only [Exit.then, Exit.inBlock, reduceIte])
        exact ⟨by trivial, ((((hS.nil).cons ((hS.get 0 rfl).trans (congrArg (Value.bool) (by simp only [if_neg d28_0])))).cons (hS.get 1 rfl)).cons (hS.get 2 rfl)).cons (hS.get 3 rfl), hBw39_w, hBw39_w3, hBw39_w26⟩
    rintro e41 at41 w40 ⟨rfl, hS, hBw40_w, hBw40_w3, hBw40_w26⟩
    have hBw40_w40 := Below.refl w40.heap.size w40
    (try simp only [Exit.then, Exit.inBlock, reduceIte])
    refine hK27 _ _ ?_
    (try clear hK27 K27)
    refine wp_cond_false ((hS.get 3 rfl).trans (bF (Bool.eq_false_iff.2 c6))) ?_
    refine wp_seq_k (fun K42 hK42 => ?_)
    refine reg_seq (N := 50) (bs := [(1, .pointer (some ⟨g4, 0, none⟩)), (3, .int .i64 (a0_1.size : Int)), (8, .int .i64 a0_0), (29, .bool (if a0_0 = 6 then decide (a0_0 = 6) else decide (a0_0 = 7)))]) (I := fun x => Below w.heap.size w x ∧ Below w3.heap.size w3 x ∧ Below w40.heap.size w40 x) (ps := [VB (decide (a0_0 = 8)), VB (decide (a0_0 = 8))]) (by kernel_rfl) ?_ ?_ rfl hS ⟨hBw40_w, hBw40_w3, hBw40_w40⟩ ?_ ?_
    · exact fun x y hI hb => ⟨below_step hI.1 hb, below_step hI.2.1 hb, below_step hI.2.2 hb⟩
    · exact .v (.v (.nil))
    · refine .on rfl (fun a w hS hI hp => does_val (x_bin rfl (hS.get 2 rfl) (rfl) (b_eql _ _ _ _ _ _)) rfl) ?_
      refine .asg 0 rfl rfl rfl rfl ?_
      exact .nil
    clear hS
    intro at43 w44 hS hI hp
    have hBw44_w := hI.1
    have hBw44_w3 := hI.2.1
    have hBw44_w40 := hI.2.2
    replace hS := (((hS.nil).cons (hS.get 2 rfl)).cons (hS.get 1 rfl)).cons (hS.get 0 rfl)
    have hv34 : sl _ 34 = .bool (decide (a0_0 = 8)) := hp 1 (by decide)
    have hBw44_w44 := Below.refl w44.heap.size w44
    have hS := hS.cons hv34
    clear hp hI hv34
    refine hK42 _ _ ?_
    (try clear hK42 K42)
    refine wp_cond_true ((hS.get 0 rfl).trans (bT (decide_eq_true c7))) ?_
    refine wp_seq_k (fun K45 hK45 => ?_)
    refine reg_seq (N := 50) (bs := [(34, .bool (decide (a0_0 = 8))), (1, .pointer (some ⟨g4, 0, none⟩)), (3, .int .i64 (a0_1.size : Int)), (8, .int .i64 a0_0)]) (I := fun x => Below w.heap.size w x ∧ Below w3.heap.size w3 x ∧ Below w44.heap.size w44 x) (ps := [VI (a0_1.size : Int), VI (Int.tmod (a0_1.size : Int) 8), VB (decide ((Int.tmod (a0_1.size : Int) 8) = 0)), VB (decide ((Int.tmod (a0_1.size : Int) 8) = 0)), VU, VU, VB false, VB false]) (by kernel_rfl) ?_ ?_ rfl hS ⟨hBw44_w, hBw44_w3, hBw44_w44⟩ ?_ ?_
    · exact fun x y hI hb => ⟨below_step hI.1 hb, below_step hI.2.1 hb, below_step hI.2.2 hb⟩
    · exact .v (.v (.v (.v (.v (.v (.v (.v (.nil))))))))
    · refine .ms 2 rfl rfl rfl ?_
      refine .on rfl (fun a w hS hI hp => does_val (x_bin rfl (hp.V 0 rfl rfl) (rfl) (b_rem _ _ _ _ _ _ (by decide))) rfl) ?_
      refine .on rfl (fun a w hS hI hp => does_val (x_bin rfl (hp.V 1 rfl rfl) (rfl) (b_eql _ _ _ _ _ _)) rfl) ?_
      refine .mv 2 rfl rfl rfl rfl ?_
      iterate 2 refine .sn 3 39 rfl rfl rfl rfl rfl ((decide_eq_false c8)) ?_
      refine .pf 3 rfl rfl rfl rfl ((decide_eq_false c8)) (fun _ => rfl) ?_
      refine .asg 6 rfl rfl rfl rfl ?_
      exact .nil
    clear hS
    intro at46 w47 hS hI hp
    have hBw47_w := hI.1
    have hBw47_w3 := hI.2.1
    have hBw47_w44 := hI.2.2
    replace hS := hS.nil
    have hv2 : sl _ 2 = .bool false := hp 7 (by decide)
    have hBw47_w47 := Below.refl w47.heap.size w47
    have hS := hS.cons hv2
    clear hp hI hv2
    refine hK45 _ _ ?_
    (try clear hK45 K45)
    refine wp_ret ?_
    (try simp only [Exit.then, Exit.inBlock, Exit.jump, Exit.noGoto])
    exact bodyPost_ret (v := .bool false) (results_single rfl (Vals.at (hS.get 0 rfl) .nil)) hS.nodef ⟨rfl, hBw47_w⟩
  rw [if_neg c7] at H
  by_cases c8 : a0_0 = 9
  · rw [if_pos c8] at H
    obtain rfl := Option.some.inj H
    refine calls_of_wp (fn := Try.f18) (by kernel_rfl) rfl ?_
    have hS := St.enter #[.agg #[.int .i64 a0_0, .string a0_1]] 50 (by simp) [(0, .agg #[.int .i64 a0_0, .string a0_1])] (by simp)
    have HB0 := Below.refl w.heap.size w
    refine wp_seq_k (fun K1 hK1 => ?_)
    refine reg_seq (N := 50) (bs := [(0, .agg #[.int .i64 a0_0, .string a0_1])]) (I := fun x => Below w.heap.size w x) (ps := [IsB #[.int .i64 a0_0, .string a0_1] 26 w.heap.size, VB false]) (by kernel_rfl) ?_ ?_ rfl hS HB0 ?_ ?_
    · exact fun x y hI hb => below_step hI hb
    · exact .cons (Stays.b _ _ _) (.v (.nil))
    · refine .on rfl (fun a w hS hI hp => does_var (x_box rfl (congrArg Value.cells (hS.get 0 rfl))) (hI).size) ?_
      refine .on rfl (fun a w hS hI hp => does_val (x_assign rfl (rfl)) rfl) ?_
      exact .nil
    clear hS
    intro at2 w3 hS hI hp
    have hBw3_w := hI
    replace hS := hS.nil
    obtain ⟨g4, hv1, hgeg4, hbxg4⟩ := (show IsB _ 26 _ (sl _ 1) _ from hp 0 (by decide))
    have hBw3_w3 := Below.refl w3.heap.size w3
    have hS := hS.cons hv1
    clear hp hI hv1
    refine hK1 _ _ ?_
    (try clear hK1 K1)
    refine wp_seq_k (fun K5 hK5 => ?_)
    refine reg_seq (N := 50) (bs := [(1, .pointer (some ⟨g4, 0, none⟩))]) (I := fun x => Below w.heap.size w x ∧ Below w3.heap.size w3 x) (ps := [VP g4 1, IsV (.string a0_1), VI (a0_1.size : Int), VI (a0_1.size : Int)]) (by kernel_rfl) ?_ ?_ rfl hS ⟨hBw3_w, hBw3_w3⟩ ?_ ?_
    · exact fun x y hI hb => ⟨below_step hI.1 hb, below_step hI.2 hb⟩
    · exact .v (.v (.v (.v (.nil))))
    · refine .on rfl (fun a w hS hI hp => does_val (x_fieldE (b := 0) rfl (hS.get 0 rfl) Try.underlying26 rfl rfl (by kernel_rfl)) rfl) ?_
      refine .on rfl (fun a w hS hI hp => does_val (x_load1 (d := .string) rfl (hp.V 0 rfl rfl) (by kernel_rfl) rfl ((blk_cell (((hI.2).block g4 (blk_lt hbxg4)).trans hbxg4) 1).trans rfl)) rfl) ?_
      refine .on rfl (fun a w hS hI hp => does_val (x_lenS rfl (by kernel_rfl) (hp.V 1 rfl rfl)) rfl) ?_
      refine .asg 2 rfl rfl rfl rfl ?_
      exact .nil
    clear hS
    intro at6 w7 hS hI hp
    have hBw7_w := hI.1
    have hBw7_w3 := hI.2
    have hv3 : sl _ 3 = .int .i64 (a0_1.size : Int) := hp 3 (by decide)
    have hBw7_w7 := Below.refl w7.heap.size w7
    have hS := hS.cons hv3
    clear hp hI hv3
    refine hK5 _ _ ?_
    (try clear hK5 K5)
    refine wp_seq_k (fun K8 hK8 => ?_)
    refine wp_seq_k (fun K9 hK9 => ?_)
    refine reg_seq (N := 50) (bs := [(3, .int .i64 (a0_1.size : Int)), (1, .pointer (some ⟨g4, 0, none⟩))]) (I := fun x => Below w.heap.size w x ∧ Below w3.heap.size w3 x ∧ Below w7.heap.size w7 x) (ps := [VP g4 0, VI a0_0]) (by kernel_rfl) ?_ ?_ rfl hS ⟨hBw7_w, hBw7_w3, hBw7_w7⟩ ?_ ?_
    · exact fun x y hI hb => ⟨below_step hI.1 hb, below_step hI.2.1 hb, below_step hI.2.2 hb⟩
    · exact .v (.v (.nil))
    · refine .on rfl (fun a w hS hI hp => does_val (x_fieldE (b := 0) rfl (hS.get 1 rfl) Try.underlying26 rfl rfl (by kernel_rfl)) rfl) ?_
      refine .on rfl (fun a w hS hI hp => does_val (x_load1 (d := .int .i64) rfl (hp.V 0 rfl rfl) (by kernel_rfl) rfl ((blk_cell (((hI.2.1).block g4 (blk_lt hbxg4)).trans hbxg4) 0).trans rfl)) rfl) ?_
      exact .nil
    clear hS
    intro at10 w11 hS hI hp
    have hBw11_w := hI.1
    have hBw11_w3 := hI.2.1
    have hBw11_w7 := hI.2.2
    have hv8 : sl _ 8 = .int .i64 a0_0 := hp 1 (by decide)
    have hBw11_w11 := Below.refl w11.heap.size w11
    have hS := hS.cons hv8
    clear hp hI hv8
    refine hK9 _ _ ?_
    (try clear hK9 K9)
    refine wp_block ?_
    refine wp_seq_k (fun K12 hK12 => ?_)
    refine reg_seq (N := 50) (bs := [(8, .int .i64 a0_0), (3, .int .i64 (a0_1.size : Int)), (1, .pointer (some ⟨g4, 0, none⟩))]) (I := fun x => Below w.heap.size w x ∧ Below w3.heap.size w3 x ∧ Below w11.heap.size w11 x) (ps := [VB (decide (a0_0 = 1)), VB (decide (a0_0 = 1))]) (by kernel_rfl) ?_ ?_ rfl hS ⟨hBw11_w, hBw11_w3, hBw11_w11⟩ ?_ ?_
    · exact fun x y hI hb => ⟨below_step hI.1 hb, below_step hI.2.1 hb, below_step hI.2.2 hb⟩
    · exact .v (.v (.nil))
    · refine .on rfl (fun a w hS hI hp => does_val (x_bin rfl (hS.get 0 rfl) (rfl) (b_eql _ _ _ _ _ _)) rfl) ?_
      refine .asg 0 rfl rfl rfl rfl ?_
      exact .nil
    clear hS
    intro at13 w14 hS hI hp
    have hBw14_w := hI.1
    have hBw14_w3 := hI.2.1
    have hBw14_w11 := hI.2.2
    have hv9 : sl _ 9 = .bool (decide (a0_0 = 1)) := hp 1 (by decide)
    have hBw14_w14 := Below.refl w14.heap.size w14
    have hS := hS.cons hv9
    clear hp hI hv9
    refine hK12 _ _ ?_
    (try clear hK12 K12)
    refine wp_cond_false ((hS.get 0 rfl).trans (bF (decide_eq_false c1))) ?_
    refine wp_seq_k (fun K15 hK15 => ?_)
    refine reg_seq (N := 50) (bs := [(9, .bool (decide (a0_0 = 1))), (8, .int .i64 a0_0), (3, .int .i64 (a0_1.size : Int)), (1, .pointer (some ⟨g4, 0, none⟩))]) (I := fun x => Below w.heap.size w x ∧ Below w3.heap.size w3 x ∧ Below w14.heap.size w14 x) (ps := [VB (decide (a0_0 = 2)), VB (decide (a0_0 = 2))]) (by kernel_rfl) ?_ ?_ rfl hS ⟨hBw14_w, hBw14_w3, hBw14_w14⟩ ?_ ?_
    · exact fun x y hI hb => ⟨below_step hI.1 hb, below_step hI.2.1 hb, below_step hI.2.2 hb⟩
    · exact .v (.v (.nil))
    · refine .on rfl (fun a w hS hI hp => does_val (x_bin rfl (hS.get 1 rfl) (rfl) (b_eql _ _ _ _ _ _)) rfl) ?_
      refine .asg 0 rfl rfl rfl rfl ?_
      exact .nil
    clear hS
    intro at16 w17 hS hI hp
    have hBw17_w := hI.1
    have hBw17_w3 := hI.2.1
    have hBw17_w14 := hI.2.2
    replace hS := (((hS.nil).cons (hS.get 3 rfl)).cons (hS.get 2 rfl)).cons (hS.get 1 rfl)
    have hv13 : sl _ 13 = .bool (decide (a0_0 = 2)) := hp 1 (by decide)
    have hBw17_w17 := Below.refl w17.heap.size w17
    have hS := hS.cons hv13
    clear hp hI hv13
    refine hK15 _ _ ?_
    (try clear hK15 K15)
    refine wp_cond_false ((hS.get 0 rfl).trans (bF (decide_eq_false c2))) ?_
    refine wp_seq_k (fun K18 hK18 => ?_)
    refine reg_seq (N := 50) (bs := [(13, .bool (decide (a0_0 = 2))), (8, .int .i64 a0_0), (3, .int .i64 (a0_1.size : Int)), (1, .pointer (some ⟨g4, 0, none⟩))]) (I := fun x => Below w.heap.size w x ∧ Below w3.heap.size w3 x ∧ Below w17.heap.size w17 x) (ps := [VB (decide (a0_0 = 3)), VB (decide (a0_0 = 3))]) (by kernel_rfl) ?_ ?_ rfl hS ⟨hBw17_w, hBw17_w3, hBw17_w17⟩ ?_ ?_
    · exact fun x y hI hb => ⟨below_step hI.1 hb, below_step hI.2.1 hb, below_step hI.2.2 hb⟩
    · exact .v (.v (.nil))
    · refine .on rfl (fun a w hS hI hp => does_val (x_bin rfl (hS.get 1 rfl) (rfl) (b_eql _ _ _ _ _ _)) rfl) ?_
      refine .asg 0 rfl rfl rfl rfl ?_
      exact .nil
    clear hS
    intro at19 w20 hS hI hp
    have hBw20_w := hI.1
    have hBw20_w3 := hI.2.1
    have hBw20_w17 := hI.2.2
    replace hS := (((hS.nil).cons (hS.get 3 rfl)).cons (hS.get 2 rfl)).cons (hS.get 1 rfl)
    have hv17 : sl _ 17 = .bool (decide (a0_0 = 3)) := hp 1 (by decide)
    have hBw20_w20 := Below.refl w20.heap.size w20
    have hS := hS.cons hv17
    clear hp hI hv17
    refine hK18 _ _ ?_
    (try clear hK18 K18)
    refine wp_cond_false ((hS.get 0 rfl).trans (bF (decide_eq_false c3))) ?_
    refine wp_seq_k (fun K21 hK21 => ?_)
    refine reg_seq (N := 50) (bs := [(17, .bool (decide (a0_0 = 3))), (8, .int .i64 a0_0), (3, .int .i64 (a0_1.size : Int)), (1, .pointer (some ⟨g4, 0, none⟩))]) (I := fun x => Below w.heap.size w x ∧ Below w3.heap.size w3 x ∧ Below w20.heap.size w20 x) (ps := [VB (decide (a0_0 = 4)), VB (decide (a0_0 = 4))]) (by kernel_rfl) ?_ ?_ rfl hS ⟨hBw20_w, hBw20_w3, hBw20_w20⟩ ?_ ?_
    · exact fun x y hI hb => ⟨below_step hI.1 hb, below_step hI.2.1 hb, below_step hI.2.2 hb⟩
    · exact .v (.v (.nil))
    · refine .on rfl (fun a w hS hI hp => does_val (x_bin rfl (hS.get 1 rfl) (rfl) (b_eql _ _ _ _ _ _)) rfl) ?_
      refine .asg 0 rfl rfl rfl rfl ?_
      exact .nil
    clear hS
    intro at22 w23 hS hI hp
    have hBw23_w := hI.1
    have hBw23_w3 := hI.2.1
    have hBw23_w20 := hI.2.2
    replace hS := (((hS.nil).cons (hS.get 3 rfl)).cons (hS.get 2 rfl)).cons (hS.get 1 rfl)
    have hv21 : sl _ 21 = .bool (decide (a0_0 = 4)) := hp 1 (by decide)
    have hBw23_w23 := Below.refl w23.heap.size w23
    have hS := hS.cons hv21
    clear hp hI hv21
    refine hK21 _ _ ?_
    (try clear hK21 K21)
    refine wp_cond_false ((hS.get 0 rfl).trans (bF (decide_eq_false c4))) ?_
    refine wp_seq_k (fun K24 hK24 => ?_)
    refine reg_seq (N := 50) (bs := [(21, .bool (decide (a0_0 = 4))), (8, .int .i64 a0_0), (3, .int .i64 (a0_1.size : Int)), (1, .pointer (some ⟨g4, 0, none⟩))]) (I := fun x => Below w.heap.size w x ∧ Below w3.heap.size w3 x ∧ Below w23.heap.size w23 x) (ps := [VB (decide (a0_0 = 5)), VB (decide (a0_0 = 5))]) (by kernel_rfl) ?_ ?_ rfl hS ⟨hBw23_w, hBw23_w3, hBw23_w23⟩ ?_ ?_
    · exact fun x y hI hb => ⟨below_step hI.1 hb, below_step hI.2.1 hb, below_step hI.2.2 hb⟩
    · exact .v (.v (.nil))
    · refine .on rfl (fun a w hS hI hp => does_val (x_bin rfl (hS.get 1 rfl) (rfl) (b_eql _ _ _ _ _ _)) rfl) ?_
      refine .asg 0 rfl rfl rfl rfl ?_
      exact .nil
    clear hS
    intro at25 w26 hS hI hp
    have hBw26_w := hI.1
    have hBw26_w3 := hI.2.1
    have hBw26_w23 := hI.2.2
    replace hS := (((hS.nil).cons (hS.get 3 rfl)).cons (hS.get 2 rfl)).cons (hS.get 1 rfl)
    have hv25 : sl _ 25 = .bool (decide (a0_0 = 5)) := hp 1 (by decide)
    have hBw26_w26 := Below.refl w26.heap.size w26
    have hS := hS.cons hv25
    clear hp hI hv25
    refine hK24 _ _ ?_
    (try clear hK24 K24)
    refine wp_cond_false ((hS.get 0 rfl).trans (bF (decide_eq_false c5))) ?_
    refine wp_seq_k (fun K27 hK27 => ?_)
    refine wp_mono (Q := fun e a' w' => e = Exit.normal ∧ St 50 [(1, .pointer (some ⟨g4, 0, none⟩)), (3, .int .i64 (a0_1.size : Int)), (8, .int .i64 a0_0), (29, .bool (if a0_0 = 6 then decide (a0_0 = 6) else decide (a0_0 = 7)))] a' ∧ Below w.heap.size w w' ∧ Below w3.heap.size w3 w' ∧ Below w26.heap.size w26 w') ?_ ?_
    · by_cases d28_0 : a0_0 = 6
      · refine wp_seq_k (fun K32 hK32 => ?_)
        refine reg_seq (N := 50) (bs := [(25, .bool (decide (a0_0 = 5))), (8, .int .i64 a0_0), (3, .int .i64 (a0_1.size : Int)), (1, .pointer (some ⟨g4, 0, none⟩))]) (I := fun x => Below w.heap.size w x ∧ Below w3.heap.size w3 x ∧ Below w26.heap.size w26 x) (ps := [VB (decide (a0_0 = 6)), VB (decide (a0_0 = 6))]) (by kernel_rfl) ?_ ?_ rfl hS ⟨hBw26_w, hBw26_w3, hBw26_w26⟩ ?_ ?_
        · exact fun x y hI hb => ⟨below_step hI.1 hb, below_step hI.2.1 hb, below_step hI.2.2 hb⟩
        · exact .v (.v (.nil))
        · refine .on rfl (fun a w hS hI hp => does_val (x_bin rfl (hS.get 1 rfl) (rfl) (b_eql _ _ _ _ _ _)) rfl) ?_
          refine .asg 0 rfl rfl rfl rfl ?_
          exact .nil
        clear hS
        intro at33 w34 hS hI hp
        have hBw34_w := hI.1
        have hBw34_w3 := hI.2.1
        have hBw34_w26 := hI.2.2
        replace hS := (((hS.nil).cons (hS.get 3 rfl)).cons (hS.get 2 rfl)).cons (hS.get 1 rfl)
        have hv29 : sl _ 29 = .bool (decide (a0_0 = 6)) := hp 1 (by decide)
        have hBw34_w34 := Below.refl w34.heap.size w34
        have hS := hS.cons hv29
        clear hp hI hv29
        refine hK32 _ _ ?_
        (try clear hK32 K32)
        refine wp_cond_true ((hS.get 0 rfl).trans (bT (decide_eq_true d28_0))) ?_
        refine wp_skip ?_
        (try simp only [Exit.then, Exit.inBlock, reduceIte])
        exact ⟨by trivial, ((((hS.nil).cons ((hS.get 0 rfl).trans (congrArg (Value.bool) (by simp only [if_pos d28_0])))).cons (hS.get 1 rfl)).cons (hS.get 2 rfl)).cons (hS.get 3 rfl), hBw34_w, hBw34_w3, hBw34_w26⟩
      · refine wp_seq_k (fun K35 hK35 => ?_)
        refine reg_seq (N := 50) (bs := [(25, .bool (decide (a0_0 = 5))), (8, .int .i64 a0_0), (3, .int .i64 (a0_1.size : Int)), (1, .pointer (some ⟨g4, 0, none⟩))]) (I := fun x => Below w.heap.size w x ∧ Below w3.heap.size w3 x ∧ Below w26.heap.size w26 x) (ps := [VB (decide (a0_0 = 6)), VB (decide (a0_0 = 6))]) (by kernel_rfl) ?_ ?_ rfl hS ⟨hBw26_w, hBw26_w3, hBw26_w26⟩ ?_ ?_
        · exact fun x y hI hb => ⟨below_step hI.1 hb, below_step hI.2.1 hb, below_step hI.2.2 hb⟩
        · exact .v (.v (.nil))
        · refine .on rfl (fun a w hS hI hp => does_val (x_bin rfl (hS.get 1 rfl) (rfl) (b_eql _ _ _ _ _ _)) rfl) ?_
          refine .asg 0 rfl rfl rfl rfl ?_
          exact .nil
        clear hS
        intro at36 w37 hS hI hp
        have hBw37_w := hI.1
        have hBw37_w3 := hI.2.1
        have hBw37_w26 := hI.2.2
        replace hS := (((hS.nil).cons (hS.get 3 rfl)).cons (hS.get 2 rfl)).cons (hS.get 1 rfl)
        have hv29 : sl _ 29 = .bool (decide (a0_0 = 6)) := hp 1 (by decide)
        have hBw37_w37 := Below.refl w37.heap.size w37
        have hS := hS.cons hv29
        clear hp hI hv29
        refine hK35 _ _ ?_
        (try clear hK35 K35)
        refine wp_cond_false ((hS.get 0 rfl).trans (bF (decide_eq_false d28_0))) ?_
        replace hS := (((hS.nil).cons (hS.get 3 rfl)).cons (hS.get 2 rfl)).cons (hS.get 1 rfl)
        refine reg_seq (N := 50) (bs := [(8, .int .i64 a0_0), (3, .int .i64 (a0_1.size : Int)), (1, .pointer (some ⟨g4, 0, none⟩))]) (I := fun x => Below w.heap.size w x ∧ Below w3.heap.size w3 x ∧ Below w26.heap.size w26 x ∧ Below w37.heap.size w37 x) (ps := [VB (decide (a0_0 = 7)), VB (decide (a0_0 = 7))]) (by kernel_rfl) ?_ ?_ rfl hS ⟨hBw37_w, hBw37_w3, hBw37_w26, hBw37_w37⟩ ?_ ?_
        · exact fun x y hI hb => ⟨below_step hI.1 hb, below_step hI.2.1 hb, below_step hI.2.2.1 hb, below_step hI.2.2.2 hb⟩
        · exact .v (.v (.nil))
        · refine .on rfl (fun a w hS hI hp => does_val (x_bin rfl (hS.get 0 rfl) (rfl) (b_eql _ _ _ _ _ _)) rfl) ?_
          refine .asg 0 rfl rfl rfl rfl ?_
          exact .nil
        clear hS
        intro at38 w39 hS hI hp
        have hBw39_w := hI.1
        have hBw39_w3 := hI.2.1
        have hBw39_w26 := hI.2.2.1
        have hBw39_w37 := hI.2.2.2
        have hv29 : sl _ 29 = .bool (decide (a0_0 = 7)) := hp 1 (by decide)
        have hBw39_w39 := Below.refl w39.heap.size w39
        have hS := hS.cons hv29
        clear hp hI hv29
        (try simp only [Exit.then, Exit.inBlock, reduceIte])
        exact ⟨by trivial, ((((hS.nil).cons ((hS.get 0 rfl).trans (congrArg (Value.bool) (by simp only [if_neg d28_0])))).cons (hS.get 1 rfl)).cons (hS.get 2 rfl)).cons (hS.get 3 rfl), hBw39_w, hBw39_w3, hBw39_w26⟩
    rintro e41 at41 w40 ⟨rfl, hS, hBw40_w, hBw40_w3, hBw40_w26⟩
    have hBw40_w40 := Below.refl w40.heap.size w40
    (try simp only [Exit.then, Exit.inBlock, reduceIte])
    refine hK27 _ _ ?_
    (try clear hK27 K27)
    refine wp_cond_false ((hS.get 3 rfl).trans (bF (Bool.eq_false_iff.2 c6))) ?_
    refine wp_seq_k (fun K42 hK42 => ?_)
    refine reg_seq (N := 50) (bs := [(1, .pointer (some ⟨g4, 0, none⟩)), (3, .int .i64 (a0_1.size : Int)), (8, .int .i64 a0_0), (29, .bool (if a0_0 = 6 then decide (a0_0 = 6) else decide (a0_0 = 7)))]) (I := fun x => Below w.heap.size w x ∧ Below w3.heap.size w3 x ∧ Below w40.heap.size w40 x) (ps := [VB (decide (a0_0 = 8)), VB (decide (a0_0 = 8))]) (by kernel_rfl) ?_ ?_ rfl hS ⟨hBw40_w, hBw40_w3, hBw40_w40⟩ ?_ ?_
    · exact fun x y hI hb => ⟨below_step hI.1 hb, below_step hI.2.1 hb, below_step hI.2.2 hb⟩
    · exact .v (.v (.nil))
    · refine .on rfl (fun a w hS hI hp => does_val (x_bin rfl (hS.get 2 rfl) (rfl) (b_eql _ _ _ _ _ _)) rfl) ?_
      refine .asg 0 rfl rfl rfl rfl ?_
      exact .nil
    clear hS
    intro at43 w44 hS hI hp
    have hBw44_w := hI.1
    have hBw44_w3 := hI.2.1
    have hBw44_w40 := hI.2.2
    replace hS := (((hS.nil).cons (hS.get 2 rfl)).cons (hS.get 1 rfl)).cons (hS.get 0 rfl)
    have hv34 : sl _ 34 = .bool (decide (a0_0 = 8)) := hp 1 (by decide)
    have hBw44_w44 := Below.refl w44.heap.size w44
    have hS := hS.cons hv34
    clear hp hI hv34
    refine hK42 _ _ ?_
    (try clear hK42 K42)
    refine wp_cond_false ((hS.get 0 rfl).trans (bF (decide_eq_false c7))) ?_
    refine wp_seq_k (fun K45 hK45 => ?_)
    refine reg_seq (N := 50) (bs := [(34, .bool (decide (a0_0 = 8))), (1, .pointer (some ⟨g4, 0, none⟩)), (3, .int .i64 (a0_1.size : Int)), (8, .int .i64 a0_0)]) (I := fun x => Below w.heap.size w x ∧ Below w3.heap.size w3 x ∧ Below w44.heap.size w44 x) (ps := [VB (decide (a0_0 = 9)), VB (decide (a0_0 = 9))]) (by kernel_rfl) ?_ ?_ rfl hS ⟨hBw44_w, hBw44_w3, hBw44_w44⟩ ?_ ?_
    · exact fun x y hI hb => ⟨below_step hI.1 hb, below_step hI.2.1 hb, below_step hI.2.2 hb⟩
    · exact .v (.v (.nil))
    · refine .on rfl (fun a w hS hI hp => does_val (x_bin rfl (hS.get 3 rfl) (rfl) (b_eql _ _ _ _ _ _)) rfl) ?_
      refine .asg 0 rfl rfl rfl rfl ?_
      exact .nil
    clear hS
    intro at46 w47 hS hI hp
    have hBw47_w := hI.1
    have hBw47_w3 := hI.2.1
    have hBw47_w44 := hI.2.2
    replace hS := ((hS.nil).cons (hS.get 2 rfl)).cons (hS.get 1 rfl)
    have hv43 : sl _ 43 = .bool (decide (a0_0 = 9)) := hp 1 (by decide)
    have hBw47_w47 := Below.refl w47.heap.size w47
    have hS := hS.cons hv43
    clear hp hI hv43
    refine hK45 _ _ ?_
    (try clear hK45 K45)
    refine wp_cond_true ((hS.get 0 rfl).trans (bT (decide_eq_true c8))) ?_
    refine wp_seq_k (fun K48 hK48 => ?_)
    refine reg_seq (N := 50) (bs := [(43, .bool (decide (a0_0 = 9))), (1, .pointer (some ⟨g4, 0, none⟩)), (3, .int .i64 (a0_1.size : Int))]) (I := fun x => Below w.heap.size w x ∧ Below w3.heap.size w3 x ∧ Below w47.heap.size w47 x) (ps := [VI (a0_1.size : Int), VB (decide ((a0_1.size : Int) ≥ 16)), VB (decide ((a0_1.size : Int) ≥ 16))]) (by kernel_rfl) ?_ ?_ rfl hS ⟨hBw47_w, hBw47_w3, hBw47_w47⟩ ?_ ?_
    · exact fun x y hI hb => ⟨below_step hI.1 hb, below_step hI.2.1 hb, below_step hI.2.2 hb⟩
    · exact .v (.v (.v (.nil)))
    · refine .ms 2 rfl rfl rfl ?_
      refine .on rfl (fun a w hS hI hp => does_val (x_bin rfl (hp.V 0 rfl rfl) (rfl) (b_geq _ _ _ _ _ _)) rfl) ?_
      refine .asg 1 rfl rfl rfl rfl ?_
      exact .nil
    clear hS
    intro at49 w50 hS hI hp
    have hBw50_w := hI.1
    have hBw50_w3 := hI.2.1
    have hBw50_w47 := hI.2.2
    replace hS := hS.nil
    have hv2 : sl _ 2 = .bool (decide ((a0_1.size : Int) ≥ 16)) := hp 2 (by decide)
    have hBw50_w50 := Below.refl w50.heap.size w50
    have hS := hS.cons hv2
    clear hp hI hv2
    refine hK48 _ _ ?_
    (try clear hK48 K48)
    refine wp_ret ?_
    (try simp only [Exit.then, Exit.inBlock, Exit.jump, Exit.noGoto])
    exact bodyPost_ret (v := .bool (decide ((a0_1.size : Int) ≥ 16))) (results_single rfl (Vals.at (hS.get 0 rfl) .nil)) hS.nodef ⟨rfl, hBw50_w⟩
  rw [if_neg c8] at H
  obtain rfl := Option.some.inj H
  refine calls_of_wp (fn := Try.f18) (by kernel_rfl) rfl ?_
  have hS := St.enter #[.agg #[.int .i64 a0_0, .string a0_1]] 50 (by simp) [(0, .agg #[.int .i64 a0_0, .string a0_1])] (by simp)
  have HB0 := Below.refl w.heap.size w
  refine wp_seq_k (fun K1 hK1 => ?_)
  refine reg_seq (N := 50) (bs := [(0, .agg #[.int .i64 a0_0, .string a0_1])]) (I := fun x => Below w.heap.size w x) (ps := [IsB #[.int .i64 a0_0, .string a0_1] 26 w.heap.size, VB false]) (by kernel_rfl) ?_ ?_ rfl hS HB0 ?_ ?_
  · exact fun x y hI hb => below_step hI hb
  · exact .cons (Stays.b _ _ _) (.v (.nil))
  · refine .on rfl (fun a w hS hI hp => does_var (x_box rfl (congrArg Value.cells (hS.get 0 rfl))) (hI).size) ?_
    refine .on rfl (fun a w hS hI hp => does_val (x_assign rfl (rfl)) rfl) ?_
    exact .nil
  clear hS
  intro at2 w3 hS hI hp
  have hBw3_w := hI
  replace hS := hS.nil
  obtain ⟨g4, hv1, hgeg4, hbxg4⟩ := (show IsB _ 26 _ (sl _ 1) _ from hp 0 (by decide))
  have hBw3_w3 := Below.refl w3.heap.size w3
  have hS := hS.cons hv1
  clear hp hI hv1
  refine hK1 _ _ ?_
  (try clear hK1 K1)
  refine wp_seq_k (fun K5 hK5 => ?_)
  refine reg_seq (N := 50) (bs := [(1, .pointer (some ⟨g4, 0, none⟩))]) (I := fun x => Below w.heap.size w x ∧ Below w3.heap.size w3 x) (ps := [VP g4 1, IsV (.string a0_1), VI (a0_1.size : Int), VI (a0_1.size : Int)]) (by kernel_rfl) ?_ ?_ rfl hS ⟨hBw3_w, hBw3_w3⟩ ?_ ?_
  · exact fun x y hI hb => ⟨below_step hI.1 hb, below_step hI.2 hb⟩
  · exact .v (.v (.v (.v (.nil))))
  · refine .on rfl (fun a w hS hI hp => does_val (x_fieldE (b := 0) rfl (hS.get 0 rfl) Try.underlying26 rfl rfl (by kernel_rfl)) rfl) ?_
    refine .on rfl (fun a w hS hI hp => does_val (x_load1 (d := .string) rfl (hp.V 0 rfl rfl) (by kernel_rfl) rfl ((blk_cell (((hI.2).block g4 (blk_lt hbxg4)).trans hbxg4) 1).trans rfl)) rfl) ?_
    refine .on rfl (fun a w hS hI hp => does_val (x_lenS rfl (by kernel_rfl) (hp.V 1 rfl rfl)) rfl) ?_
    refine .asg 2 rfl rfl rfl rfl ?_
    exact .nil
  clear hS
  intro at6 w7 hS hI hp
  have hBw7_w := hI.1
  have hBw7_w3 := hI.2
  have hv3 : sl _ 3 = .int .i64 (a0_1.size : Int) := hp 3 (by decide)
  have hBw7_w7 := Below.refl w7.heap.size w7
  have hS := hS.cons hv3
  clear hp hI hv3
  refine hK5 _ _ ?_
  (try clear hK5 K5)
  refine wp_seq_k (fun K8 hK8 => ?_)
  refine wp_seq_k (fun K9 hK9 => ?_)
  refine reg_seq (N := 50) (bs := [(3, .int .i64 (a0_1.size : Int)), (1, .pointer (some ⟨g4, 0, none⟩))]) (I := fun x => Below w.heap.size w x ∧ Below w3.heap.size w3 x ∧ Below w7.heap.size w7 x) (ps := [VP g4 0, VI a0_0]) (by kernel_rfl) ?_ ?_ rfl hS ⟨hBw7_w, hBw7_w3, hBw7_w7⟩ ?_ ?_
  · exact fun x y hI hb => ⟨below_step hI.1 hb, below_step hI.2.1 hb, below_step hI.2.2 hb⟩
  · exact .v (.v (.nil))
  · refine .on rfl (fun a w hS hI hp => does_val (x_fieldE (b := 0) rfl (hS.get 1 rfl) Try.underlying26 rfl rfl (by kernel_rfl)) rfl) ?_
    refine .on rfl (fun a w hS hI hp => does_val (x_load1 (d := .int .i64) rfl (hp.V 0 rfl rfl) (by kernel_rfl) rfl ((blk_cell (((hI.2.1).block g4 (blk_lt hbxg4)).trans hbxg4) 0).trans rfl)) rfl) ?_
    exact .nil
  clear hS
  intro at10 w11 hS hI hp
  have hBw11_w := hI.1
  have hBw11_w3 := hI.2.1
  have hBw11_w7 := hI.2.2
  have hv8 : sl _ 8 = .int .i64 a0_0 := hp 1 (by decide)
  have hBw11_w11 := Below.refl w11.heap.size w11
  have hS := hS.cons hv8
  clear hp hI hv8
  refine hK9 _ _ ?_
  (try clear hK9 K9)
  refine wp_block ?_
  refine wp_seq_k (fun K12 hK12 => ?_)
  refine reg_seq (N := 50) (bs := [(8, .int .i64 a0_0), (3, .int .i64 (a0_1.size : Int)), (1, .pointer (some ⟨g4, 0, none⟩))]) (I := fun x => Below w.heap.size w x ∧ Below w3.heap.size w3 x ∧ Below w11.heap.size w11 x) (ps := [VB (decide (a0_0 = 1)), VB (decide (a0_0 = 1))]) (by kernel_rfl) ?_ ?_ rfl hS ⟨hBw11_w, hBw11_w3, hBw11_w11⟩ ?_ ?_
  · exact fun x y hI hb => ⟨below_step hI.1 hb, below_step hI.2.1 hb, below_step hI.2.2 hb⟩
  · exact .v (.v (.nil))
  · refine .on rfl (fun a w hS hI hp => does_val (x_bin rfl (hS.get 0 rfl) (rfl) (b_eql _ _ _ _ _ _)) rfl) ?_
    refine .asg 0 rfl rfl rfl rfl ?_
    exact .nil
  clear hS
  intro at13 w14 hS hI hp
  have hBw14_w := hI.1
  have hBw14_w3 := hI.2.1
  have hBw14_w11 := hI.2.2
  have hv9 : sl _ 9 = .bool (decide (a0_0 = 1)) := hp 1 (by decide)
  have hBw14_w14 := Below.refl w14.heap.size w14
  have hS := hS.cons hv9
  clear hp hI hv9
  refine hK12 _ _ ?_
  (try clear hK12 K12)
  refine wp_cond_false ((hS.get 0 rfl).trans (bF (decide_eq_false c1))) ?_
  refine wp_seq_k (fun K15 hK15 => ?_)
  refine reg_seq (N := 50) (bs := [(9, .bool (decide (a0_0 = 1))), (8, .int .i64 a0_0), (3, .int .i64 (a0_1.size : Int)), (1, .pointer (some ⟨g4, 0, none⟩))]) (I := fun x => Below w.heap.size w x ∧ Below w3.heap.size w3 x ∧ Below w14.heap.size w14 x) (ps := [VB (decide (a0_0 = 2)), VB (decide (a0_0 = 2))]) (by kernel_rfl) ?_ ?_ rfl hS ⟨hBw14_w, hBw14_w3, hBw14_w14⟩ ?_ ?_
  · exact fun x y hI hb => ⟨below_step hI.1 hb, below_step hI.2.1 hb, below_step hI.2.2 hb⟩
  · exact .v (.v (.nil))
  · refine .on rfl (fun a w hS hI hp => does_val (x_bin rfl (hS.get 1 rfl) (rfl) (b_eql _ _ _ _ _ _)) rfl) ?_
    refine .asg 0 rfl rfl rfl rfl ?_
    exact .nil
  clear hS
  intro at16 w17 hS hI hp
  have hBw17_w := hI.1
  have hBw17_w3 := hI.2.1
  have hBw17_w14 := hI.2.2
  replace hS := (((hS.nil).cons (hS.get 3 rfl)).cons (hS.get 2 rfl)).cons (hS.get 1 rfl)
  have hv13 : sl _ 13 = .bool (decide (a0_0 = 2)) := hp 1 (by decide)
  have hBw17_w17 := Below.refl w17.heap.size w17
  have hS := hS.cons hv13
  clear hp hI hv13
  refine hK15 _ _ ?_
  (try clear hK15 K15)
  refine wp_cond_false ((hS.get 0 rfl).trans (bF (decide_eq_false c2))) ?_
  refine wp_seq_k (fun K18 hK18 => ?_)
  refine reg_seq (N := 50) (bs := [(13, .bool (decide (a0_0 = 2))), (8, .int .i64 a0_0), (3, .int .i64 (a0_1.size : Int)), (1, .pointer (some ⟨g4, 0, none⟩))]) (I := fun x => Below w.heap.size w x ∧ Below w3.heap.size w3 x ∧ Below w17.heap.size w17 x) (ps := [VB (decide (a0_0 = 3)), VB (decide (a0_0 = 3))]) (by kernel_rfl) ?_ ?_ rfl hS ⟨hBw17_w, hBw17_w3, hBw17_w17⟩ ?_ ?_
  · exact fun x y hI hb => ⟨below_step hI.1 hb, below_step hI.2.1 hb, below_step hI.2.2 hb⟩
  · exact .v (.v (.nil))
  · refine .on rfl (fun a w hS hI hp => does_val (x_bin rfl (hS.get 1 rfl) (rfl) (b_eql _ _ _ _ _ _)) rfl) ?_
    refine .asg 0 rfl rfl rfl rfl ?_
    exact .nil
  clear hS
  intro at19 w20 hS hI hp
  have hBw20_w := hI.1
  have hBw20_w3 := hI.2.1
  have hBw20_w17 := hI.2.2
  replace hS := (((hS.nil).cons (hS.get 3 rfl)).cons (hS.get 2 rfl)).cons (hS.get 1 rfl)
  have hv17 : sl _ 17 = .bool (decide (a0_0 = 3)) := hp 1 (by decide)
  have hBw20_w20 := Below.refl w20.heap.size w20
  have hS := hS.cons hv17
  clear hp hI hv17
  refine hK18 _ _ ?_
  (try clear hK18 K18)
  refine wp_cond_false ((hS.get 0 rfl).trans (bF (decide_eq_false c3))) ?_
  refine wp_seq_k (fun K21 hK21 => ?_)
  refine reg_seq (N := 50) (bs := [(17, .bool (decide (a0_0 = 3))), (8, .int .i64 a0_0), (3, .int .i64 (a0_1.size : Int)), (1, .pointer (some ⟨g4, 0, none⟩))]) (I := fun x => Below w.heap.size w x ∧ Below w3.heap.size w3 x ∧ Below w20.heap.size w20 x) (ps := [VB (decide (a0_0 = 4)), VB (decide (a0_0 = 4))]) (by kernel_rfl) ?_ ?_ rfl hS ⟨hBw20_w, hBw20_w3, hBw20_w20⟩ ?_ ?_
  · exact fun x y hI hb => ⟨below_step hI.1 hb, below_step hI.2.1 hb, below_step hI.2.2 hb⟩
  · exact .v (.v (.nil))
  · refine .on rfl (fun a w hS hI hp => does_val (x_bin rfl (hS.get 1 rfl) (rfl) (b_eql _ _ _ _ _ _)) rfl) ?_
    refine .asg 0 rfl rfl rfl rfl ?_
    exact .nil
  clear hS
  intro at22 w23 hS hI hp
  have hBw23_w := hI.1
  have hBw23_w3 := hI.2.1
  have hBw23_w20 := hI.2.2
  replace hS := (((hS.nil).cons (hS.get 3 rfl)).cons (hS.get 2 rfl)).cons (hS.get 1 rfl)
  have hv21 : sl _ 21 = .bool (decide (a0_0 = 4)) := hp 1 (by decide)
  have hBw23_w23 := Below.refl w23.heap.size w23
  have hS := hS.cons hv21
  clear hp hI hv21
  refine hK21 _ _ ?_
  (try clear hK21 K21)
  refine wp_cond_false ((hS.get 0 rfl).trans (bF (decide_eq_false c4))) ?_
  refine wp_seq_k (fun K24 hK24 => ?_)
  refine reg_seq (N := 50) (bs := [(21, .bool (decide (a0_0 = 4))), (8, .int .i64 a0_0), (3, .int .i64 (a0_1.size : Int)), (1, .pointer (some ⟨g4, 0, none⟩))]) (I := fun x => Below w.heap.size w x ∧ Below w3.heap.size w3 x ∧ Below w23.heap.size w23 x) (ps := [VB (decide (a0_0 = 5)), VB (decide (a0_0 = 5))]) (by kernel_rfl) ?_ ?_ rfl hS ⟨hBw23_w, hBw23_w3, hBw23_w23⟩ ?_ ?_
  · exact fun x y hI hb => ⟨below_step hI.1 hb, below_step hI.2.1 hb, below_step hI.2.2 hb⟩
  · exact .v (.v (.nil))
  · refine .on rfl (fun a w hS hI hp => does_val (x_bin rfl (hS.get 1 rfl) (rfl) (b_eql _ _ _ _ _ _)) rfl) ?_
    refine .asg 0 rfl rfl rfl rfl ?_
    exact .nil
  clear hS
  intro at25 w26 hS hI hp
  have hBw26_w := hI.1
  have hBw26_w3 := hI.2.1
  have hBw26_w23 := hI.2.2
  replace hS := (((hS.nil).cons (hS.get 3 rfl)).cons (hS.get 2 rfl)).cons (hS.get 1 rfl)
  have hv25 : sl _ 25 = .bool (decide (a0_0 = 5)) := hp 1 (by decide)
  have hBw26_w26 := Below.refl w26.heap.size w26
  have hS := hS.cons hv25
  clear hp hI hv25
  refine hK24 _ _ ?_
  (try clear hK24 K24)
  refine wp_cond_false ((hS.get 0 rfl).trans (bF (decide_eq_false c5))) ?_
  refine wp_seq_k (fun K27 hK27 => ?_)
  refine wp_mono (Q := fun e a' w' => e = Exit.normal ∧ St 50 [(1, .pointer (some ⟨g4, 0, none⟩)), (3, .int .i64 (a0_1.size : Int)), (8, .int .i64 a0_0), (29, .bool (if a0_0 = 6 then decide (a0_0 = 6) else decide (a0_0 = 7)))] a' ∧ Below w.heap.size w w' ∧ Below w3.heap.size w3 w' ∧ Below w26.heap.size w26 w') ?_ ?_
  · by_cases d28_0 : a0_0 = 6
    · refine wp_seq_k (fun K32 hK32 => ?_)
      refine reg_seq (N := 50) (bs := [(25, .bool (decide (a0_0 = 5))), (8, .int .i64 a0_0), (3, .int .i64 (a0_1.size : Int)), (1, .pointer (some ⟨g4, 0, none⟩))]) (I := fun x => Below w.heap.size w x ∧ Below w3.heap.size w3 x ∧ Below w26.heap.size w26 x) (ps := [VB (decide (a0_0 = 6)), VB (decide (a0_0 = 6))]) (by kernel_rfl) ?_ ?_ rfl hS ⟨hBw26_w, hBw26_w3, hBw26_w26⟩ ?_ ?_
      · exact fun x y hI hb => ⟨below_step hI.1 hb, below_step hI.2.1 hb, below_step hI.2.2 hb⟩
      · exact .v (.v (.nil))
      · refine .on rfl (fun a w hS hI hp => does_val (x_bin rfl (hS.get 1 rfl) (rfl) (b_eql _ _ _ _ _ _)) rfl) ?_
        refine .asg 0 rfl rfl rfl rfl ?_
        exact .nil
      clear hS
      intro at33 w34 hS hI hp
      have hBw34_w := hI.1
      have hBw34_w3 := hI.2.1
      have hBw34_w26 := hI.2.2
      replace hS := (((hS.nil).cons (hS.get 3 rfl)).cons (hS.get 2 rfl)).cons (hS.get 1 rfl)
      have hv29 : sl _ 29 = .bool (decide (a0_0 = 6)) := hp 1 (by decide)
      have hBw34_w34 := Below.refl w34.heap.size w34
      have hS := hS.cons hv29
      clear hp hI hv29
      refine hK32 _ _ ?_
      (try clear hK32 K32)
      refine wp_cond_true ((hS.get 0 rfl).trans (bT (decide_eq_true d28_0))) ?_
      refine wp_skip ?_
      (try simp only [Exit.then, Exit.inBlock, reduceIte])
      exact ⟨by trivial, ((((hS.nil).cons ((hS.get 0 rfl).trans (congrArg (Value.bool) (by simp only [if_pos d28_0])))).cons (hS.get 1 rfl)).cons (hS.get 2 rfl)).cons (hS.get 3 rfl), hBw34_w, hBw34_w3, hBw34_w26⟩
    · refine wp_seq_k (fun K35 hK35 => ?_)
      refine reg_seq (N := 50) (bs := [(25, .bool (decide (a0_0 = 5))), (8, .int .i64 a0_0), (3, .int .i64 (a0_1.size : Int)), (1, .pointer (some ⟨g4, 0, none⟩))]) (I := fun x => Below w.heap.size w x ∧ Below w3.heap.size w3 x ∧ Below w26.heap.size w26 x) (ps := [VB (decide (a0_0 = 6)), VB (decide (a0_0 = 6))]) (by kernel_rfl) ?_ ?_ rfl hS ⟨hBw26_w, hBw26_w3, hBw26_w26⟩ ?_ ?_
      · exact fun x y hI hb => ⟨below_step hI.1 hb, below_step hI.2.1 hb, below_step hI.2.2 hb⟩
      · exact .v (.v (.nil))
      · refine .on rfl (fun a w hS hI hp => does_val (x_bin rfl (hS.get 1 rfl) (rfl) (b_eql _ _ _ _ _ _)) rfl) ?_
        refine .asg 0 rfl rfl rfl rfl ?_
        exact .nil
      clear hS
      intro at36 w37 hS hI hp
      have hBw37_w := hI.1
      have hBw37_w3 := hI.2.1
      have hBw37_w26 := hI.2.2
      replace hS := (((hS.nil).cons (hS.get 3 rfl)).cons (hS.get 2 rfl)).cons (hS.get 1 rfl)
      have hv29 : sl _ 29 = .bool (decide (a0_0 = 6)) := hp 1 (by decide)
      have hBw37_w37 := Below.refl w37.heap.size w37
      have hS := hS.cons hv29
      clear hp hI hv29
      refine hK35 _ _ ?_
      (try clear hK35 K35)
      refine wp_cond_false ((hS.get 0 rfl).trans (bF (decide_eq_false d28_0))) ?_
      replace hS := (((hS.nil).cons (hS.get 3 rfl)).cons (hS.get 2 rfl)).cons (hS.get 1 rfl)
      refine reg_seq (N := 50) (bs := [(8, .int .i64 a0_0), (3, .int .i64 (a0_1.size : Int)), (1, .pointer (some ⟨g4, 0, none⟩))]) (I := fun x => Below w.heap.size w x ∧ Below w3.heap.size w3 x ∧ Below w26.heap.size w26 x ∧ Below w37.heap.size w37 x) (ps := [VB (decide (a0_0 = 7)), VB (decide (a0_0 = 7))]) (by kernel_rfl) ?_ ?_ rfl hS ⟨hBw37_w, hBw37_w3, hBw37_w26, hBw37_w37⟩ ?_ ?_
      · exact fun x y hI hb => ⟨below_step hI.1 hb, below_step hI.2.1 hb, below_step hI.2.2.1 hb, below_step hI.2.2.2 hb⟩
      · exact .v (.v (.nil))
      · refine .on rfl (fun a w hS hI hp => does_val (x_bin rfl (hS.get 0 rfl) (rfl) (b_eql _ _ _ _ _ _)) rfl) ?_
        refine .asg 0 rfl rfl rfl rfl ?_
        exact .nil
      clear hS
      intro at38 w39 hS hI hp
      have hBw39_w := hI.1
      have hBw39_w3 := hI.2.1
      have hBw39_w26 := hI.2.2.1
      have hBw39_w37 := hI.2.2.2
      have hv29 : sl _ 29 = .bool (decide (a0_0 = 7)) := hp 1 (by decide)
      have hBw39_w39 := Below.refl w39.heap.size w39
      have hS := hS.cons hv29
      clear hp hI hv29
      (try simp only [Exit.then, Exit.inBlock, reduceIte])
      exact ⟨by trivial, ((((hS.nil).cons ((hS.get 0 rfl).trans (congrArg (Value.bool) (by simp only [if_neg d28_0])))).cons (hS.get 1 rfl)).cons (hS.get 2 rfl)).cons (hS.get 3 rfl), hBw39_w, hBw39_w3, hBw39_w26⟩
  rintro e41 at41 w40 ⟨rfl, hS, hBw40_w, hBw40_w3, hBw40_w26⟩
  have hBw40_w40 := Below.refl w40.heap.size w40
  (try simp only [Exit.then, Exit.inBlock, reduceIte])
  refine hK27 _ _ ?_
  (try clear hK27 K27)
  refine wp_cond_false ((hS.get 3 rfl).trans (bF (Bool.eq_false_iff.2 c6))) ?_
  refine wp_seq_k (fun K42 hK42 => ?_)
  refine reg_seq (N := 50) (bs := [(1, .pointer (some ⟨g4, 0, none⟩)), (3, .int .i64 (a0_1.size : Int)), (8, .int .i64 a0_0), (29, .bool (if a0_0 = 6 then decide (a0_0 = 6) else decide (a0_0 = 7)))]) (I := fun x => Below w.heap.size w x ∧ Below w3.heap.size w3 x ∧ Below w40.heap.size w40 x) (ps := [VB (decide (a0_0 = 8)), VB (decide (a0_0 = 8))]) (by kernel_rfl) ?_ ?_ rfl hS ⟨hBw40_w, hBw40_w3, hBw40_w40⟩ ?_ ?_
  · exact fun x y hI hb => ⟨below_step hI.1 hb, below_step hI.2.1 hb, below_step hI.2.2 hb⟩
  · exact .v (.v (.nil))
  · refine .on rfl (fun a w hS hI hp => does_val (x_bin rfl (hS.get 2 rfl) (rfl) (b_eql _ _ _ _ _ _)) rfl) ?_
    refine .asg 0 rfl rfl rfl rfl ?_
    exact .nil
  clear hS
  intro at43 w44 hS hI hp
  have hBw44_w := hI.1
  have hBw44_w3 := hI.2.1
  have hBw44_w40 := hI.2.2
  replace hS := (((hS.nil).cons (hS.get 2 rfl)).cons (hS.get 1 rfl)).cons (hS.get 0 rfl)
  have hv34 : sl _ 34 = .bool (decide (a0_0 = 8)) := hp 1 (by decide)
  have hBw44_w44 := Below.refl w44.heap.size w44
  have hS := hS.cons hv34
  clear hp hI hv34
  refine hK42 _ _ ?_
  (try clear hK42 K42)
  refine wp_cond_false ((hS.get 0 rfl).trans (bF (decide_eq_false c7))) ?_
  refine wp_seq_k (fun K45 hK45 => ?_)
  refine reg_seq (N := 50) (bs := [(34, .bool (decide (a0_0 = 8))), (1, .pointer (some ⟨g4, 0, none⟩)), (3, .int .i64 (a0_1.size : Int)), (8, .int .i64 a0_0)]) (I := fun x => Below w.heap.size w x ∧ Below w3.heap.size w3 x ∧ Below w44.heap.size w44 x) (ps := [VB (decide (a0_0 = 9)), VB (decide (a0_0 = 9))]) (by kernel_rfl) ?_ ?_ rfl hS ⟨hBw44_w, hBw44_w3, hBw44_w44⟩ ?_ ?_
  · exact fun x y hI hb => ⟨below_step hI.1 hb, below_step hI.2.1 hb, below_step hI.2.2 hb⟩
  · exact .v (.v (.nil))
  · refine .on rfl (fun a w hS hI hp => does_val (x_bin rfl (hS.get 3 rfl) (rfl) (b_eql _ _ _ _ _ _)) rfl) ?_
    refine .asg 0 rfl rfl rfl rfl ?_
    exact .nil
  clear hS
  intro at46 w47 hS hI hp
  have hBw47_w := hI.1
  have hBw47_w3 := hI.2.1
  have hBw47_w44 := hI.2.2
  replace hS := ((hS.nil).cons (hS.get 2 rfl)).cons (hS.get 1 rfl)
  have hv43 : sl _ 43 = .bool (decide (a0_0 = 9)) := hp 1 (by decide)
  have hBw47_w47 := Below.refl w47.heap.size w47
  have hS := hS.cons hv43
  clear hp hI hv43
  refine hK45 _ _ ?_
  (try clear hK45 K45)
  refine wp_cond_false ((hS.get 0 rfl).trans (bF (decide_eq_false c8))) ?_
  refine wp_skip ?_
  refine hK8 _ _ ?_
  (try clear hK8 K8)
  refine wp_seq_k (fun K48 hK48 => ?_)
  refine reg_seq (N := 50) (bs := [(43, .bool (decide (a0_0 = 9))), (1, .pointer (some ⟨g4, 0, none⟩)), (3, .int .i64 (a0_1.size : Int))]) (I := fun x => Below w.heap.size w x ∧ Below w3.heap.size w3 x ∧ Below w47.heap.size w47 x) (ps := [VP g4 0, VI a0_0, VB (decide (a0_0 = 32776)), VB (decide (a0_0 = 32776))]) (by kernel_rfl) ?_ ?_ rfl hS ⟨hBw47_w, hBw47_w3, hBw47_w47⟩ ?_ ?_
  · exact fun x y hI hb => ⟨below_step hI.1 hb, below_step hI.2.1 hb, below_step hI.2.2 hb⟩
  · exact .v (.v (.v (.v (.nil))))
  · refine .on rfl (fun a w hS hI hp => does_val (x_fieldE (b := 0) rfl (hS.get 1 rfl) Try.underlying26 rfl rfl (by kernel_rfl)) rfl) ?_
    refine .on rfl (fun a w hS hI hp => does_val (x_load1 (d := .int .i64) rfl (hp.V 0 rfl rfl) (by kernel_rfl) rfl ((blk_cell (((hI.2.1).block g4 (blk_lt hbxg4)).trans hbxg4) 0).trans rfl)) rfl) ?_
    refine .on rfl (fun a w hS hI hp => does_val (x_bin rfl (hp.V 1 rfl rfl) (rfl) (b_eql _ _ _ _ _ _)) rfl) ?_
    refine .asg 2 rfl rfl rfl rfl ?_
    exact .nil
  clear hS
  intro at49 w50 hS hI hp
  have hBw50_w := hI.1
  have hBw50_w3 := hI.2.1
  have hBw50_w47 := hI.2.2
  replace hS := hS.nil
  have hv2 : sl _ 2 = .bool (decide (a0_0 = 32776)) := hp 3 (by decide)
  have hBw50_w50 := Below.refl w50.heap.size w50
  have hS := hS.cons hv2
  clear hp hI hv2
  refine hK48 _ _ ?_
  (try clear hK48 K48)
  refine wp_ret ?_
  (try simp only [Exit.then, Exit.inBlock, Exit.jump, Exit.noGoto])
  exact bodyPost_ret (v := .bool (decide (a0_0 = 32776))) (results_single rfl (Vals.at (hS.get 0 rfl) .nil)) hS.nodef ⟨rfl, hBw50_w⟩
end Go.Proofs.Ytgmiokocipmbaaa.P
