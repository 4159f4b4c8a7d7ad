/- Functions and loops of the given program as Lean functions, and that the code comes to what they say: written by this session's own program; Lean checks it. -/
import Derived.Test.YtgmiokocipmbaaaZzPx0
import Derived.Test.YtgmiokocipmbaaaZzPx4
import Derived.Test.YtgmiokocipmbaaaZzPx6
import Derived.Test.YtgmiokocipmbaaaZzPx10
namespace Go.Proofs.Ytgmiokocipmbaaa.P
open Go.RowKit Go.Proofs.YtgmiokocipmbaaaW.PrintWords Go.Proofs.YtgmiokocipmbaaaW.PrintLast Go.Proofs.YtgmiokocipmbaaaW.PrintMore
attribute [local go_sem] max2_int min2_int max_two min_two max_three min_three max_four min_four   -- for this text's walks alone
set_option linter.unusedVariables false
set_option linter.unusedSimpArgs false
/-! ### tlv_PathOf: function 33: by our own printer -/
def tlv_PathOf.l1 (k : Nat) : Nat → Int → ByteArray → (List Int) → Int → Option (List Int × Bool)
  | 0, _, _, _, _ => none
  | n1 + 1, x1_1_0, x1_1_1, y1_4, x1_5 => if x1_5 < (x1_1_1.size : Int) then (if x1_1_1.size ≤ 9223372036854775807 then ((octets_GetId.f k (bytesOf x1_1_1) x1_5).bind fun t1007 => (if (y1_4.length + [t1007.1].length) * 8 ≤ 140737488355328 then (tlv_PathOf.l1 k n1 x1_1_0 x1_1_1 (y1_4 ++ [t1007.1] : List Int) (wrap64 (x1_5 + 8))) else (none))) else (none)) else (some (y1_4, true))
def tlv_PathOf.f (k : Nat) (a0_0 : Int) (a0_1 : ByteArray) : Option (List Int × Bool) := if a0_0 = 8 then ((tlv_Known.f a0_0 a0_1).bind fun t7 => (if t7 = true then (tlv_PathOf.l1 k k a0_0 a0_1 [] 0) else (some ([], false)))) else (some ([], false))
open Go.Proofs.Ytgmiokocipmbaaa.E in
set_option maxHeartbeats 60000000 in
set_option maxRecDepth 100000 in
theorem tlv_PathOf.calls (k : Nat) (a0_0 : Int) (a0_1 : ByteArray) (r1 : List Int) (r2 : Bool) (w : World) (h : tlv_PathOf.f k a0_0 a0_1 = some (r1, r2)) :
    Calls Try.prog 33 #[.agg #[.int .i64 a0_0, .string a0_1]] w fun e w' => ∃ v0_ : Value, e = .returned (.tuple #[v0_, .bool r2]) ∧ Kd.R (Kd.int .u64) 58 w' w.heap.size (fun _ => True) v0_ r1 ∧ Below w.heap.size w w' := by
  have H := h
  clear h
  unfold tlv_PathOf.f at H
  by_cases c1 : a0_0 = 8
  rotate_left
  · rw [if_neg c1] at H
    simp only [Option.some.injEq, Prod.mk.injEq] at H
    obtain ⟨rfl, rfl⟩ := H
    refine calls_of_wp (fn := Try.f33) (by kernel_rfl) rfl ?_
    have hS := St.enter #[.agg #[.int .i64 a0_0, .string a0_1]] 36 (by simp) [(0, .agg #[.int .i64 a0_0, .string a0_1])] (by simp)
    have HB0 := Below.refl w.heap.size w
    refine wp_seq_k (fun K1 hK1 => ?_)
    refine reg_seq (N := 36) (bs := [(0, .agg #[.int .i64 a0_0, .string a0_1])]) (I := fun x => Below w.heap.size w x) (ps := [IsB #[.int .i64 a0_0, .string a0_1] 26 w.heap.size, IsV (.slice none 0 0), VB false]) (by kernel_rfl) ?_ ?_ rfl hS HB0 ?_ ?_
    · exact fun x y hI hb => below_step hI hb
    · exact .cons (Stays.b _ _ _) (.v (.v (.nil)))
    · refine .on rfl (fun a w hS hI hp => does_var (x_box rfl (congrArg Value.cells (hS.get 0 rfl))) (hI).size) ?_
      iterate 2 refine .on rfl (fun a w hS hI hp => does_val (x_assign rfl (rfl)) rfl) ?_
      exact .nil
    clear hS
    intro at2 w3 hS hI hp
    have hBw3_w := hI
    replace hS := hS.nil
    obtain ⟨g4, hv1, hgeg4, hbxg4⟩ := (show IsB _ 26 _ (sl _ 1) _ from hp 0 (by decide))
    have hBw3_w3 := Below.refl w3.heap.size w3
    have hS := hS.cons hv1
    clear hp hI hv1
    refine hK1 _ _ ?_
    (try clear hK1 K1)
    refine wp_seq_k (fun K5 hK5 => ?_)
    refine wp_seq_k (fun K6 hK6 => ?_)
    refine reg_seq (N := 36) (bs := [(1, .pointer (some ⟨g4, 0, none⟩))]) (I := fun x => Below w.heap.size w x ∧ Below w3.heap.size w3 x) (ps := [VP g4 0, VI a0_0, VB (!decide (a0_0 = 8)), VB (!decide (a0_0 = 8)), VU, VU, VU, VB true]) (by kernel_rfl) ?_ ?_ rfl hS ⟨hBw3_w, hBw3_w3⟩ ?_ ?_
    · exact fun x y hI hb => ⟨below_step hI.1 hb, below_step hI.2 hb⟩
    · exact .v (.v (.v (.v (.v (.v (.v (.v (.nil))))))))
    · refine .on rfl (fun a w hS hI hp => does_val (x_fieldE (b := 0) rfl (hS.get 0 rfl) Try.underlying26 rfl rfl (by kernel_rfl)) rfl) ?_
      refine .on rfl (fun a w hS hI hp => does_val (x_load1 (d := .int .i64) rfl (hp.V 0 rfl rfl) (by kernel_rfl) rfl ((blk_cell (((hI.2).block g4 (blk_lt hbxg4)).trans hbxg4) 0).trans rfl)) rfl) ?_
      refine .on rfl (fun a w hS hI hp => does_val (x_bin rfl (hp.V 1 rfl rfl) (rfl) (b_neq _ _ _ _ _ _)) rfl) ?_
      refine .mv 2 rfl rfl rfl rfl ?_
      iterate 3 refine .sn 3 11 rfl rfl rfl rfl rfl ((congrArg (!·) (decide_eq_false c1))) ?_
      refine .on rfl (fun a w hS hI hp => does_val (x_pickT rfl ((hp.V 3 rfl rfl).trans (bT (congrArg (!·) (decide_eq_false c1)))) (rfl)) rfl) ?_
      exact .nil
    clear hS
    intro at7 w8 hS hI hp
    have hBw8_w := hI.1
    have hBw8_w3 := hI.2
    have hv15 : sl _ 15 = .bool true := hp 7 (by decide)
    have hBw8_w8 := Below.refl w8.heap.size w8
    have hS := hS.cons hv15
    clear hp hI hv15
    refine hK6 _ _ ?_
    (try clear hK6 K6)
    refine wp_cond_true ((hS.get 0 rfl).trans (bT rfl)) ?_
    refine wp_seq_k (fun K9 hK9 => ?_)
    refine reg_seq (N := 36) (bs := [(15, .bool true), (1, .pointer (some ⟨g4, 0, none⟩))]) (I := fun x => Below w.heap.size w x ∧ Below w3.heap.size w3 x ∧ Below w8.heap.size w8 x) (ps := [IsV (.slice none 0 0), VB false]) (by kernel_rfl) ?_ ?_ rfl hS ⟨hBw8_w, hBw8_w3, hBw8_w8⟩ ?_ ?_
    · exact fun x y hI hb => ⟨below_step hI.1 hb, below_step hI.2.1 hb, below_step hI.2.2 hb⟩
    · exact .v (.v (.nil))
    · refine .on rfl (fun a w hS hI hp => does_val (x_assign rfl (rfl)) rfl) ?_
      refine .on rfl (fun a w hS hI hp => does_val (x_assign rfl (rfl)) rfl) ?_
      exact .nil
    clear hS
    intro at10 w11 hS hI hp
    have hBw11_w := hI.1
    have hBw11_w3 := hI.2.1
    have hBw11_w8 := hI.2.2
    replace hS := hS.nil
    have hv2 : sl _ 2 = .slice none 0 0 := hp 0 (by decide)
    have hv3 : sl _ 3 = .bool false := hp 1 (by decide)
    have hBw11_w11 := Below.refl w11.heap.size w11
    have hS := hS.cons hv2
    have hS := hS.cons hv3
    clear hp hI hv2 hv3
    refine hK9 _ _ ?_
    (try clear hK9 K9)
    refine wp_ret ?_
    (try simp only [Exit.then, Exit.inBlock, Exit.jump, Exit.noGoto])
    exact bodyPost_ret (v := .tuple #[.slice none 0 0, .bool false]) (results_list (rs := [.tmp 2, .tmp 3]) rfl (by simp) (Vals.at (hS.get 1 rfl) (Vals.at (hS.get 0 rfl) .nil))) hS.nodef ⟨.slice none 0 0, rfl, Kd.R_nil _ _ _ _ _, hBw11_w⟩
  rw [if_pos c1] at H
  obtain ⟨t7, At7, H⟩ := Option.bind_eq_some_iff.mp H
  by_cases c2 : t7 = true
  rotate_left
  · rw [if_neg c2] at H
    simp only [Option.some.injEq, Prod.mk.injEq] at H
    obtain ⟨rfl, rfl⟩ := H
    refine calls_of_wp (fn := Try.f33) (by kernel_rfl) rfl ?_
    have hS := St.enter #[.agg #[.int .i64 a0_0, .string a0_1]] 36 (by simp) [(0, .agg #[.int .i64 a0_0, .string a0_1])] (by simp)
    have HB0 := Below.refl w.heap.size w
    refine wp_seq_k (fun K1 hK1 => ?_)
    refine reg_seq (N := 36) (bs := [(0, .agg #[.int .i64 a0_0, .string a0_1])]) (I := fun x => Below w.heap.size w x) (ps := [IsB #[.int .i64 a0_0, .string a0_1] 26 w.heap.size, IsV (.slice none 0 0), VB false]) (by kernel_rfl) ?_ ?_ rfl hS HB0 ?_ ?_
    · exact fun x y hI hb => below_step hI hb
    · exact .cons (Stays.b _ _ _) (.v (.v (.nil)))
    · refine .on rfl (fun a w hS hI hp => does_var (x_box rfl (congrArg Value.cells (hS.get 0 rfl))) (hI).size) ?_
      iterate 2 refine .on rfl (fun a w hS hI hp => does_val (x_assign rfl (rfl)) rfl) ?_
      exact .nil
    clear hS
    intro at2 w3 hS hI hp
    have hBw3_w := hI
    replace hS := hS.nil
    obtain ⟨g4, hv1, hgeg4, hbxg4⟩ := (show IsB _ 26 _ (sl _ 1) _ from hp 0 (by decide))
    have hBw3_w3 := Below.refl w3.heap.size w3
    have hS := hS.cons hv1
    clear hp hI hv1
    refine hK1 _ _ ?_
    (try clear hK1 K1)
    refine wp_seq_k (fun K5 hK5 => ?_)
    refine wp_seq_k (fun K6 hK6 => ?_)
    refine reg_seq (N := 36) (bs := [(1, .pointer (some ⟨g4, 0, none⟩))]) (I := fun x => Below w.heap.size w x ∧ Below w3.heap.size w3 x) (ps := [VP g4 0, VI a0_0, VB (!decide (a0_0 = 8)), VB (!decide (a0_0 = 8)), IsV (.agg #[.int .i64 a0_0, .string a0_1]), VB t7, VB (!t7), VB (!t7)]) (by kernel_rfl) ?_ ?_ rfl hS ⟨hBw3_w, hBw3_w3⟩ ?_ ?_
    · exact fun x y hI hb => ⟨below_step hI.1 hb, below_step hI.2 hb⟩
    · exact .v (.v (.v (.v (.v (.v (.v (.v (.nil))))))))
    · refine .on rfl (fun a w hS hI hp => does_val (x_fieldE (b := 0) rfl (hS.get 0 rfl) Try.underlying26 rfl rfl (by kernel_rfl)) rfl) ?_
      refine .on rfl (fun a w hS hI hp => does_val (x_load1 (d := .int .i64) rfl (hp.V 0 rfl rfl) (by kernel_rfl) rfl ((blk_cell (((hI.2).block g4 (blk_lt hbxg4)).trans hbxg4) 0).trans rfl)) rfl) ?_
      refine .on rfl (fun a w hS hI hp => does_val (x_bin rfl (hp.V 1 rfl rfl) (rfl) (b_neq _ _ _ _ _ _)) rfl) ?_
      refine .mv 2 rfl rfl rfl rfl ?_
      refine .oy 3 11 rfl rfl rfl rfl rfl ((congrArg (!·) (decide_eq_true c1))) (fun a w hS hI hp => does_loadrow rfl (hS.get 0 rfl) (((hI.2).block g4 (blk_lt hbxg4)).trans hbxg4) Try.underlying26 rfl (by kernel_rfl) rfl) ?_
      refine .oy 3 11 rfl rfl rfl rfl rfl ((congrArg (!·) (decide_eq_true c1))) (fun a w hS hI hp => does_call (by kernel_rfl) (ar1 (hp.V 4 rfl rfl)) ((tlv_Known.calls a0_0 a0_1 t7 _  At7).mono fun _ _ h => ⟨_, h.1, h.2, rfl⟩)) ?_
      refine .oy 3 11 rfl rfl rfl rfl rfl ((congrArg (!·) (decide_eq_true c1))) (fun a w hS hI hp => does_val (x_not rfl (hp.V 5 rfl rfl)) rfl) ?_
      refine .on rfl (fun a w hS hI hp => does_val (x_pickF rfl ((hp.V 3 rfl rfl).trans (bF (congrArg (!·) (decide_eq_true c1)))) (hp.V 6 rfl rfl)) rfl) ?_
      exact .nil
    clear hS
    intro at8 w9 hS hI hp
    have hBw9_w := hI.1
    have hBw9_w3 := hI.2
    have hv15 : sl _ 15 = .bool (!t7) := hp 7 (by decide)
    have hBw9_w9 := Below.refl w9.heap.size w9
    have hS := hS.cons hv15
    clear hp hI hv15
    refine hK6 _ _ ?_
    (try clear hK6 K6)
    refine wp_cond_true ((hS.get 0 rfl).trans (bT (congrArg (!·) (Bool.eq_false_iff.2 c2)))) ?_
    refine wp_seq_k (fun K10 hK10 => ?_)
    refine reg_seq (N := 36) (bs := [(15, .bool (!t7)), (1, .pointer (some ⟨g4, 0, none⟩))]) (I := fun x => Below w.heap.size w x ∧ Below w3.heap.size w3 x ∧ Below w9.heap.size w9 x) (ps := [IsV (.slice none 0 0), VB false]) (by kernel_rfl) ?_ ?_ rfl hS ⟨hBw9_w, hBw9_w3, hBw9_w9⟩ ?_ ?_
    · exact fun x y hI hb => ⟨below_step hI.1 hb, below_step hI.2.1 hb, below_step hI.2.2 hb⟩
    · exact .v (.v (.nil))
    · refine .on rfl (fun a w hS hI hp => does_val (x_assign rfl (rfl)) rfl) ?_
      refine .on rfl (fun a w hS hI hp => does_val (x_assign rfl (rfl)) rfl) ?_
      exact .nil
    clear hS
    intro at11 w12 hS hI hp
    have hBw12_w := hI.1
    have hBw12_w3 := hI.2.1
    have hBw12_w9 := hI.2.2
    replace hS := hS.nil
    have hv2 : sl _ 2 = .slice none 0 0 := hp 0 (by decide)
    have hv3 : sl _ 3 = .bool false := hp 1 (by decide)
    have hBw12_w12 := Below.refl w12.heap.size w12
    have hS := hS.cons hv2
    have hS := hS.cons hv3
    clear hp hI hv2 hv3
    refine hK10 _ _ ?_
    (try clear hK10 K10)
    refine wp_ret ?_
    (try simp only [Exit.then, Exit.inBlock, Exit.jump, Exit.noGoto])
    exact bodyPost_ret (v := .tuple #[.slice none 0 0, .bool false]) (results_list (rs := [.tmp 2, .tmp 3]) rfl (by simp) (Vals.at (hS.get 1 rfl) (Vals.at (hS.get 0 rfl) .nil))) hS.nodef ⟨.slice none 0 0, rfl, Kd.R_nil _ _ _ _ _, hBw12_w⟩
  rw [if_pos c2] at H
  refine calls_of_wp (fn := Try.f33) (by kernel_rfl) rfl ?_
  have hS := St.enter #[.agg #[.int .i64 a0_0, .string a0_1]] 36 (by simp) [(0, .agg #[.int .i64 a0_0, .string a0_1])] (by simp)
  have HB0 := Below.refl w.heap.size w
  refine wp_seq_k (fun K1 hK1 => ?_)
  refine reg_seq (N := 36) (bs := [(0, .agg #[.int .i64 a0_0, .string a0_1])]) (I := fun x => Below w.heap.size w x) (ps := [IsB #[.int .i64 a0_0, .string a0_1] 26 w.heap.size, IsV (.slice none 0 0), VB false]) (by kernel_rfl) ?_ ?_ rfl hS HB0 ?_ ?_
  · exact fun x y hI hb => below_step hI hb
  · exact .cons (Stays.b _ _ _) (.v (.v (.nil)))
  · refine .on rfl (fun a w hS hI hp => does_var (x_box rfl (congrArg Value.cells (hS.get 0 rfl))) (hI).size) ?_
    iterate 2 refine .on rfl (fun a w hS hI hp => does_val (x_assign rfl (rfl)) rfl) ?_
    exact .nil
  clear hS
  intro at2 w3 hS hI hp
  have hBw3_w := hI
  replace hS := hS.nil
  obtain ⟨g4, hv1, hgeg4, hbxg4⟩ := (show IsB _ 26 _ (sl _ 1) _ from hp 0 (by decide))
  have hBw3_w3 := Below.refl w3.heap.size w3
  have hS := hS.cons hv1
  clear hp hI hv1
  refine hK1 _ _ ?_
  (try clear hK1 K1)
  refine wp_seq_k (fun K5 hK5 => ?_)
  refine wp_seq_k (fun K6 hK6 => ?_)
  refine reg_seq (N := 36) (bs := [(1, .pointer (some ⟨g4, 0, none⟩))]) (I := fun x => Below w.heap.size w x ∧ Below w3.heap.size w3 x) (ps := [VP g4 0, VI a0_0, VB (!decide (a0_0 = 8)), VB (!decide (a0_0 = 8)), IsV (.agg #[.int .i64 a0_0, .string a0_1]), VB t7, VB (!t7), VB (!t7)]) (by kernel_rfl) ?_ ?_ rfl hS ⟨hBw3_w, hBw3_w3⟩ ?_ ?_
  · exact fun x y hI hb => ⟨below_step hI.1 hb, below_step hI.2 hb⟩
  · exact .v (.v (.v (.v (.v (.v (.v (.v (.nil))))))))
  · refine .on rfl (fun a w hS hI hp => does_val (x_fieldE (b := 0) rfl (hS.get 0 rfl) Try.underlying26 rfl rfl (by kernel_rfl)) rfl) ?_
    refine .on rfl (fun a w hS hI hp => does_val (x_load1 (d := .int .i64) rfl (hp.V 0 rfl rfl) (by kernel_rfl) rfl ((blk_cell (((hI.2).block g4 (blk_lt hbxg4)).trans hbxg4) 0).trans rfl)) rfl) ?_
    refine .on rfl (fun a w hS hI hp => does_val (x_bin rfl (hp.V 1 rfl rfl) (rfl) (b_neq _ _ _ _ _ _)) rfl) ?_
    refine .mv 2 rfl rfl rfl rfl ?_
    refine .oy 3 11 rfl rfl rfl rfl rfl ((congrArg (!·) (decide_eq_true c1))) (fun a w hS hI hp => does_loadrow rfl (hS.get 0 rfl) (((hI.2).block g4 (blk_lt hbxg4)).trans hbxg4) Try.underlying26 rfl (by kernel_rfl) rfl) ?_
    refine .oy 3 11 rfl rfl rfl rfl rfl ((congrArg (!·) (decide_eq_true c1))) (fun a w hS hI hp => does_call (by kernel_rfl) (ar1 (hp.V 4 rfl rfl)) ((tlv_Known.calls a0_0 a0_1 t7 _  At7).mono fun _ _ h => ⟨_, h.1, h.2, rfl⟩)) ?_
    refine .oy 3 11 rfl rfl rfl rfl rfl ((congrArg (!·) (decide_eq_true c1))) (fun a w hS hI hp => does_val (x_not rfl (hp.V 5 rfl rfl)) rfl) ?_
    refine .on rfl (fun a w hS hI hp => does_val (x_pickF rfl ((hp.V 3 rfl rfl).trans (bF (congrArg (!·) (decide_eq_true c1)))) (hp.V 6 rfl rfl)) rfl) ?_
    exact .nil
  clear hS
  intro at8 w9 hS hI hp
  have hBw9_w := hI.1
  have hBw9_w3 := hI.2
  have hv15 : sl _ 15 = .bool (!t7) := hp 7 (by decide)
  have hBw9_w9 := Below.refl w9.heap.size w9
  have hS := hS.cons hv15
  clear hp hI hv15
  refine hK6 _ _ ?_
  (try clear hK6 K6)
  refine wp_cond_false ((hS.get 0 rfl).trans (bF (congrArg (!·) c2))) ?_
  refine wp_skip ?_
  refine hK5 _ _ ?_
  (try clear hK5 K5)
  refine wp_seq_k (fun K10 hK10 => ?_)
  refine reg_seq (N := 36) (bs := [(15, .bool (!t7)), (1, .pointer (some ⟨g4, 0, none⟩))]) (I := fun x => Below w.heap.size w x ∧ Below w3.heap.size w3 x ∧ Below w9.heap.size w9 x) (ps := [IsV (.slice none 0 0)]) (by kernel_rfl) ?_ ?_ rfl hS ⟨hBw9_w, hBw9_w3, hBw9_w9⟩ ?_ ?_
  · exact fun x y hI hb => ⟨below_step hI.1 hb, below_step hI.2.1 hb, below_step hI.2.2 hb⟩
  · exact .v (.nil)
  · refine .on rfl (fun a w hS hI hp => does_val (x_assign rfl (rfl)) rfl) ?_
    exact .nil
  clear hS
  intro at11 w12 hS hI hp
  have hBw12_w := hI.1
  have hBw12_w3 := hI.2.1
  have hBw12_w9 := hI.2.2
  replace hS := (hS.nil).cons (hS.get 1 rfl)
  have hv4 : sl _ 4 = .slice none 0 0 := hp 0 (by decide)
  have hBw12_w12 := Below.refl w12.heap.size w12
  have hS := hS.cons hv4
  clear hp hI hv4
  refine hK10 _ _ ?_
  (try clear hK10 K10)
  refine wp_seq_k (fun K13 hK13 => ?_)
  refine wp_seq_k (fun K14 hK14 => ?_)
  refine reg_seq (N := 36) (bs := [(4, .slice none 0 0), (1, .pointer (some ⟨g4, 0, none⟩))]) (I := fun x => Below w.heap.size w x ∧ Below w3.heap.size w3 x ∧ Below w12.heap.size w12 x) (ps := [VI 0]) (by kernel_rfl) ?_ ?_ rfl hS ⟨hBw12_w, hBw12_w3, hBw12_w12⟩ ?_ ?_
  · exact fun x y hI hb => ⟨below_step hI.1 hb, below_step hI.2.1 hb, below_step hI.2.2 hb⟩
  · exact .v (.nil)
  · refine .on rfl (fun a w hS hI hp => does_val (x_assign rfl (rfl)) rfl) ?_
    exact .nil
  clear hS
  intro at15 w16 hS hI hp
  have hBw16_w := hI.1
  have hBw16_w3 := hI.2.1
  have hBw16_w12 := hI.2.2
  have hv5 : sl _ 5 = .int .i64 0 := hp 0 (by decide)
  have hBw16_w16 := Below.refl w16.heap.size w16
  have hS := hS.cons hv5
  clear hp hI hv5
  refine hK14 _ _ ?_
  (try clear hK14 K14)
  refine wp_block ?_
  replace hS := (((hS.nil).cons (hS.get 0 rfl)).cons (hS.get 1 rfl)).cons (hS.get 2 rfl)
  refine wp_loop_ghost (fun n_ a_ wL1 => ∃ (x1_1_0 : Int) (x1_1_1 : ByteArray) (gL1_1 : Nat) (y1_4 : List Int) (AL1_4 : Option Addr) (CL1_4 : Nat) (x1_5 : Int), tlv_PathOf.l1 k n_ x1_1_0 x1_1_1 y1_4 x1_5 = some (r1, r2) ∧ St 36 [(1, .pointer (some ⟨gL1_1, 0, none⟩)), (4, .slice AL1_4 y1_4.length CL1_4), (5, .int .i64 x1_5)] a_ ∧ Below w.heap.size w wL1 ∧ w.heap.size ≤ gL1_1 ∧ wL1.heap[gL1_1]? = some (.cells #[.int .i64 x1_1_0, .string x1_1_1] 26 (0, 0)) ∧ y1_4.length ≤ CL1_4 ∧ Kd.R (Kd.int .u64) 58 wL1 w.heap.size (fun _ => True) (.slice AL1_4 y1_4.length CL1_4) y1_4) k ⟨a0_0, a0_1, g4, [], none, 0, 0, H, hS, hBw16_w, hgeg4, ((hBw16_w3.block g4 (blk_lt hbxg4)).trans hbxg4), (Nat.le_refl _), (Kd.R_nil _ _ _ _ _)⟩ ?_
  clear H hS
  rintro n1 aL1 wL1 ⟨x1_1_0, x1_1_1, gL1_1, y1_4, AL1_4, CL1_4, x1_5, H, hS, hBwL1_w, hgeLgL1_1, hbxLgL1_1, hr1_4, hoL1_4⟩
  rcases n1 with _ | n1
  · exact absurd H (by simp [tlv_PathOf.l1])
  rw [tlv_PathOf.l1] at H
  (try dsimp only at H)
  by_cases c3 : x1_5 < (x1_1_1.size : Int)
  rotate_left
  · rw [if_neg c3] at H
    simp only [Option.some.injEq, Prod.mk.injEq] at H
    obtain ⟨rfl, rfl⟩ := H
    have hBwL1_wL1 := Below.refl wL1.heap.size wL1
    refine wp_seq_k (fun K1001 hK1001 => ?_)
    refine wp_seq_k (fun K1002 hK1002 => ?_)
    refine reg_seq (N := 36) (bs := [(1, .pointer (some ⟨gL1_1, 0, none⟩)), (4, .slice AL1_4 y1_4.length CL1_4), (5, .int .i64 x1_5)]) (I := fun x => Below w.heap.size w x ∧ Below wL1.heap.size wL1 x) (ps := [VI x1_5, VP gL1_1 1, IsV (.string x1_1_1), VI (x1_1_1.size : Int), VB (decide (x1_5 < (x1_1_1.size : Int)))]) (by kernel_rfl) ?_ ?_ rfl hS ⟨hBwL1_w, hBwL1_wL1⟩ ?_ ?_
    · exact fun x y hI hb => ⟨below_step hI.1 hb, below_step hI.2 hb⟩
    · exact .v (.v (.v (.v (.v (.nil)))))
    · refine .ms 2 rfl rfl rfl ?_
      refine .on rfl (fun a w hS hI hp => does_val (x_fieldE (b := 0) rfl (hS.get 0 rfl) Try.underlying26 rfl rfl (by kernel_rfl)) rfl) ?_
      refine .on rfl (fun a w hS hI hp => does_val (x_load1 (d := .string) rfl (hp.V 1 rfl rfl) (by kernel_rfl) rfl ((blk_cell (((hI.2).block gL1_1 (blk_lt hbxLgL1_1)).trans hbxLgL1_1) 1).trans rfl)) rfl) ?_
      refine .on rfl (fun a w hS hI hp => does_val (x_lenS rfl (by kernel_rfl) (hp.V 2 rfl rfl)) rfl) ?_
      refine .on rfl (fun a w hS hI hp => does_val (x_bin rfl (hp.V 0 rfl rfl) (hp.V 3 rfl rfl) (b_lss _ _ _ _ _ _)) rfl) ?_
      exact .nil
    clear hS
    intro at1003 w1004 hS hI hp
    have hBw1004_w := hI.1
    have hBw1004_wL1 := hI.2
    have hv20 : sl _ 20 = .bool (decide (x1_5 < (x1_1_1.size : Int))) := hp 4 (by decide)
    have hBw1004_w1004 := Below.refl w1004.heap.size w1004
    have hS := hS.cons hv20
    clear hp hI hv20
    refine hK1002 _ _ ?_
    (try clear hK1002 K1002)
    refine wp_cond_false ((hS.get 0 rfl).trans (bF (decide_eq_false c3))) ?_
    refine wp_exit ?_
    (try simp only [Exit.then, Exit.inBlock, reduceIte])
    refine hK13 _ _ ?_
    (try clear hK13 K13)
    refine wp_seq_k (fun K1005 hK1005 => ?_)
    refine reg_seq (N := 36) (bs := [(20, .bool (decide (x1_5 < (x1_1_1.size : Int)))), (1, .pointer (some ⟨gL1_1, 0, none⟩)), (4, .slice AL1_4 y1_4.length CL1_4), (5, .int .i64 x1_5)]) (I := fun x => Below w.heap.size w x ∧ Below wL1.heap.size wL1 x ∧ Below w1004.heap.size w1004 x) (ps := [IsV (.slice AL1_4 y1_4.length CL1_4), IsV (.slice AL1_4 y1_4.length CL1_4), VB true]) (by kernel_rfl) ?_ ?_ rfl hS ⟨hBw1004_w, hBw1004_wL1, hBw1004_w1004⟩ ?_ ?_
    · exact fun x y hI hb => ⟨below_step hI.1 hb, below_step hI.2.1 hb, below_step hI.2.2 hb⟩
    · exact .v (.v (.v (.nil)))
    · refine .ms 2 rfl rfl rfl ?_
      refine .asg 0 rfl rfl rfl rfl ?_
      refine .on rfl (fun a w hS hI hp => does_val (x_assign rfl (rfl)) rfl) ?_
      exact .nil
    clear hS
    intro at1006 w1007 hS hI hp
    have hBw1007_w := hI.1
    have hBw1007_wL1 := hI.2.1
    have hBw1007_w1004 := hI.2.2
    replace hS := hS.nil
    have hv2 : sl _ 2 = .slice AL1_4 y1_4.length CL1_4 := hp 1 (by decide)
    have hv3 : sl _ 3 = .bool true := hp 2 (by decide)
    have hBw1007_w1007 := Below.refl w1007.heap.size w1007
    have hS := hS.cons hv2
    have hS := hS.cons hv3
    clear hp hI hv2 hv3
    refine hK1005 _ _ ?_
    (try clear hK1005 K1005)
    refine wp_ret ?_
    (try simp only [Exit.then, Exit.inBlock, Exit.jump, Exit.noGoto])
    exact bodyPost_ret (v := .tuple #[.slice AL1_4 y1_4.length CL1_4, .bool true]) (results_list (rs := [.tmp 2, .tmp 3]) rfl (by simp) (Vals.at (hS.get 1 rfl) (Vals.at (hS.get 0 rfl) .nil))) hS.nodef ⟨.slice AL1_4 y1_4.length CL1_4, rfl, Kd.R_lower (Kd.R_below hoL1_4 hBw1007_wL1) (Nat.le_refl _), hBw1007_w⟩
  rw [if_pos c3] at H
  by_cases c4 : x1_1_1.size ≤ 9223372036854775807
  rotate_left
  · rw [if_neg c4] at H
    exact absurd H (by simp)
  rw [if_pos c4] at H
  obtain ⟨t1007, At1007, H⟩ := Option.bind_eq_some_iff.mp H
  obtain ⟨t1007_1, t1007_2⟩ := t1007
  (try dsimp only at H)
  by_cases c5 : (y1_4.length + [t1007_1].length) * 8 ≤ 140737488355328
  rotate_left
  · rw [if_neg c5] at H
    exact absurd H (by simp)
  rw [if_pos c5] at H
  have hBwL1_wL1 := Below.refl wL1.heap.size wL1
  refine wp_seq_k (fun K1001 hK1001 => ?_)
  refine wp_seq_k (fun K1002 hK1002 => ?_)
  refine reg_seq (N := 36) (bs := [(1, .pointer (some ⟨gL1_1, 0, none⟩)), (4, .slice AL1_4 y1_4.length CL1_4), (5, .int .i64 x1_5)]) (I := fun x => Below w.heap.size w x ∧ Below wL1.heap.size wL1 x) (ps := [VI x1_5, VP gL1_1 1, IsV (.string x1_1_1), VI (x1_1_1.size : Int), VB (decide (x1_5 < (x1_1_1.size : Int)))]) (by kernel_rfl) ?_ ?_ rfl hS ⟨hBwL1_w, hBwL1_wL1⟩ ?_ ?_
  · exact fun x y hI hb => ⟨below_step hI.1 hb, below_step hI.2 hb⟩
  · exact .v (.v (.v (.v (.v (.nil)))))
  · refine .ms 2 rfl rfl rfl ?_
    refine .on rfl (fun a w hS hI hp => does_val (x_fieldE (b := 0) rfl (hS.get 0 rfl) Try.underlying26 rfl rfl (by kernel_rfl)) rfl) ?_
    refine .on rfl (fun a w hS hI hp => does_val (x_load1 (d := .string) rfl (hp.V 1 rfl rfl) (by kernel_rfl) rfl ((blk_cell (((hI.2).block gL1_1 (blk_lt hbxLgL1_1)).trans hbxLgL1_1) 1).trans rfl)) rfl) ?_
    refine .on rfl (fun a w hS hI hp => does_val (x_lenS rfl (by kernel_rfl) (hp.V 2 rfl rfl)) rfl) ?_
    refine .on rfl (fun a w hS hI hp => does_val (x_bin rfl (hp.V 0 rfl rfl) (hp.V 3 rfl rfl) (b_lss _ _ _ _ _ _)) rfl) ?_
    exact .nil
  clear hS
  intro at1003 w1004 hS hI hp
  have hBw1004_w := hI.1
  have hBw1004_wL1 := hI.2
  have hv20 : sl _ 20 = .bool (decide (x1_5 < (x1_1_1.size : Int))) := hp 4 (by decide)
  have hBw1004_w1004 := Below.refl w1004.heap.size w1004
  have hS := hS.cons hv20
  clear hp hI hv20
  refine hK1002 _ _ ?_
  (try clear hK1002 K1002)
  refine wp_cond_true ((hS.get 0 rfl).trans (bT (decide_eq_true c3))) ?_
  refine wp_skip ?_
  refine hK1001 _ _ ?_
  (try clear hK1001 K1001)
  refine wp_seq_k (fun K1005 hK1005 => ?_)
  refine wp_block ?_
  refine wp_seq_k (fun K1006 hK1006 => ?_)
  refine reg_seq (N := 36) (bs := [(20, .bool (decide (x1_5 < (x1_1_1.size : Int)))), (1, .pointer (some ⟨gL1_1, 0, none⟩)), (4, .slice AL1_4 y1_4.length CL1_4), (5, .int .i64 x1_5)]) (I := fun x => Below w.heap.size w x ∧ Below wL1.heap.size wL1 x ∧ Below w1004.heap.size w1004 x) (ps := [VP gL1_1 1, IsV (.string x1_1_1), IsC (Kd.int .u8) (bytesOf x1_1_1), VI x1_5, IsV (.tuple #[.int .u64 t1007_1, .bool t1007_2]), IsV (.tuple #[.int .u64 t1007_1, .bool t1007_2]), IsV (.int .u64 t1007_1), VB t1007_2, IsV (.int .u64 t1007_1), VB t1007_2]) (by kernel_rfl) ?_ ?_ rfl hS ⟨hBw1004_w, hBw1004_wL1, hBw1004_w1004⟩ ?_ ?_
  · exact fun x y hI hb => ⟨below_step hI.1 hb, below_step hI.2.1 hb, below_step hI.2.2 hb⟩
  · exact .v (.v (.cons (Stays.c _ _) (.v (.v (.v (.v (.v (.v (.v (.nil))))))))))
  · refine .on rfl (fun a w hS hI hp => does_val (x_fieldE (b := 0) rfl (hS.get 1 rfl) Try.underlying26 rfl rfl (by kernel_rfl)) rfl) ?_
    refine .on rfl (fun a w hS hI hp => does_val (x_load1 (d := .string) rfl (hp.V 0 rfl rfl) (by kernel_rfl) rfl ((blk_cell (((hI.2.1).block gL1_1 (blk_lt hbxLgL1_1)).trans hbxLgL1_1) 1).trans rfl)) rfl) ?_
    refine .on rfl (fun a w hS hI hp => does_bytes (e := 5) rfl (by kernel_rfl) (by kernel_rfl) (by kernel_rfl) (hp.V 1 rfl rfl) c4) ?_
    refine .ms 3 rfl rfl rfl ?_
    refine .on rfl (fun a w hS hI hp => (hp.V 2 rfl rfl).elim fun A_ h_ => h_.elim fun c_ h_ => h_.elim fun hv_ h_ => h_.elim fun hl_ hc_ => does_call (by kernel_rfl) (ar2 (hv_) (hp.V 3 rfl rfl)) ((octets_GetId.calls k _ _ (bytesOf x1_1_1) x1_5 t1007_1 t1007_2 _ hc_ hl_ At1007).mono fun _ _ h => ⟨_, h.1, h.2.below, rfl⟩)) ?_
    refine .mv 4 rfl rfl rfl rfl ?_
    iterate 2 refine .on rfl (fun a w hS hI hp => does_val (x_extract rfl (hp.V 5 rfl rfl) rfl) rfl) ?_
    refine .asg 6 rfl rfl rfl rfl ?_
    refine .asg 7 rfl rfl rfl rfl ?_
    exact .nil
  clear hS
  intro at1008 w1009 hS hI hp
  have hBw1009_w := hI.1
  have hBw1009_wL1 := hI.2.1
  have hBw1009_w1004 := hI.2.2
  replace hS := (((hS.nil).cons (hS.get 3 rfl)).cons (hS.get 2 rfl)).cons (hS.get 1 rfl)
  have hv6 : sl _ 6 = .int .u64 t1007_1 := hp 8 (by decide)
  have hBw1009_w1009 := Below.refl w1009.heap.size w1009
  have hS := hS.cons hv6
  clear hp hI hv6
  refine hK1006 _ _ ?_
  (try clear hK1006 K1006)
  refine reg_seq_tail 3 (N := 36) (bs := [(6, .int .u64 t1007_1), (1, .pointer (some ⟨gL1_1, 0, none⟩)), (4, .slice AL1_4 y1_4.length CL1_4), (5, .int .i64 x1_5)]) (I := fun x => Below w.heap.size w x ∧ Below wL1.heap.size wL1 x ∧ Below w1009.heap.size w1009 x) (ps := [IsV (.slice AL1_4 y1_4.length CL1_4), IsV (.int .u64 t1007_1), IsR (Kd.int .u64) 58 w1009.heap.size [t1007_1]]) (by kernel_rfl) ?_ ?_ rfl hS ⟨hBw1009_w, hBw1009_wL1, hBw1009_w1009⟩ ?_ ?_
  · exact fun x y hI hb => ⟨below_step hI.1 hb, below_step hI.2.1 hb, below_step hI.2.2 hb⟩
  · exact .v (.v (.cons (Stays.r _ _ _ _) (.nil)))
  · refine .ms 2 rfl rfl rfl ?_
    refine .ms 0 rfl rfl rfl ?_
    refine .on rfl (fun a w hS hI hp => does_lit w1009.heap.size 45 58 1 _ [(0, .int .u64 t1007_1)] [t1007_1] rfl (by kernel_rfl) (by rw [Array.toList_map]; exact (show [(0, a.eval (.tmp 32))] = _ from (li_cons (hp.V 1 rfl rfl) rfl))) (by kernel_rfl) rfl (hI.2.2).size (Nat.le_of_ble_eq_true rfl)) ?_
    exact .nil
  clear hS
  intro at1010 w1011 hS hI hp
  have hBw1011_w := hI.1
  have hBw1011_wL1 := hI.2.1
  have hBw1011_w1009 := hI.2.2
  replace hS := (((hS.nil).cons (hS.get 3 rfl)).cons (hS.get 2 rfl)).cons (hS.get 1 rfl)
  have hv31 : sl _ 31 = .slice AL1_4 y1_4.length CL1_4 := hp 0 (by decide)
  obtain ⟨A1012, C1012, hv33, hl1012, hc1012⟩ := Kd.R_reads (show Kd.R (Kd.int .u64) 58 w1011 w1009.heap.size (fun _ => True) (sl _ 33) [t1007_1] from hp 2 (by decide))
  have ho1012 : Kd.R (Kd.int .u64) 58 w1011 w1009.heap.size (fun _ => True) (.slice A1012 [t1007_1].length C1012) [t1007_1] := hv33 ▸ (hp 2 (by decide))
  have hBw1011_w1011 := Below.refl w1011.heap.size w1011
  have hS := hS.cons hv31
  have hS := hS.cons hv33
  clear hp hI hv31 hv33
  show wpList _ _ _ [_, _] _ _
  refine list_step rfl (does_more (W := w) (.tmp 31) (.tmp 33) 45 58 8 rfl (by kernel_rfl) (by kernel_rfl) (by decide) _ y1_4 [t1007_1] _ _ (hS.get 1 rfl) (hS.get 0 rfl) (Kd.R_below hoL1_4 hBw1011_wL1) (Kd.C_below hc1012 hBw1011_w1011) hBw1011_w c5) ?_
  rintro vw1013 w1013 ⟨hb, hr, hk⟩
  have hn1014 := hk gL1_1 _ _ ((hBw1011_wL1.block gL1_1 (blk_lt hbxLgL1_1)).trans hbxLgL1_1) (by decide)
  clear hk
  have hBw1013_w := hb
  replace hS := ((hS.nil).cons (hS.get 4 rfl)).cons (hS.get 2 rfl)
  have hBw1013_w1013 := Below.refl w1013.heap.size w1013
  obtain ⟨A1015, C1015, rfl, hl1015, hc1015⟩ := Kd.R_reads hr
  have hr1015 := hr
  clear hr
  refine hS.next (v := .slice A1015 ((y1_4 ++ [t1007_1] : List Int).length) C1015) (d := 34) rfl (by decide) (by rfl) ?_
  clear hS
  intro at1016 hS
  refine list_step rfl (R := fun v w' => Below _ _ w' ∧ (IsV (.slice A1015 ((y1_4 ++ [t1007_1] : List Int).length) C1015)) v w') (does_val (x_assign rfl (hS.get 0 rfl)) rfl) ?_
  rintro vw1017 w1017 ⟨hb, he⟩
  have hBw1017_w := below_step hBw1013_w hb
  have hBw1017_w1013 := below_step hBw1013_w1013 hb
  have hBw1017_w1017 := Below.refl w1017.heap.size w1017
  obtain rfl : vw1017 = .slice A1015 ((y1_4 ++ [t1007_1] : List Int).length) C1015 := he
  refine hS.next (v := .slice A1015 ((y1_4 ++ [t1007_1] : List Int).length) C1015) (d := 4) rfl (by decide) (by rfl) ?_
  clear hS
  intro at1018 hS
  refine wpList_nil ?_
  refine hK1005 _ _ ?_
  (try clear hK1005 K1005)
  refine reg_seq_tail 2 (N := 36) (bs := [(4, .slice A1015 ((y1_4 ++ [t1007_1] : List Int).length) C1015), (34, .slice A1015 ((y1_4 ++ [t1007_1] : List Int).length) C1015), (1, .pointer (some ⟨gL1_1, 0, none⟩)), (5, .int .i64 x1_5)]) (I := fun x => Below w.heap.size w x ∧ Below w1013.heap.size w1013 x ∧ Below w1017.heap.size w1017 x) (ps := [VI x1_5, VI (wrap64 (x1_5 + 8))]) (by kernel_rfl) ?_ ?_ rfl hS ⟨hBw1017_w, hBw1017_w1013, hBw1017_w1017⟩ ?_ ?_
  · exact fun x y hI hb => ⟨below_step hI.1 hb, below_step hI.2.1 hb, below_step hI.2.2 hb⟩
  · exact .v (.v (.nil))
  · refine .ms 3 rfl rfl rfl ?_
    refine .on rfl (fun a w hS hI hp => does_val (x_bin rfl (hp.V 0 rfl rfl) (rfl) (b_add _ _ _ _ _)) rfl) ?_
    exact .nil
  clear hS
  intro at1019 w1020 hS hI hp
  have hBw1020_w := hI.1
  have hBw1020_w1013 := hI.2.1
  have hBw1020_w1017 := hI.2.2
  replace hS := (((hS.nil).cons (hS.get 3 rfl)).cons (hS.get 2 rfl)).cons (hS.get 0 rfl)
  have hv22 : sl _ 22 = .int .i64 (wrap64 (x1_5 + 8)) := hp 1 (by decide)
  have hBw1020_w1020 := Below.refl w1020.heap.size w1020
  have hS := hS.cons hv22
  clear hp hI hv22
  show wpList _ _ _ [_] _ _
  refine list_step rfl (R := fun v w' => Below _ _ w' ∧ (VI (wrap64 (x1_5 + 8))) v w') (does_val (x_assign rfl (hS.get 0 rfl)) rfl) ?_
  rintro vw1021 w1021 ⟨hb, he⟩
  have hBw1021_w := below_step hBw1020_w hb
  have hBw1021_w1013 := below_step hBw1020_w1013 hb
  have hBw1021_w1020 := below_step hBw1020_w1020 hb
  have hBw1021_w1021 := Below.refl w1021.heap.size w1021
  obtain rfl : vw1021 = .int .i64 (wrap64 (x1_5 + 8)) := he
  replace hS := (((hS.nil).cons (hS.get 2 rfl)).cons (hS.get 1 rfl)).cons (hS.get 0 rfl)
  refine hS.next (v := .int .i64 (wrap64 (x1_5 + 8))) (d := 5) rfl (by decide) (by rfl) ?_
  clear hS
  intro at1022 hS
  refine wpList_nil ?_
  replace hS := (((hS.nil).cons (hS.get 0 rfl)).cons (hS.get 2 rfl)).cons (hS.get 3 rfl)
  (try simp only [Exit.then, Exit.inBlock])
  exact ⟨n1, Nat.lt_succ_self _, x1_1_0, x1_1_1, gL1_1, (y1_4 ++ [t1007_1] : List Int), A1015, C1015, wrap64 (x1_5 + 8), H, hS, hBw1021_w, hgeLgL1_1, ((hBw1021_w1013.block gL1_1 (blk_lt hn1014)).trans hn1014), hl1015, (Kd.R_lower (Kd.R_below hr1015 hBw1021_w1013) (Nat.le_refl _))⟩
/-! ### tlv_ManageOf: function 35: by our own printer -/
def tlv_ManageOf.f (k : Nat) (a0_0 : Int) (a0_1 : ByteArray) : Option (Int × ByteArray × Bool) := if a0_0 = 1 then ((tlv_Known.f a0_0 a0_1).bind fun t7 => (if t7 = true then (if a0_1.size ≤ 9223372036854775807 then ((octets_Get.f k (bytesOf a0_1) 0 2).bind fun t11 => (if 2 ≤ (a0_1.size : Int) then (some (t11.1, a0_1.extract (2 : Int).toNat ((a0_1.size : Int) : Int).toNat, true)) else (none))) else (none)) else (some (0, (⟨#[]⟩ : ByteArray), false)))) else (some (0, (⟨#[]⟩ : ByteArray), false))
open Go.Proofs.Ytgmiokocipmbaaa.E in
set_option maxHeartbeats 60000000 in
set_option maxRecDepth 100000 in
theorem tlv_ManageOf.calls (k : Nat) (a0_0 : Int) (a0_1 : ByteArray) (r1 : Int) (r2 : ByteArray) (r3 : Bool) (w : World) (h : tlv_ManageOf.f k a0_0 a0_1 = some (r1, r2, r3)) :
    Calls Try.prog 35 #[.agg #[.int .i64 a0_0, .string a0_1]] w fun e w' => e = .returned (.tuple #[.int .i64 r1, .string r2, .bool r3]) ∧ Below w.heap.size w w' := by
  have H := h
  clear h
  unfold tlv_ManageOf.f at H
  by_cases c1 : a0_0 = 1
  rotate_left
  · rw [if_neg c1] at H
    simp only [Option.some.injEq, Prod.mk.injEq] at H
    obtain ⟨rfl, rfl, rfl⟩ := H
    refine calls_of_wp (fn := Try.f35) (by kernel_rfl) rfl ?_
    have hS := St.enter #[.agg #[.int .i64 a0_0, .string a0_1]] 26 (by simp) [(0, .agg #[.int .i64 a0_0, .string a0_1])] (by simp)
    have HB0 := Below.refl w.heap.size w
    refine wp_seq_k (fun K1 hK1 => ?_)
    refine reg_seq (N := 26) (bs := [(0, .agg #[.int .i64 a0_0, .string a0_1])]) (I := fun x => Below w.heap.size w x) (ps := [IsB #[.int .i64 a0_0, .string a0_1] 26 w.heap.size, VI 0, IsV (.string (⟨#[]⟩ : ByteArray)), VB false]) (by kernel_rfl) ?_ ?_ rfl hS HB0 ?_ ?_
    · exact fun x y hI hb => below_step hI hb
    · exact .cons (Stays.b _ _ _) (.v (.v (.v (.nil))))
    · refine .on rfl (fun a w hS hI hp => does_var (x_box rfl (congrArg Value.cells (hS.get 0 rfl))) (hI).size) ?_
      iterate 3 refine .on rfl (fun a w hS hI hp => does_val (x_assign rfl (rfl)) rfl) ?_
      exact .nil
    clear hS
    intro at2 w3 hS hI hp
    have hBw3_w := hI
    replace hS := hS.nil
    obtain ⟨g4, hv1, hgeg4, hbxg4⟩ := (show IsB _ 26 _ (sl _ 1) _ from hp 0 (by decide))
    have hBw3_w3 := Below.refl w3.heap.size w3
    have hS := hS.cons hv1
    clear hp hI hv1
    refine hK1 _ _ ?_
    (try clear hK1 K1)
    refine wp_seq_k (fun K5 hK5 => ?_)
    refine wp_seq_k (fun K6 hK6 => ?_)
    refine reg_seq (N := 26) (bs := [(1, .pointer (some ⟨g4, 0, none⟩))]) (I := fun x => Below w.heap.size w x ∧ Below w3.heap.size w3 x) (ps := [VP g4 0, VI a0_0, VB (!decide (a0_0 = 1)), VB (!decide (a0_0 = 1)), VU, VU, VU, VB true]) (by kernel_rfl) ?_ ?_ rfl hS ⟨hBw3_w, hBw3_w3⟩ ?_ ?_
    · exact fun x y hI hb => ⟨below_step hI.1 hb, below_step hI.2 hb⟩
    · exact .v (.v (.v (.v (.v (.v (.v (.v (.nil))))))))
    · refine .on rfl (fun a w hS hI hp => does_val (x_fieldE (b := 0) rfl (hS.get 0 rfl) Try.underlying26 rfl rfl (by kernel_rfl)) rfl) ?_
      refine .on rfl (fun a w hS hI hp => does_val (x_load1 (d := .int .i64) rfl (hp.V 0 rfl rfl) (by kernel_rfl) rfl ((blk_cell (((hI.2).block g4 (blk_lt hbxg4)).trans hbxg4) 0).trans rfl)) rfl) ?_
      refine .on rfl (fun a w hS hI hp => does_val (x_bin rfl (hp.V 1 rfl rfl) (rfl) (b_neq _ _ _ _ _ _)) rfl) ?_
      refine .mv 2 rfl rfl rfl rfl ?_
      iterate 3 refine .sn 3 10 rfl rfl rfl rfl rfl ((congrArg (!·) (decide_eq_false c1))) ?_
      refine .on rfl (fun a w hS hI hp => does_val (x_pickT rfl ((hp.V 3 rfl rfl).trans (bT (congrArg (!·) (decide_eq_false c1)))) (rfl)) rfl) ?_
      exact .nil
    clear hS
    intro at7 w8 hS hI hp
    have hBw8_w := hI.1
    have hBw8_w3 := hI.2
    have hv14 : sl _ 14 = .bool true := hp 7 (by decide)
    have hBw8_w8 := Below.refl w8.heap.size w8
    have hS := hS.cons hv14
    clear hp hI hv14
    refine hK6 _ _ ?_
    (try clear hK6 K6)
    refine wp_cond_true ((hS.get 0 rfl).trans (bT rfl)) ?_
    refine wp_seq_k (fun K9 hK9 => ?_)
    refine reg_seq (N := 26) (bs := [(14, .bool true), (1, .pointer (some ⟨g4, 0, none⟩))]) (I := fun x => Below w.heap.size w x ∧ Below w3.heap.size w3 x ∧ Below w8.heap.size w8 x) (ps := [VI 0, IsV (.string (⟨#[]⟩ : ByteArray)), VB false]) (by kernel_rfl) ?_ ?_ rfl hS ⟨hBw8_w, hBw8_w3, hBw8_w8⟩ ?_ ?_
    · exact fun x y hI hb => ⟨below_step hI.1 hb, below_step hI.2.1 hb, below_step hI.2.2 hb⟩
    · exact .v (.v (.v (.nil)))
    · refine .on rfl (fun a w hS hI hp => does_val (x_assign rfl (rfl)) rfl) ?_
      iterate 2 refine .on rfl (fun a w hS hI hp => does_val (x_assign rfl (rfl)) rfl) ?_
      exact .nil
    clear hS
    intro at10 w11 hS hI hp
    have hBw11_w := hI.1
    have hBw11_w3 := hI.2.1
    have hBw11_w8 := hI.2.2
    replace hS := hS.nil
    have hv2 : sl _ 2 = .int .i64 0 := hp 0 (by decide)
    have hv3 : sl _ 3 = .string (⟨#[]⟩ : ByteArray) := hp 1 (by decide)
    have hv4 : sl _ 4 = .bool false := hp 2 (by decide)
    have hBw11_w11 := Below.refl w11.heap.size w11
    have hS := hS.cons hv2
    have hS := hS.cons hv3
    have hS := hS.cons hv4
    clear hp hI hv2 hv3 hv4
    refine hK9 _ _ ?_
    (try clear hK9 K9)
    refine wp_ret ?_
    (try simp only [Exit.then, Exit.inBlock, Exit.jump, Exit.noGoto])
    exact bodyPost_ret (v := .tuple #[.int .i64 0, .string (⟨#[]⟩ : ByteArray), .bool false]) (results_list (rs := [.tmp 2, .tmp 3, .tmp 4]) rfl (by simp) (Vals.at (hS.get 2 rfl) (Vals.at (hS.get 1 rfl) (Vals.at (hS.get 0 rfl) .nil)))) hS.nodef ⟨rfl, hBw11_w⟩
  rw [if_pos c1] at H
  obtain ⟨t7, At7, H⟩ := Option.bind_eq_some_iff.mp H
  by_cases c2 : t7 = true
  rotate_left
  · rw [if_neg c2] at H
    simp only [Option.some.injEq, Prod.mk.injEq] at H
    obtain ⟨rfl, rfl, rfl⟩ := H
    refine calls_of_wp (fn := Try.f35) (by kernel_rfl) rfl ?_
    have hS := St.enter #[.agg #[.int .i64 a0_0, .string a0_1]] 26 (by simp) [(0, .agg #[.int .i64 a0_0, .string a0_1])] (by simp)
    have HB0 := Below.refl w.heap.size w
    refine wp_seq_k (fun K1 hK1 => ?_)
    refine reg_seq (N := 26) (bs := [(0, .agg #[.int .i64 a0_0, .string a0_1])]) (I := fun x => Below w.heap.size w x) (ps := [IsB #[.int .i64 a0_0, .string a0_1] 26 w.heap.size, VI 0, IsV (.string (⟨#[]⟩ : ByteArray)), VB false]) (by kernel_rfl) ?_ ?_ rfl hS HB0 ?_ ?_
    · exact fun x y hI hb => below_step hI hb
    · exact .cons (Stays.b _ _ _) (.v (.v (.v (.nil))))
    · refine .on rfl (fun a w hS hI hp => does_var (x_box rfl (congrArg Value.cells (hS.get 0 rfl))) (hI).size) ?_
      iterate 3 refine .on rfl (fun a w hS hI hp => does_val (x_assign rfl (rfl)) rfl) ?_
      exact .nil
    clear hS
    intro at2 w3 hS hI hp
    have hBw3_w := hI
    replace hS := hS.nil
    obtain ⟨g4, hv1, hgeg4, hbxg4⟩ := (show IsB _ 26 _ (sl _ 1) _ from hp 0 (by decide))
    have hBw3_w3 := Below.refl w3.heap.size w3
    have hS := hS.cons hv1
    clear hp hI hv1
    refine hK1 _ _ ?_
    (try clear hK1 K1)
    refine wp_seq_k (fun K5 hK5 => ?_)
    refine wp_seq_k (fun K6 hK6 => ?_)
    refine reg_seq (N := 26) (bs := [(1, .pointer (some ⟨g4, 0, none⟩))]) (I := fun x => Below w.heap.size w x ∧ Below w3.heap.size w3 x) (ps := [VP g4 0, VI a0_0, VB (!decide (a0_0 = 1)), VB (!decide (a0_0 = 1)), IsV (.agg #[.int .i64 a0_0, .string a0_1]), VB t7, VB (!t7), VB (!t7)]) (by kernel_rfl) ?_ ?_ rfl hS ⟨hBw3_w, hBw3_w3⟩ ?_ ?_
    · exact fun x y hI hb => ⟨below_step hI.1 hb, below_step hI.2 hb⟩
    · exact .v (.v (.v (.v (.v (.v (.v (.v (.nil))))))))
    · refine .on rfl (fun a w hS hI hp => does_val (x_fieldE (b := 0) rfl (hS.get 0 rfl) Try.underlying26 rfl rfl (by kernel_rfl)) rfl) ?_
      refine .on rfl (fun a w hS hI hp => does_val (x_load1 (d := .int .i64) rfl (hp.V 0 rfl rfl) (by kernel_rfl) rfl ((blk_cell (((hI.2).block g4 (blk_lt hbxg4)).trans hbxg4) 0).trans rfl)) rfl) ?_
      refine .on rfl (fun a w hS hI hp => does_val (x_bin rfl (hp.V 1 rfl rfl) (rfl) (b_neq _ _ _ _ _ _)) rfl) ?_
      refine .mv 2 rfl rfl rfl rfl ?_
      refine .oy 3 10 rfl rfl rfl rfl rfl ((congrArg (!·) (decide_eq_true c1))) (fun a w hS hI hp => does_loadrow rfl (hS.get 0 rfl) (((hI.2).block g4 (blk_lt hbxg4)).trans hbxg4) Try.underlying26 rfl (by kernel_rfl) rfl) ?_
      refine .oy 3 10 rfl rfl rfl rfl rfl ((congrArg (!·) (decide_eq_true c1))) (fun a w hS hI hp => does_call (by kernel_rfl) (ar1 (hp.V 4 rfl rfl)) ((tlv_Known.calls a0_0 a0_1 t7 _  At7).mono fun _ _ h => ⟨_, h.1, h.2, rfl⟩)) ?_
      refine .oy 3 10 rfl rfl rfl rfl rfl ((congrArg (!·) (decide_eq_true c1))) (fun a w hS hI hp => does_val (x_not rfl (hp.V 5 rfl rfl)) rfl) ?_
      refine .on rfl (fun a w hS hI hp => does_val (x_pickF rfl ((hp.V 3 rfl rfl).trans (bF (congrArg (!·) (decide_eq_true c1)))) (hp.V 6 rfl rfl)) rfl) ?_
      exact .nil
    clear hS
    intro at8 w9 hS hI hp
    have hBw9_w := hI.1
    have hBw9_w3 := hI.2
    have hv14 : sl _ 14 = .bool (!t7) := hp 7 (by decide)
    have hBw9_w9 := Below.refl w9.heap.size w9
    have hS := hS.cons hv14
    clear hp hI hv14
    refine hK6 _ _ ?_
    (try clear hK6 K6)
    refine wp_cond_true ((hS.get 0 rfl).trans (bT (congrArg (!·) (Bool.eq_false_iff.2 c2)))) ?_
    refine wp_seq_k (fun K10 hK10 => ?_)
    refine reg_seq (N := 26) (bs := [(14, .bool (!t7)), (1, .pointer (some ⟨g4, 0, none⟩))]) (I := fun x => Below w.heap.size w x ∧ Below w3.heap.size w3 x ∧ Below w9.heap.size w9 x) (ps := [VI 0, IsV (.string (⟨#[]⟩ : ByteArray)), VB false]) (by kernel_rfl) ?_ ?_ rfl hS ⟨hBw9_w, hBw9_w3, hBw9_w9⟩ ?_ ?_
    · exact fun x y hI hb => ⟨below_step hI.1 hb, below_step hI.2.1 hb, below_step hI.2.2 hb⟩
    · exact .v (.v (.v (.nil)))
    · refine .on rfl (fun a w hS hI hp => does_val (x_assign rfl (rfl)) rfl) ?_
      iterate 2 refine .on rfl (fun a w hS hI hp => does_val (x_assign rfl (rfl)) rfl) ?_
      exact .nil
    clear hS
    intro at11 w12 hS hI hp
    have hBw12_w := hI.1
    have hBw12_w3 := hI.2.1
    have hBw12_w9 := hI.2.2
    replace hS := hS.nil
    have hv2 : sl _ 2 = .int .i64 0 := hp 0 (by decide)
    have hv3 : sl _ 3 = .string (⟨#[]⟩ : ByteArray) := hp 1 (by decide)
    have hv4 : sl _ 4 = .bool false := hp 2 (by decide)
    have hBw12_w12 := Below.refl w12.heap.size w12
    have hS := hS.cons hv2
    have hS := hS.cons hv3
    have hS := hS.cons hv4
    clear hp hI hv2 hv3 hv4
    refine hK10 _ _ ?_
    (try clear hK10 K10)
    refine wp_ret ?_
    (try simp only [Exit.then, Exit.inBlock, Exit.jump, Exit.noGoto])
    exact bodyPost_ret (v := .tuple #[.int .i64 0, .string (⟨#[]⟩ : ByteArray), .bool false]) (results_list (rs := [.tmp 2, .tmp 3, .tmp 4]) rfl (by simp) (Vals.at (hS.get 2 rfl) (Vals.at (hS.get 1 rfl) (Vals.at (hS.get 0 rfl) .nil)))) hS.nodef ⟨rfl, hBw12_w⟩
  rw [if_pos c2] at H
  by_cases c3 : a0_1.size ≤ 9223372036854775807
  rotate_left
  · rw [if_neg c3] at H
    exact absurd H (by simp)
  rw [if_pos c3] at H
  obtain ⟨t11, At11, H⟩ := Option.bind_eq_some_iff.mp H
  obtain ⟨t11_1, t11_2⟩ := t11
  (try dsimp only at H)
  by_cases c4 : 2 ≤ (a0_1.size : Int)
  rotate_left
  · rw [if_neg c4] at H
    exact absurd H (by simp)
  rw [if_pos c4] at H
  simp only [Option.some.injEq, Prod.mk.injEq] at H
  obtain ⟨rfl, rfl, rfl⟩ := H
  refine calls_of_wp (fn := Try.f35) (by kernel_rfl) rfl ?_
  have hS := St.enter #[.agg #[.int .i64 a0_0, .string a0_1]] 26 (by simp) [(0, .agg #[.int .i64 a0_0, .string a0_1])] (by simp)
  have HB0 := Below.refl w.heap.size w
  refine wp_seq_k (fun K1 hK1 => ?_)
  refine reg_seq (N := 26) (bs := [(0, .agg #[.int .i64 a0_0, .string a0_1])]) (I := fun x => Below w.heap.size w x) (ps := [IsB #[.int .i64 a0_0, .string a0_1] 26 w.heap.size, VI 0, IsV (.string (⟨#[]⟩ : ByteArray)), VB false]) (by kernel_rfl) ?_ ?_ rfl hS HB0 ?_ ?_
  · exact fun x y hI hb => below_step hI hb
  · exact .cons (Stays.b _ _ _) (.v (.v (.v (.nil))))
  · refine .on rfl (fun a w hS hI hp => does_var (x_box rfl (congrArg Value.cells (hS.get 0 rfl))) (hI).size) ?_
    iterate 3 refine .on rfl (fun a w hS hI hp => does_val (x_assign rfl (rfl)) rfl) ?_
    exact .nil
  clear hS
  intro at2 w3 hS hI hp
  have hBw3_w := hI
  replace hS := hS.nil
  obtain ⟨g4, hv1, hgeg4, hbxg4⟩ := (show IsB _ 26 _ (sl _ 1) _ from hp 0 (by decide))
  have hBw3_w3 := Below.refl w3.heap.size w3
  have hS := hS.cons hv1
  clear hp hI hv1
  refine hK1 _ _ ?_
  (try clear hK1 K1)
  refine wp_seq_k (fun K5 hK5 => ?_)
  refine wp_seq_k (fun K6 hK6 => ?_)
  refine reg_seq (N := 26) (bs := [(1, .pointer (some ⟨g4, 0, none⟩))]) (I := fun x => Below w.heap.size w x ∧ Below w3.heap.size w3 x) (ps := [VP g4 0, VI a0_0, VB (!decide (a0_0 = 1)), VB (!decide (a0_0 = 1)), IsV (.agg #[.int .i64 a0_0, .string a0_1]), VB t7, VB (!t7), VB (!t7)]) (by kernel_rfl) ?_ ?_ rfl hS ⟨hBw3_w, hBw3_w3⟩ ?_ ?_
  · exact fun x y hI hb => ⟨below_step hI.1 hb, below_step hI.2 hb⟩
  · exact .v (.v (.v (.v (.v (.v (.v (.v (.nil))))))))
  · refine .on rfl (fun a w hS hI hp => does_val (x_fieldE (b := 0) rfl (hS.get 0 rfl) Try.underlying26 rfl rfl (by kernel_rfl)) rfl) ?_
    refine .on rfl (fun a w hS hI hp => does_val (x_load1 (d := .int .i64) rfl (hp.V 0 rfl rfl) (by kernel_rfl) rfl ((blk_cell (((hI.2).block g4 (blk_lt hbxg4)).trans hbxg4) 0).trans rfl)) rfl) ?_
    refine .on rfl (fun a w hS hI hp => does_val (x_bin rfl (hp.V 1 rfl rfl) (rfl) (b_neq _ _ _ _ _ _)) rfl) ?_
    refine .mv 2 rfl rfl rfl rfl ?_
    refine .oy 3 10 rfl rfl rfl rfl rfl ((congrArg (!·) (decide_eq_true c1))) (fun a w hS hI hp => does_loadrow rfl (hS.get 0 rfl) (((hI.2).block g4 (blk_lt hbxg4)).trans hbxg4) Try.underlying26 rfl (by kernel_rfl) rfl) ?_
    refine .oy 3 10 rfl rfl rfl rfl rfl ((congrArg (!·) (decide_eq_true c1))) (fun a w hS hI hp => does_call (by kernel_rfl) (ar1 (hp.V 4 rfl rfl)) ((tlv_Known.calls a0_0 a0_1 t7 _  At7).mono fun _ _ h => ⟨_, h.1, h.2, rfl⟩)) ?_
    refine .oy 3 10 rfl rfl rfl rfl rfl ((congrArg (!·) (decide_eq_true c1))) (fun a w hS hI hp => does_val (x_not rfl (hp.V 5 rfl rfl)) rfl) ?_
    refine .on rfl (fun a w hS hI hp => does_val (x_pickF rfl ((hp.V 3 rfl rfl).trans (bF (congrArg (!·) (decide_eq_true c1)))) (hp.V 6 rfl rfl)) rfl) ?_
    exact .nil
  clear hS
  intro at8 w9 hS hI hp
  have hBw9_w := hI.1
  have hBw9_w3 := hI.2
  have hv14 : sl _ 14 = .bool (!t7) := hp 7 (by decide)
  have hBw9_w9 := Below.refl w9.heap.size w9
  have hS := hS.cons hv14
  clear hp hI hv14
  refine hK6 _ _ ?_
  (try clear hK6 K6)
  refine wp_cond_false ((hS.get 0 rfl).trans (bF (congrArg (!·) c2))) ?_
  refine wp_skip ?_
  refine hK5 _ _ ?_
  (try clear hK5 K5)
  refine wp_seq_k (fun K10 hK10 => ?_)
  refine reg_seq (N := 26) (bs := [(14, .bool (!t7)), (1, .pointer (some ⟨g4, 0, none⟩))]) (I := fun x => Below w.heap.size w x ∧ Below w3.heap.size w3 x ∧ Below w9.heap.size w9 x) (ps := [VP g4 1, IsV (.string a0_1), IsC (Kd.int .u8) (bytesOf a0_1), IsV (.tuple #[.int .i64 t11_1, .bool t11_2]), IsV (.tuple #[.int .i64 t11_1, .bool t11_2]), VI t11_1, VB t11_2, VI t11_1, VB t11_2]) (by kernel_rfl) ?_ ?_ rfl hS ⟨hBw9_w, hBw9_w3, hBw9_w9⟩ ?_ ?_
  · exact fun x y hI hb => ⟨below_step hI.1 hb, below_step hI.2.1 hb, below_step hI.2.2 hb⟩
  · exact .v (.v (.cons (Stays.c _ _) (.v (.v (.v (.v (.v (.v (.nil)))))))))
  · refine .on rfl (fun a w hS hI hp => does_val (x_fieldE (b := 0) rfl (hS.get 1 rfl) Try.underlying26 rfl rfl (by kernel_rfl)) rfl) ?_
    refine .on rfl (fun a w hS hI hp => does_val (x_load1 (d := .string) rfl (hp.V 0 rfl rfl) (by kernel_rfl) rfl ((blk_cell (((hI.2.1).block g4 (blk_lt hbxg4)).trans hbxg4) 1).trans rfl)) rfl) ?_
    refine .on rfl (fun a w hS hI hp => does_bytes (e := 5) rfl (by kernel_rfl) (by kernel_rfl) (by kernel_rfl) (hp.V 1 rfl rfl) c3) ?_
    refine .on rfl (fun a w hS hI hp => (hp.V 2 rfl rfl).elim fun A_ h_ => h_.elim fun c_ h_ => h_.elim fun hv_ h_ => h_.elim fun hl_ hc_ => does_call (by kernel_rfl) (ar3 (hv_) (rfl) (rfl)) ((octets_Get.calls k _ _ (bytesOf a0_1) 0 2 t11_1 t11_2 _ hc_ hl_ At11).mono fun _ _ h => ⟨_, h.1, h.2.below, rfl⟩)) ?_
    refine .mv 3 rfl rfl rfl rfl ?_
    iterate 2 refine .on rfl (fun a w hS hI hp => does_val (x_extract rfl (hp.V 4 rfl rfl) rfl) rfl) ?_
    refine .asg 5 rfl rfl rfl rfl ?_
    refine .asg 6 rfl rfl rfl rfl ?_
    exact .nil
  clear hS
  intro at12 w13 hS hI hp
  have hBw13_w := hI.1
  have hBw13_w3 := hI.2.1
  have hBw13_w9 := hI.2.2
  replace hS := (hS.nil).cons (hS.get 1 rfl)
  have hv5 : sl _ 5 = .int .i64 t11_1 := hp 7 (by decide)
  have hBw13_w13 := Below.refl w13.heap.size w13
  have hS := hS.cons hv5
  clear hp hI hv5
  refine hK10 _ _ ?_
  (try clear hK10 K10)
  refine wp_seq_k (fun K14 hK14 => ?_)
  refine reg_any (N := 26) (bs := [(5, .int .i64 t11_1), (1, .pointer (some ⟨g4, 0, none⟩))]) (I := fun x => Below w.heap.size w x ∧ Below w3.heap.size w3 x ∧ Below w13.heap.size w13 x) (ps := [VI t11_1, VP g4 1, IsV (.string a0_1), IsV (.string (a0_1.extract (2 : Int).toNat ((a0_1.size : Int) : Int).toNat)), VI t11_1, IsV (.string (a0_1.extract (2 : Int).toNat ((a0_1.size : Int) : Int).toNat)), VB true]) (by kernel_rfl) (by kernel_rfl) ?_ ?_ rfl hS ⟨hBw13_w, hBw13_w3, hBw13_w13⟩ ?_ ?_
  · exact fun x y hI hb => ⟨below_step hI.1 hb, below_step hI.2.1 hb, below_step hI.2.2 hb⟩
  · exact .v (.v (.v (.v (.v (.v (.v (.nil)))))))
  · refine .ms 0 rfl rfl rfl ?_
    refine .on rfl (fun a w hS hI hp => does_val (x_fieldE (b := 0) rfl (hS.get 1 rfl) Try.underlying26 rfl rfl (by kernel_rfl)) rfl) ?_
    refine .on rfl (fun a w hS hI hp => does_val (x_load1 (d := .string) rfl (hp.V 1 rfl rfl) (by kernel_rfl) rfl ((blk_cell (((hI.2.1).block g4 (blk_lt hbxg4)).trans hbxg4) 1).trans rfl)) rfl) ?_
    refine .on rfl (fun a w hS hI hp => does_val (x_cutstr (i := 2) (j := (a0_1.size : Int)) rfl (by kernel_rfl) (hp.V 2 rfl rfl) (.inr ⟨_, rfl, rfl⟩) (.inl ⟨rfl, rfl⟩) (by decide) c4 (Int.le_refl _)) rfl) ?_
    refine .asg 0 rfl rfl rfl rfl ?_
    refine .asg 3 rfl rfl rfl rfl ?_
    refine .on rfl (fun a w hS hI hp => does_val (x_assign rfl (rfl)) rfl) ?_
    exact .nil
  clear hS
  intro at15 w16 hS hI hp
  have hBw16_w := hI.1
  have hBw16_w3 := hI.2.1
  have hBw16_w13 := hI.2.2
  replace hS := hS.nil
  have hv2 : sl _ 2 = .int .i64 t11_1 := hp 4 (by decide)
  have hv3 : sl _ 3 = .string (a0_1.extract (2 : Int).toNat ((a0_1.size : Int) : Int).toNat) := hp 5 (by decide)
  have hv4 : sl _ 4 = .bool true := hp 6 (by decide)
  have hBw16_w16 := Below.refl w16.heap.size w16
  have hS := hS.cons hv2
  have hS := hS.cons hv3
  have hS := hS.cons hv4
  clear hp hI hv2 hv3 hv4
  refine hK14 _ _ ?_
  (try clear hK14 K14)
  refine wp_ret ?_
  (try simp only [Exit.then, Exit.inBlock, Exit.jump, Exit.noGoto])
  exact bodyPost_ret (v := .tuple #[.int .i64 t11_1, .string (a0_1.extract (2 : Int).toNat ((a0_1.size : Int) : Int).toNat), .bool true]) (results_list (rs := [.tmp 2, .tmp 3, .tmp 4]) rfl (by simp) (Vals.at (hS.get 2 rfl) (Vals.at (hS.get 1 rfl) (Vals.at (hS.get 0 rfl) .nil)))) hS.nodef ⟨rfl, hBw16_w⟩
/-! ### tlv_FaultOf: function 37: by our own printer -/
def tlv_FaultOf.f (k : Nat) (a0_0 : Int) (a0_1 : ByteArray) : Option (Int × Int × Bool) := if a0_0 = 2 then ((tlv_Known.f a0_0 a0_1).bind fun t7 => (if t7 = true then (if a0_1.size ≤ 9223372036854775807 then ((octets_Get.f k (bytesOf a0_1) 0 2).bind fun t11 => ((octets_Get.f k (bytesOf a0_1) 2 2).bind fun t15 => (some (t11.1, t15.1, true)))) else (none)) else (some (0, 0, false)))) else (some (0, 0, false))
open Go.Proofs.Ytgmiokocipmbaaa.E in
set_option maxHeartbeats 60000000 in
set_option maxRecDepth 100000 in
theorem tlv_FaultOf.calls (k : Nat) (a0_0 : Int) (a0_1 : ByteArray) (r1 r2 : Int) (r3 : Bool) (w : World) (h : tlv_FaultOf.f k a0_0 a0_1 = some (r1, r2, r3)) :
    Calls Try.prog 37 #[.agg #[.int .i64 a0_0, .string a0_1]] w fun e w' => e = .returned (.tuple #[.int .i64 r1, .int .i64 r2, .bool r3]) ∧ Below w.heap.size w w' := by
  have H := h
  clear h
  unfold tlv_FaultOf.f at H
  by_cases c1 : a0_0 = 2
  rotate_left
  · rw [if_neg c1] at H
    simp only [Option.some.injEq, Prod.mk.injEq] at H
    obtain ⟨rfl, rfl, rfl⟩ := H
    refine calls_of_wp (fn := Try.f37) (by kernel_rfl) rfl ?_
    have hS := St.enter #[.agg #[.int .i64 a0_0, .string a0_1]] 33 (by simp) [(0, .agg #[.int .i64 a0_0, .string a0_1])] (by simp)
    have HB0 := Below.refl w.heap.size w
    refine wp_seq_k (fun K1 hK1 => ?_)
    refine reg_seq (N := 33) (bs := [(0, .agg #[.int .i64 a0_0, .string a0_1])]) (I := fun x => Below w.heap.size w x) (ps := [IsB #[.int .i64 a0_0, .string a0_1] 26 w.heap.size, VI 0, VI 0, VB false]) (by kernel_rfl) ?_ ?_ rfl hS HB0 ?_ ?_
    · exact fun x y hI hb => below_step hI hb
    · exact .cons (Stays.b _ _ _) (.v (.v (.v (.nil))))
    · refine .on rfl (fun a w hS hI hp => does_var (x_box rfl (congrArg Value.cells (hS.get 0 rfl))) (hI).size) ?_
      iterate 3 refine .on rfl (fun a w hS hI hp => does_val (x_assign rfl (rfl)) rfl) ?_
      exact .nil
    clear hS
    intro at2 w3 hS hI hp
    have hBw3_w := hI
    replace hS := hS.nil
    obtain ⟨g4, hv1, hgeg4, hbxg4⟩ := (show IsB _ 26 _ (sl _ 1) _ from hp 0 (by decide))
    have hBw3_w3 := Below.refl w3.heap.size w3
    have hS := hS.cons hv1
    clear hp hI hv1
    refine hK1 _ _ ?_
    (try clear hK1 K1)
    refine wp_seq_k (fun K5 hK5 => ?_)
    refine wp_seq_k (fun K6 hK6 => ?_)
    refine reg_seq (N := 33) (bs := [(1, .pointer (some ⟨g4, 0, none⟩))]) (I := fun x => Below w.heap.size w x ∧ Below w3.heap.size w3 x) (ps := [VP g4 0, VI a0_0, VB (!decide (a0_0 = 2)), VB (!decide (a0_0 = 2)), VU, VU, VU, VB true]) (by kernel_rfl) ?_ ?_ rfl hS ⟨hBw3_w, hBw3_w3⟩ ?_ ?_
    · exact fun x y hI hb => ⟨below_step hI.1 hb, below_step hI.2 hb⟩
    · exact .v (.v (.v (.v (.v (.v (.v (.v (.nil))))))))
    · refine .on rfl (fun a w hS hI hp => does_val (x_fieldE (b := 0) rfl (hS.get 0 rfl) Try.underlying26 rfl rfl (by kernel_rfl)) rfl) ?_
      refine .on rfl (fun a w hS hI hp => does_val (x_load1 (d := .int .i64) rfl (hp.V 0 rfl rfl) (by kernel_rfl) rfl ((blk_cell (((hI.2).block g4 (blk_lt hbxg4)).trans hbxg4) 0).trans rfl)) rfl) ?_
      refine .on rfl (fun a w hS hI hp => does_val (x_bin rfl (hp.V 1 rfl rfl) (rfl) (b_neq _ _ _ _ _ _)) rfl) ?_
      refine .mv 2 rfl rfl rfl rfl ?_
      iterate 3 refine .sn 3 12 rfl rfl rfl rfl rfl ((congrArg (!·) (decide_eq_false c1))) ?_
      refine .on rfl (fun a w hS hI hp => does_val (x_pickT rfl ((hp.V 3 rfl rfl).trans (bT (congrArg (!·) (decide_eq_false c1)))) (rfl)) rfl) ?_
      exact .nil
    clear hS
    intro at7 w8 hS hI hp
    have hBw8_w := hI.1
    have hBw8_w3 := hI.2
    have hv16 : sl _ 16 = .bool true := hp 7 (by decide)
    have hBw8_w8 := Below.refl w8.heap.size w8
    have hS := hS.cons hv16
    clear hp hI hv16
    refine hK6 _ _ ?_
    (try clear hK6 K6)
    refine wp_cond_true ((hS.get 0 rfl).trans (bT rfl)) ?_
    refine wp_seq_k (fun K9 hK9 => ?_)
    refine reg_seq (N := 33) (bs := [(16, .bool true), (1, .pointer (some ⟨g4, 0, none⟩))]) (I := fun x => Below w.heap.size w x ∧ Below w3.heap.size w3 x ∧ Below w8.heap.size w8 x) (ps := [VI 0, VI 0, VB false]) (by kernel_rfl) ?_ ?_ rfl hS ⟨hBw8_w, hBw8_w3, hBw8_w8⟩ ?_ ?_
    · exact fun x y hI hb => ⟨below_step hI.1 hb, below_step hI.2.1 hb, below_step hI.2.2 hb⟩
    · exact .v (.v (.v (.nil)))
    · refine .on rfl (fun a w hS hI hp => does_val (x_assign rfl (rfl)) rfl) ?_
      iterate 2 refine .on rfl (fun a w hS hI hp => does_val (x_assign rfl (rfl)) rfl) ?_
      exact .nil
    clear hS
    intro at10 w11 hS hI hp
    have hBw11_w := hI.1
    have hBw11_w3 := hI.2.1
    have hBw11_w8 := hI.2.2
    replace hS := hS.nil
    have hv2 : sl _ 2 = .int .i64 0 := hp 0 (by decide)
    have hv3 : sl _ 3 = .int .i64 0 := hp 1 (by decide)
    have hv4 : sl _ 4 = .bool false := hp 2 (by decide)
    have hBw11_w11 := Below.refl w11.heap.size w11
    have hS := hS.cons hv2
    have hS := hS.cons hv3
    have hS := hS.cons hv4
    clear hp hI hv2 hv3 hv4
    refine hK9 _ _ ?_
    (try clear hK9 K9)
    refine wp_ret ?_
    (try simp only [Exit.then, Exit.inBlock, Exit.jump, Exit.noGoto])
    exact bodyPost_ret (v := .tuple #[.int .i64 0, .int .i64 0, .bool false]) (results_list (rs := [.tmp 2, .tmp 3, .tmp 4]) rfl (by simp) (Vals.at (hS.get 2 rfl) (Vals.at (hS.get 1 rfl) (Vals.at (hS.get 0 rfl) .nil)))) hS.nodef ⟨rfl, hBw11_w⟩
  rw [if_pos c1] at H
  obtain ⟨t7, At7, H⟩ := Option.bind_eq_some_iff.mp H
  by_cases c2 : t7 = true
  rotate_left
  · rw [if_neg c2] at H
    simp only [Option.some.injEq, Prod.mk.injEq] at H
    obtain ⟨rfl, rfl, rfl⟩ := H
    refine calls_of_wp (fn := Try.f37) (by kernel_rfl) rfl ?_
    have hS := St.enter #[.agg #[.int .i64 a0_0, .string a0_1]] 33 (by simp) [(0, .agg #[.int .i64 a0_0, .string a0_1])] (by simp)
    have HB0 := Below.refl w.heap.size w
    refine wp_seq_k (fun K1 hK1 => ?_)
    refine reg_seq (N := 33) (bs := [(0, .agg #[.int .i64 a0_0, .string a0_1])]) (I := fun x => Below w.heap.size w x) (ps := [IsB #[.int .i64 a0_0, .string a0_1] 26 w.heap.size, VI 0, VI 0, VB false]) (by kernel_rfl) ?_ ?_ rfl hS HB0 ?_ ?_
    · exact fun x y hI hb => below_step hI hb
    · exact .cons (Stays.b _ _ _) (.v (.v (.v (.nil))))
    · refine .on rfl (fun a w hS hI hp => does_var (x_box rfl (congrArg Value.cells (hS.get 0 rfl))) (hI).size) ?_
      iterate 3 refine .on rfl (fun a w hS hI hp => does_val (x_assign rfl (rfl)) rfl) ?_
      exact .nil
    clear hS
    intro at2 w3 hS hI hp
    have hBw3_w := hI
    replace hS := hS.nil
    obtain ⟨g4, hv1, hgeg4, hbxg4⟩ := (show IsB _ 26 _ (sl _ 1) _ from hp 0 (by decide))
    have hBw3_w3 := Below.refl w3.heap.size w3
    have hS := hS.cons hv1
    clear hp hI hv1
    refine hK1 _ _ ?_
    (try clear hK1 K1)
    refine wp_seq_k (fun K5 hK5 => ?_)
    refine wp_seq_k (fun K6 hK6 => ?_)
    refine reg_seq (N := 33) (bs := [(1, .pointer (some ⟨g4, 0, none⟩))]) (I := fun x => Below w.heap.size w x ∧ Below w3.heap.size w3 x) (ps := [VP g4 0, VI a0_0, VB (!decide (a0_0 = 2)), VB (!decide (a0_0 = 2)), IsV (.agg #[.int .i64 a0_0, .string a0_1]), VB t7, VB (!t7), VB (!t7)]) (by kernel_rfl) ?_ ?_ rfl hS ⟨hBw3_w, hBw3_w3⟩ ?_ ?_
    · exact fun x y hI hb => ⟨below_step hI.1 hb, below_step hI.2 hb⟩
    · exact .v (.v (.v (.v (.v (.v (.v (.v (.nil))))))))
    · refine .on rfl (fun a w hS hI hp => does_val (x_fieldE (b := 0) rfl (hS.get 0 rfl) Try.underlying26 rfl rfl (by kernel_rfl)) rfl) ?_
      refine .on rfl (fun a w hS hI hp => does_val (x_load1 (d := .int .i64) rfl (hp.V 0 rfl rfl) (by kernel_rfl) rfl ((blk_cell (((hI.2).block g4 (blk_lt hbxg4)).trans hbxg4) 0).trans rfl)) rfl) ?_
      refine .on rfl (fun a w hS hI hp => does_val (x_bin rfl (hp.V 1 rfl rfl) (rfl) (b_neq _ _ _ _ _ _)) rfl) ?_
      refine .mv 2 rfl rfl rfl rfl ?_
      refine .oy 3 12 rfl rfl rfl rfl rfl ((congrArg (!·) (decide_eq_true c1))) (fun a w hS hI hp => does_loadrow rfl (hS.get 0 rfl) (((hI.2).block g4 (blk_lt hbxg4)).trans hbxg4) Try.underlying26 rfl (by kernel_rfl) rfl) ?_
      refine .oy 3 12 rfl rfl rfl rfl rfl ((congrArg (!·) (decide_eq_true c1))) (fun a w hS hI hp => does_call (by kernel_rfl) (ar1 (hp.V 4 rfl rfl)) ((tlv_Known.calls a0_0 a0_1 t7 _  At7).mono fun _ _ h => ⟨_, h.1, h.2, rfl⟩)) ?_
      refine .oy 3 12 rfl rfl rfl rfl rfl ((congrArg (!·) (decide_eq_true c1))) (fun a w hS hI hp => does_val (x_not rfl (hp.V 5 rfl rfl)) rfl) ?_
      refine .on rfl (fun a w hS hI hp => does_val (x_pickF rfl ((hp.V 3 rfl rfl).trans (bF (congrArg (!·) (decide_eq_true c1)))) (hp.V 6 rfl rfl)) rfl) ?_
      exact .nil
    clear hS
    intro at8 w9 hS hI hp
    have hBw9_w := hI.1
    have hBw9_w3 := hI.2
    have hv16 : sl _ 16 = .bool (!t7) := hp 7 (by decide)
    have hBw9_w9 := Below.refl w9.heap.size w9
    have hS := hS.cons hv16
    clear hp hI hv16
    refine hK6 _ _ ?_
    (try clear hK6 K6)
    refine wp_cond_true ((hS.get 0 rfl).trans (bT (congrArg (!·) (Bool.eq_false_iff.2 c2)))) ?_
    refine wp_seq_k (fun K10 hK10 => ?_)
    refine reg_seq (N := 33) (bs := [(16, .bool (!t7)), (1, .pointer (some ⟨g4, 0, none⟩))]) (I := fun x => Below w.heap.size w x ∧ Below w3.heap.size w3 x ∧ Below w9.heap.size w9 x) (ps := [VI 0, VI 0, VB false]) (by kernel_rfl) ?_ ?_ rfl hS ⟨hBw9_w, hBw9_w3, hBw9_w9⟩ ?_ ?_
    · exact fun x y hI hb => ⟨below_step hI.1 hb, below_step hI.2.1 hb, below_step hI.2.2 hb⟩
    · exact .v (.v (.v (.nil)))
    · refine .on rfl (fun a w hS hI hp => does_val (x_assign rfl (rfl)) rfl) ?_
      iterate 2 refine .on rfl (fun a w hS hI hp => does_val (x_assign rfl (rfl)) rfl) ?_
      exact .nil
    clear hS
    intro at11 w12 hS hI hp
    have hBw12_w := hI.1
    have hBw12_w3 := hI.2.1
    have hBw12_w9 := hI.2.2
    replace hS := hS.nil
    have hv2 : sl _ 2 = .int .i64 0 := hp 0 (by decide)
    have hv3 : sl _ 3 = .int .i64 0 := hp 1 (by decide)
    have hv4 : sl _ 4 = .bool false := hp 2 (by decide)
    have hBw12_w12 := Below.refl w12.heap.size w12
    have hS := hS.cons hv2
    have hS := hS.cons hv3
    have hS := hS.cons hv4
    clear hp hI hv2 hv3 hv4
    refine hK10 _ _ ?_
    (try clear hK10 K10)
    refine wp_ret ?_
    (try simp only [Exit.then, Exit.inBlock, Exit.jump, Exit.noGoto])
    exact bodyPost_ret (v := .tuple #[.int .i64 0, .int .i64 0, .bool false]) (results_list (rs := [.tmp 2, .tmp 3, .tmp 4]) rfl (by simp) (Vals.at (hS.get 2 rfl) (Vals.at (hS.get 1 rfl) (Vals.at (hS.get 0 rfl) .nil)))) hS.nodef ⟨rfl, hBw12_w⟩
  rw [if_pos c2] at H
  by_cases c3 : a0_1.size ≤ 9223372036854775807
  rotate_left
  · rw [if_neg c3] at H
    exact absurd H (by simp)
  rw [if_pos c3] at H
  obtain ⟨t11, At11, H⟩ := Option.bind_eq_some_iff.mp H
  obtain ⟨t11_1, t11_2⟩ := t11
  (try dsimp only at H)
  obtain ⟨t15, At15, H⟩ := Option.bind_eq_some_iff.mp H
  obtain ⟨t15_1, t15_2⟩ := t15
  (try dsimp only at H)
  simp only [Option.some.injEq, Prod.mk.injEq] at H
  obtain ⟨rfl, rfl, rfl⟩ := H
  refine calls_of_wp (fn := Try.f37) (by kernel_rfl) rfl ?_
  have hS := St.enter #[.agg #[.int .i64 a0_0, .string a0_1]] 33 (by simp) [(0, .agg #[.int .i64 a0_0, .string a0_1])] (by simp)
  have HB0 := Below.refl w.heap.size w
  refine wp_seq_k (fun K1 hK1 => ?_)
  refine reg_seq (N := 33) (bs := [(0, .agg #[.int .i64 a0_0, .string a0_1])]) (I := fun x => Below w.heap.size w x) (ps := [IsB #[.int .i64 a0_0, .string a0_1] 26 w.heap.size, VI 0, VI 0, VB false]) (by kernel_rfl) ?_ ?_ rfl hS HB0 ?_ ?_
  · exact fun x y hI hb => below_step hI hb
  · exact .cons (Stays.b _ _ _) (.v (.v (.v (.nil))))
  · refine .on rfl (fun a w hS hI hp => does_var (x_box rfl (congrArg Value.cells (hS.get 0 rfl))) (hI).size) ?_
    iterate 3 refine .on rfl (fun a w hS hI hp => does_val (x_assign rfl (rfl)) rfl) ?_
    exact .nil
  clear hS
  intro at2 w3 hS hI hp
  have hBw3_w := hI
  replace hS := hS.nil
  obtain ⟨g4, hv1, hgeg4, hbxg4⟩ := (show IsB _ 26 _ (sl _ 1) _ from hp 0 (by decide))
  have hBw3_w3 := Below.refl w3.heap.size w3
  have hS := hS.cons hv1
  clear hp hI hv1
  refine hK1 _ _ ?_
  (try clear hK1 K1)
  refine wp_seq_k (fun K5 hK5 => ?_)
  refine wp_seq_k (fun K6 hK6 => ?_)
  refine reg_seq (N := 33) (bs := [(1, .pointer (some ⟨g4, 0, none⟩))]) (I := fun x => Below w.heap.size w x ∧ Below w3.heap.size w3 x) (ps := [VP g4 0, VI a0_0, VB (!decide (a0_0 = 2)), VB (!decide (a0_0 = 2)), IsV (.agg #[.int .i64 a0_0, .string a0_1]), VB t7, VB (!t7), VB (!t7)]) (by kernel_rfl) ?_ ?_ rfl hS ⟨hBw3_w, hBw3_w3⟩ ?_ ?_
  · exact fun x y hI hb => ⟨below_step hI.1 hb, below_step hI.2 hb⟩
  · exact .v (.v (.v (.v (.v (.v (.v (.v (.nil))))))))
  · refine .on rfl (fun a w hS hI hp => does_val (x_fieldE (b := 0) rfl (hS.get 0 rfl) Try.underlying26 rfl rfl (by kernel_rfl)) rfl) ?_
    refine .on rfl (fun a w hS hI hp => does_val (x_load1 (d := .int .i64) rfl (hp.V 0 rfl rfl) (by kernel_rfl) rfl ((blk_cell (((hI.2).block g4 (blk_lt hbxg4)).trans hbxg4) 0).trans rfl)) rfl) ?_
    refine .on rfl (fun a w hS hI hp => does_val (x_bin rfl (hp.V 1 rfl rfl) (rfl) (b_neq _ _ _ _ _ _)) rfl) ?_
    refine .mv 2 rfl rfl rfl rfl ?_
    refine .oy 3 12 rfl rfl rfl rfl rfl ((congrArg (!·) (decide_eq_true c1))) (fun a w hS hI hp => does_loadrow rfl (hS.get 0 rfl) (((hI.2).block g4 (blk_lt hbxg4)).trans hbxg4) Try.underlying26 rfl (by kernel_rfl) rfl) ?_
    refine .oy 3 12 rfl rfl rfl rfl rfl ((congrArg (!·) (decide_eq_true c1))) (fun a w hS hI hp => does_call (by kernel_rfl) (ar1 (hp.V 4 rfl rfl)) ((tlv_Known.calls a0_0 a0_1 t7 _  At7).mono fun _ _ h => ⟨_, h.1, h.2, rfl⟩)) ?_
    refine .oy 3 12 rfl rfl rfl rfl rfl ((congrArg (!·) (decide_eq_true c1))) (fun a w hS hI hp => does_val (x_not rfl (hp.V 5 rfl rfl)) rfl) ?_
    refine .on rfl (fun a w hS hI hp => does_val (x_pickF rfl ((hp.V 3 rfl rfl).trans (bF (congrArg (!·) (decide_eq_true c1)))) (hp.V 6 rfl rfl)) rfl) ?_
    exact .nil
  clear hS
  intro at8 w9 hS hI hp
  have hBw9_w := hI.1
  have hBw9_w3 := hI.2
  have hv16 : sl _ 16 = .bool (!t7) := hp 7 (by decide)
  have hBw9_w9 := Below.refl w9.heap.size w9
  have hS := hS.cons hv16
  clear hp hI hv16
  refine hK6 _ _ ?_
  (try clear hK6 K6)
  refine wp_cond_false ((hS.get 0 rfl).trans (bF (congrArg (!·) c2))) ?_
  refine wp_skip ?_
  refine hK5 _ _ ?_
  (try clear hK5 K5)
  refine wp_seq_k (fun K10 hK10 => ?_)
  refine reg_seq (N := 33) (bs := [(16, .bool (!t7)), (1, .pointer (some ⟨g4, 0, none⟩))]) (I := fun x => Below w.heap.size w x ∧ Below w3.heap.size w3 x ∧ Below w9.heap.size w9 x) (ps := [VP g4 1, IsV (.string a0_1), IsC (Kd.int .u8) (bytesOf a0_1), IsV (.tuple #[.int .i64 t11_1, .bool t11_2]), IsV (.tuple #[.int .i64 t11_1, .bool t11_2]), VI t11_1, VB t11_2, VI t11_1, VB t11_2]) (by kernel_rfl) ?_ ?_ rfl hS ⟨hBw9_w, hBw9_w3, hBw9_w9⟩ ?_ ?_
  · exact fun x y hI hb => ⟨below_step hI.1 hb, below_step hI.2.1 hb, below_step hI.2.2 hb⟩
  · exact .v (.v (.cons (Stays.c _ _) (.v (.v (.v (.v (.v (.v (.nil)))))))))
  · refine .on rfl (fun a w hS hI hp => does_val (x_fieldE (b := 0) rfl (hS.get 1 rfl) Try.underlying26 rfl rfl (by kernel_rfl)) rfl) ?_
    refine .on rfl (fun a w hS hI hp => does_val (x_load1 (d := .string) rfl (hp.V 0 rfl rfl) (by kernel_rfl) rfl ((blk_cell (((hI.2.1).block g4 (blk_lt hbxg4)).trans hbxg4) 1).trans rfl)) rfl) ?_
    refine .on rfl (fun a w hS hI hp => does_bytes (e := 5) rfl (by kernel_rfl) (by kernel_rfl) (by kernel_rfl) (hp.V 1 rfl rfl) c3) ?_
    refine .on rfl (fun a w hS hI hp => (hp.V 2 rfl rfl).elim fun A_ h_ => h_.elim fun c_ h_ => h_.elim fun hv_ h_ => h_.elim fun hl_ hc_ => does_call (by kernel_rfl) (ar3 (hv_) (rfl) (rfl)) ((octets_Get.calls k _ _ (bytesOf a0_1) 0 2 t11_1 t11_2 _ hc_ hl_ At11).mono fun _ _ h => ⟨_, h.1, h.2.below, rfl⟩)) ?_
    refine .mv 3 rfl rfl rfl rfl ?_
    iterate 2 refine .on rfl (fun a w hS hI hp => does_val (x_extract rfl (hp.V 4 rfl rfl) rfl) rfl) ?_
    refine .asg 5 rfl rfl rfl rfl ?_
    refine .asg 6 rfl rfl rfl rfl ?_
    exact .nil
  clear hS
  intro at12 w13 hS hI hp
  have hBw13_w := hI.1
  have hBw13_w3 := hI.2.1
  have hBw13_w9 := hI.2.2
  replace hS := (hS.nil).cons (hS.get 1 rfl)
  have hv5 : sl _ 5 = .int .i64 t11_1 := hp 7 (by decide)
  have hBw13_w13 := Below.refl w13.heap.size w13
  have hS := hS.cons hv5
  clear hp hI hv5
  refine hK10 _ _ ?_
  (try clear hK10 K10)
  refine wp_seq_k (fun K14 hK14 => ?_)
  refine reg_seq (N := 33) (bs := [(5, .int .i64 t11_1), (1, .pointer (some ⟨g4, 0, none⟩))]) (I := fun x => Below w.heap.size w x ∧ Below w3.heap.size w3 x ∧ Below w13.heap.size w13 x) (ps := [VP g4 1, IsV (.string a0_1), IsC (Kd.int .u8) (bytesOf a0_1), IsV (.tuple #[.int .i64 t15_1, .bool t15_2]), IsV (.tuple #[.int .i64 t15_1, .bool t15_2]), VI t15_1, VB t15_2, VI t15_1, VB t15_2]) (by kernel_rfl) ?_ ?_ rfl hS ⟨hBw13_w, hBw13_w3, hBw13_w13⟩ ?_ ?_
  · exact fun x y hI hb => ⟨below_step hI.1 hb, below_step hI.2.1 hb, below_step hI.2.2 hb⟩
  · exact .v (.v (.cons (Stays.c _ _) (.v (.v (.v (.v (.v (.v (.nil)))))))))
  · refine .on rfl (fun a w hS hI hp => does_val (x_fieldE (b := 0) rfl (hS.get 1 rfl) Try.underlying26 rfl rfl (by kernel_rfl)) rfl) ?_
    refine .on rfl (fun a w hS hI hp => does_val (x_load1 (d := .string) rfl (hp.V 0 rfl rfl) (by kernel_rfl) rfl ((blk_cell (((hI.2.1).block g4 (blk_lt hbxg4)).trans hbxg4) 1).trans rfl)) rfl) ?_
    refine .on rfl (fun a w hS hI hp => does_bytes (e := 5) rfl (by kernel_rfl) (by kernel_rfl) (by kernel_rfl) (hp.V 1 rfl rfl) c3) ?_
    refine .on rfl (fun a w hS hI hp => (hp.V 2 rfl rfl).elim fun A_ h_ => h_.elim fun c_ h_ => h_.elim fun hv_ h_ => h_.elim fun hl_ hc_ => does_call (by kernel_rfl) (ar3 (hv_) (rfl) (rfl)) ((octets_Get.calls k _ _ (bytesOf a0_1) 2 2 t15_1 t15_2 _ hc_ hl_ At15).mono fun _ _ h => ⟨_, h.1, h.2.below, rfl⟩)) ?_
    refine .mv 3 rfl rfl rfl rfl ?_
    iterate 2 refine .on rfl (fun a w hS hI hp => does_val (x_extract rfl (hp.V 4 rfl rfl) rfl) rfl) ?_
    refine .asg 5 rfl rfl rfl rfl ?_
    refine .asg 6 rfl rfl rfl rfl ?_
    exact .nil
  clear hS
  intro at16 w17 hS hI hp
  have hBw17_w := hI.1
  have hBw17_w3 := hI.2.1
  have hBw17_w13 := hI.2.2
  replace hS := (hS.nil).cons (hS.get 0 rfl)
  have hv7 : sl _ 7 = .int .i64 t15_1 := hp 7 (by decide)
  have hBw17_w17 := Below.refl w17.heap.size w17
  have hS := hS.cons hv7
  clear hp hI hv7
  refine hK14 _ _ ?_
  (try clear hK14 K14)
  refine wp_seq_k (fun K18 hK18 => ?_)
  refine reg_seq (N := 33) (bs := [(7, .int .i64 t15_1), (5, .int .i64 t11_1)]) (I := fun x => Below w.heap.size w x ∧ Below w3.heap.size w3 x ∧ Below w17.heap.size w17 x) (ps := [VI t11_1, VI t15_1, VI t11_1, VI t15_1, VB true]) (by kernel_rfl) ?_ ?_ rfl hS ⟨hBw17_w, hBw17_w3, hBw17_w17⟩ ?_ ?_
  · exact fun x y hI hb => ⟨below_step hI.1 hb, below_step hI.2.1 hb, below_step hI.2.2 hb⟩
  · exact .v (.v (.v (.v (.v (.nil)))))
  · refine .ms 1 rfl rfl rfl ?_
    refine .ms 0 rfl rfl rfl ?_
    refine .asg 0 rfl rfl rfl rfl ?_
    refine .asg 1 rfl rfl rfl rfl ?_
    refine .on rfl (fun a w hS hI hp => does_val (x_assign rfl (rfl)) rfl) ?_
    exact .nil
  clear hS
  intro at19 w20 hS hI hp
  have hBw20_w := hI.1
  have hBw20_w3 := hI.2.1
  have hBw20_w17 := hI.2.2
  replace hS := hS.nil
  have hv2 : sl _ 2 = .int .i64 t11_1 := hp 2 (by decide)
  have hv3 : sl _ 3 = .int .i64 t15_1 := hp 3 (by decide)
  have hv4 : sl _ 4 = .bool true := hp 4 (by decide)
  have hBw20_w20 := Below.refl w20.heap.size w20
  have hS := hS.cons hv2
  have hS := hS.cons hv3
  have hS := hS.cons hv4
  clear hp hI hv2 hv3 hv4
  refine hK18 _ _ ?_
  (try clear hK18 K18)
  refine wp_ret ?_
  (try simp only [Exit.then, Exit.inBlock, Exit.jump, Exit.noGoto])
  exact bodyPost_ret (v := .tuple #[.int .i64 t11_1, .int .i64 t15_1, .bool true]) (results_list (rs := [.tmp 2, .tmp 3, .tmp 4]) rfl (by simp) (Vals.at (hS.get 2 rfl) (Vals.at (hS.get 1 rfl) (Vals.at (hS.get 0 rfl) .nil)))) hS.nodef ⟨rfl, hBw20_w⟩
/-! ### carillonlaw00_SameIds: function 39 -/
def carillonlaw00_SameIds.l0 : Nat → List Int → List Int → Int → Option (Bool)
  | 0, _, _, _ => none
  | k + 1, x0, x1, x5 => if x5 < (x0.length : Int) then (if 0 ≤ x5 then (if x5 < (x1.length : Int) then (if (rd x0 x5) = (rd x1 x5) then (carillonlaw00_SameIds.l0 k x0 x1 (wrap64 (x5 + 1))) else (some false)) else (none)) else (none)) else (some true)
def carillonlaw00_SameIds.f (k : Nat) (l0 : List Int) (l1 : List Int) : Option (Bool) := if (l0.length : Int) = (l1.length : Int) then (carillonlaw00_SameIds.l0 k l0 l1 0) else (some false)
set_option maxHeartbeats 8000000 in
set_option maxRecDepth 100000 in
theorem carillonlaw00_SameIds.calls (k : Nat) (A0 : Option Addr) (c0 : Nat) (l0 : List Int) (A1 : Option Addr) (c1 : Nat) (l1 : List Int) (r : Bool) (w : World) (hr0 : Kd.C (Kd.int .u64) w A0 l0.length l0) (hc0 : l0.length ≤ c0) (hr1 : Kd.C (Kd.int .u64) w A1 l1.length l1) (hc1 : l1.length ≤ c1) (h : carillonlaw00_SameIds.f k l0 l1 = some r) :
    Calls Try.prog 39 #[.slice A0 l0.length c0, .slice A1 l1.length c1] w fun e w' => e = .returned (.bool r) ∧ Drawn0 w w' := by
  have HR0 := Aside0.mk hr0
  have HC0 := Aside0.mk hc0
  clear hr0 hc0
  have HR1 := Aside0.mk hr1
  have HC1 := Aside0.mk hc1
  clear hr1 hc1
  have H : (if (l0.length : Int) = (l1.length : Int) then (carillonlaw00_SameIds.l0 k l0 l1 0) else (some false)) = some r := h
  clear h
  by_cases c3 : (l0.length : Int) = (l1.length : Int)
  · rw [if_pos c3] at H
    have c3b0 : ((l0.length : Int) == (l1.length : Int)) = true := beq_iff_eq.mpr c3
    have c3b1 : ((l0.length : Int) != (l1.length : Int)) = false := bne_eq_false_iff_eq.mpr c3
    have c3b2 : (l0.length == l1.length) = true := by first | simpa using c3 | (simp at c3 ⊢; omega)
    clear c3
    have H' := Aside0.mk H
    clear H
    go_enter Try.func39, Try.ntmps39
    go_wp2
    repeat (go_quiet (fail); try go_wp2)
    go_loopg [5] k (fun kq v5 w' => ∃ (x5_1 : Int), v5 = .int .i64 x5_1 ∧ Aside0 (carillonlaw00_SameIds.l0 kq l0 l1 x5_1 = some r) ∧ Aside0 (kq ≤ k) ∧ Drawn0 w w')
    case atStart => exact ⟨(0), (by first | rfl | (simp; done) | (simp [*]; done)), H', ⟨Nat.le_refl _⟩, by repeat (first | exact Drawn0.refl _ | apply Drawn0.step)⟩
    case round =>
      clear H'
      try clear c1
      try clear p2
      try clear c3
      try clear c3b0
      try clear c3b1
      try clear c3b2
      obtain ⟨x5_1, rfl, HA, HK1, ⟨m1, rfl⟩⟩ := hrel
      cases gk with
      | zero => exact absurd HA.out (by simp [carillonlaw00_SameIds.l0])
      | succ k1 =>
        have H := HA.out
        clear HA
        simp only [carillonlaw00_SameIds.l0] at H
        by_cases c4 : x5_1 < (l0.length : Int)
        · rw [if_pos c4] at H
          have c4b0 : decide (x5_1 < (l0.length : Int)) = true := decide_eq_true c4
          clear c4
          by_cases c5 : 0 ≤ x5_1
          · rw [if_pos c5] at H
            have c5b0 : decide (0 ≤ x5_1) = true := decide_eq_true c5
            clear c5
            by_cases c6 : x5_1 < (l1.length : Int)
            · rw [if_pos c6] at H
              have c6b0 : decide (x5_1 < (l1.length : Int)) = true := decide_eq_true c6
              clear c6
              by_cases c7 : (rd l0 x5_1) = (rd l1 x5_1)
              · rw [if_pos c7] at H
                have c7b0 : ((rd l0 x5_1) == (rd l1 x5_1)) = true := beq_iff_eq.mpr c7
                have c7b1 : ((rd l0 x5_1) != (rd l1 x5_1)) = false := bne_eq_false_iff_eq.mpr c7
                clear c7
                have H' := Aside0.mk H
                clear H
                have p157 : 0 ≤ (x5_1 : Int) := of_decide_eq_true (by first | (with_reducible assumption) | assumption)
                have q157 : x5_1 < (l0.length : Int) := of_decide_eq_true (by first | (with_reducible assumption) | assumption)
                obtain ⟨ad157, e157, hx157_0⟩ := Kd.at_int HR0.out x5_1 p157 q157
                cases e157
                replace p157 := eq_true p157
                replace q157 := eq_true q157
                have p158 : 0 ≤ (x5_1 : Int) := of_decide_eq_true (by first | (with_reducible assumption) | assumption)
                have q158 : x5_1 < (l1.length : Int) := of_decide_eq_true (by first | (with_reducible assumption) | assumption)
                obtain ⟨ad158, e158, hx158_0⟩ := Kd.at_int HR1.out x5_1 p158 q158
                cases e158
                replace p158 := eq_true p158
                replace q158 := eq_true q158
                go_wp2
                repeat (go_quiet (fail); try go_wp2)
                go_roundg k1
                case measure => have := HK1.out; omega
                case rel => exact ⟨(wrap64 (x5_1 + 1)), (by first | rfl | (simp; done) | (simp [*]; done)), H', ⟨by have := HK1.out; omega⟩, by repeat (first | exact Drawn0.refl _ | apply Drawn0.step)⟩
              · rw [if_neg c7] at H
                have c7b0 : ((rd l0 x5_1) == (rd l1 x5_1)) = false := beq_eq_false_iff_ne.mpr c7
                have c7b1 : ((rd l0 x5_1) != (rd l1 x5_1)) = true := bne_iff_ne.mpr c7
                obtain rfl := Option.some.inj H
                have p157 : 0 ≤ (x5_1 : Int) := of_decide_eq_true (by first | (with_reducible assumption) | assumption)
                have q157 : x5_1 < (l0.length : Int) := of_decide_eq_true (by first | (with_reducible assumption) | assumption)
                obtain ⟨ad157, e157, hx157_0⟩ := Kd.at_int HR0.out x5_1 p157 q157
                cases e157
                replace p157 := eq_true p157
                replace q157 := eq_true q157
                have p158 : 0 ≤ (x5_1 : Int) := of_decide_eq_true (by first | (with_reducible assumption) | assumption)
                have q158 : x5_1 < (l1.length : Int) := of_decide_eq_true (by first | (with_reducible assumption) | assumption)
                obtain ⟨ad158, e158, hx158_0⟩ := Kd.at_int HR1.out x5_1 p158 q158
                cases e158
                replace p158 := eq_true p158
                replace q158 := eq_true q158
                go_wp2
                repeat (go_quiet (fail); try go_wp2)
                all_goals
                  go_ret
                  exact ⟨by first | rfl | (simp; done) | (simp [*]; done), by repeat (first | exact Drawn0.refl _ | apply Drawn0.step)⟩
            · rw [if_neg c6] at H
              exact absurd H (by simp)
          · rw [if_neg c5] at H
            exact absurd H (by simp)
        · rw [if_neg c4] at H
          have c4b0 : decide (x5_1 < (l0.length : Int)) = false := decide_eq_false c4
          clear c4
          obtain rfl := Option.some.inj H
          go_wp2
          repeat (go_quiet (fail); try go_wp2)
          all_goals
            go_ret
            exact ⟨by first | rfl | (simp; done) | (simp [*]; done), by repeat (first | exact Drawn0.refl _ | apply Drawn0.step)⟩
  · rw [if_neg c3] at H
    have c3b0 : ((l0.length : Int) == (l1.length : Int)) = false := beq_eq_false_iff_ne.mpr c3
    have c3b1 : ((l0.length : Int) != (l1.length : Int)) = true := bne_iff_ne.mpr c3
    have c3b2 : (l0.length == l1.length) = false := by first | simpa using c3 | (simp at c3 ⊢; omega)
    obtain rfl := Option.some.inj H
    go_enter Try.func39, Try.ntmps39
    go_wp2
    repeat (go_quiet (fail); try go_wp2)
    all_goals
      go_ret
      exact ⟨by first | rfl | (simp; done) | (simp [*]; done), by repeat (first | exact Drawn0.refl _ | apply Drawn0.step)⟩
end Go.Proofs.Ytgmiokocipmbaaa.P
