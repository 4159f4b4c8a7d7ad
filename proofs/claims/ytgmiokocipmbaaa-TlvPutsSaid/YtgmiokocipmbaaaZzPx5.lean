/- Functions and loops of the given program as Lean functions, and that the code comes to what they say: written by this session's own program; Lean checks it. -/
import Derived.Test.YtgmiokocipmbaaaZzPx0
namespace Go.Proofs.Ytgmiokocipmbaaa.P
open Go.RowKit Go.Proofs.YtgmiokocipmbaaaW.PrintWords Go.Proofs.YtgmiokocipmbaaaW.PrintLast Go.Proofs.YtgmiokocipmbaaaW.PrintMore
attribute [local go_sem] max2_int min2_int max_two min_two max_three min_three max_four min_four   -- for this text's walks alone
set_option linter.unusedVariables false
set_option linter.unusedSimpArgs false
/-! ### carillonref08_Known: function 19: by our own printer -/
def carillonref08_Known.f (a0_0 : Int) (a0_1 : ByteArray) : Option (Bool) := if (if a0_0 = 1 then decide (a0_0 = 1) else (if a0_0 = 6 then decide (a0_0 = 6) else decide (a0_0 = 7))) = true then (if (a0_1.size : Int) = 2 then (some true) else (if (a0_1.size : Int) > 2 then (some (decide (a0_0 = 1))) else (some false))) else (if a0_0 = 2 then (some (decide ((a0_1.size : Int) ≥ 8))) else (if a0_0 = 3 then (some (decide ((a0_1.size : Int) ≥ 6))) else (if a0_0 = 4 then (some (decide ((a0_1.size : Int) = 6))) else (if a0_0 = 5 then (some (decide ((a0_1.size : Int) = 8))) else (if a0_0 = 8 then (if (Int.tmod (a0_1.size : Int) 8) = 0 then (some (decide ((a0_1.size : Int) ≤ 128))) else (some false)) else (if a0_0 = 9 then (some (decide ((a0_1.size : Int) ≥ 16))) else (some (decide (a0_0 = 32776)))))))))
open Go.Proofs.Ytgmiokocipmbaaa.E in
set_option maxHeartbeats 60000000 in
set_option maxRecDepth 100000 in
theorem carillonref08_Known.calls (a0_0 : Int) (a0_1 : ByteArray) (r : Bool) (w : World) (h : carillonref08_Known.f a0_0 a0_1 = some r) :
  Calls Try.prog 19 #[.agg #[.int .i64 a0_0, .string a0_1]] w fun e w' => e = .returned (.bool r) ∧ Below w.heap.size w w' := by
 have H := h
 clear h
 unfold carillonref08_Known.f at H
 by_cases c1 : (if a0_0 = 1 then decide (a0_0 = 1) else (if a0_0 = 6 then decide (a0_0 = 6) else decide (a0_0 = 7))) = true
 ·rw [if_pos c1] at H
  by_cases c2 : (a0_1.size : Int) = 2
  ·rw [if_pos c2] at H
   obtain rfl := Option.some.inj H
   refine calls_of_wp (fn := Try.f19) (by kernel_rfl) rfl ?_
   have hS := St.enter #[.agg #[.int .i64 a0_0, .string a0_1]] 56 (by simp) [(0, .agg #[.int .i64 a0_0, .string a0_1])] (by simp)
   have HB0 := Below.refl w.heap.size w
   refine wp_seq_k (fun K1 hK1 => ?_)
   refine reg_seq (N := 56) (bs := [(0, .agg #[.int .i64 a0_0, .string a0_1])]) (I := fun x => Below w.heap.size w x) (ps := [IsB #[.int .i64 a0_0, .string a0_1] 26 w.heap.size, VB false]) (by kernel_rfl) ?_ ?_ rfl hS HB0 ?_ ?_
   ·exact fun x y hI hb => below_step hI hb
   ·exact .cons (Stays.b _ _ _) (.v (.nil))
   ·refine .on rfl (fun a w hS hI hp => does_var (x_box rfl (congrArg Value.cells (hS.get 0 rfl))) (hI).size) ?_
    refine .on rfl (fun a w hS hI hp => does_val (x_assign rfl (rfl)) rfl) ?_
    exact .nil
   clear hS
   intro at2 w3 hS hI hp
   have hBw3_w := hI
   replace hS := hS.nil
   obtain ⟨g4, hv1, hgeg4, hbxg4⟩ := (show IsB _ 26 _ (sl _ 1) _ from hp 0 (by decide))
   have hBw3_w3 := Below.refl w3.heap.size w3
   have hS := hS.cons hv1
   clear hp hI hv1
   refine hK1 _ _ ?_
   (try clear hK1 K1)
   refine wp_seq_k (fun K5 hK5 => ?_)
   refine reg_seq (N := 56) (bs := [(1, .pointer (some ⟨g4, 0, none⟩))]) (I := fun x => Below w.heap.size w x ∧ Below w3.heap.size w3 x) (ps := [VP g4 1, IsV (.string a0_1), VI (a0_1.size : Int), VI (a0_1.size : Int)]) (by kernel_rfl) ?_ ?_ rfl hS ⟨hBw3_w, hBw3_w3⟩ ?_ ?_
   ·exact fun x y hI hb => ⟨below_step hI.1 hb, below_step hI.2 hb⟩
   ·exact .v (.v (.v (.v (.nil))))
   ·refine .on rfl (fun a w hS hI hp => does_val (x_fieldE (b := 0) rfl (hS.get 0 rfl) Try.underlying26 rfl rfl (by kernel_rfl)) rfl) ?_
    refine .on rfl (fun a w hS hI hp => does_val (x_load1 (d := .string) rfl (hp.V 0 rfl rfl) (by kernel_rfl) rfl ((blk_cell (((hI.2).block g4 (blk_lt hbxg4)).trans hbxg4) 1).trans rfl)) rfl) ?_
    refine .on rfl (fun a w hS hI hp => does_val (x_lenS rfl (by kernel_rfl) (hp.V 1 rfl rfl)) rfl) ?_
    refine .asg 2 rfl rfl rfl rfl ?_
    exact .nil
   clear hS
   intro at6 w7 hS hI hp
   have hBw7_w := hI.1
   have hBw7_w3 := hI.2
   have hv3 : sl _ 3 = .int .i64 (a0_1.size : Int) := hp 3 (by decide)
   have hBw7_w7 := Below.refl w7.heap.size w7
   have hS := hS.cons hv3
   clear hp hI hv3
   refine hK5 _ _ ?_
   (try clear hK5 K5)
   refine wp_seq_k (fun K8 hK8 => ?_)
   refine wp_seq_k (fun K9 hK9 => ?_)
   refine reg_seq (N := 56) (bs := [(3, .int .i64 (a0_1.size : Int)), (1, .pointer (some ⟨g4, 0, none⟩))]) (I := fun x => Below w.heap.size w x ∧ Below w3.heap.size w3 x ∧ Below w7.heap.size w7 x) (ps := [VP g4 0, VI a0_0]) (by kernel_rfl) ?_ ?_ rfl hS ⟨hBw7_w, hBw7_w3, hBw7_w7⟩ ?_ ?_
   ·exact fun x y hI hb => ⟨below_step hI.1 hb, below_step hI.2.1 hb, below_step hI.2.2 hb⟩
   ·exact .v (.v (.nil))
   ·refine .on rfl (fun a w hS hI hp => does_val (x_fieldE (b := 0) rfl (hS.get 1 rfl) Try.underlying26 rfl rfl (by kernel_rfl)) rfl) ?_
    refine .on rfl (fun a w hS hI hp => does_val (x_load1 (d := .int .i64) rfl (hp.V 0 rfl rfl) (by kernel_rfl) rfl ((blk_cell (((hI.2.1).block g4 (blk_lt hbxg4)).trans hbxg4) 0).trans rfl)) rfl) ?_
    exact .nil
   clear hS
   intro at10 w11 hS hI hp
   have hBw11_w := hI.1
   have hBw11_w3 := hI.2.1
   have hBw11_w7 := hI.2.2
   have hv8 : sl _ 8 = .int .i64 a0_0 := hp 1 (by decide)
   have hBw11_w11 := Below.refl w11.heap.size w11
   have hS := hS.cons hv8
   clear hp hI hv8
   refine hK9 _ _ ?_
   (try clear hK9 K9)
   refine wp_block ?_
   refine wp_seq_k (fun K12 hK12 => ?_)
   refine wp_mono (Q := fun e a' w' => e = Exit.normal ∧ St 56 [(1, .pointer (some ⟨g4, 0, none⟩)), (3, .int .i64 (a0_1.size : Int)), (8, .int .i64 a0_0), (9, .bool (if a0_0 = 1 then decide (a0_0 = 1) else (if a0_0 = 6 then decide (a0_0 = 6) else decide (a0_0 = 7))))] a' ∧ Below w.heap.size w w' ∧ Below w3.heap.size w3 w' ∧ Below w11.heap.size w11 w') ?_ ?_
   ·by_cases d13_0 : a0_0 = 1
    ·refine wp_seq_k (fun K17 hK17 => ?_)
     refine reg_seq (N := 56) (bs := [(8, .int .i64 a0_0), (3, .int .i64 (a0_1.size : Int)), (1, .pointer (some ⟨g4, 0, none⟩))]) (I := fun x => Below w.heap.size w x ∧ Below w3.heap.size w3 x ∧ Below w11.heap.size w11 x) (ps := [VB (decide (a0_0 = 1)), VB (decide (a0_0 = 1))]) (by kernel_rfl) ?_ ?_ rfl hS ⟨hBw11_w, hBw11_w3, hBw11_w11⟩ ?_ ?_
     ·exact fun x y hI hb => ⟨below_step hI.1 hb, below_step hI.2.1 hb, below_step hI.2.2 hb⟩
     ·exact .v (.v (.nil))
     ·refine .on rfl (fun a w hS hI hp => does_val (x_bin rfl (hS.get 0 rfl) (rfl) (b_eql _ _ _ _ _ _)) rfl) ?_
      refine .asg 0 rfl rfl rfl rfl ?_
      exact .nil
     clear hS
     intro at18 w19 hS hI hp
     have hBw19_w := hI.1
     have hBw19_w3 := hI.2.1
     have hBw19_w11 := hI.2.2
     have hv9 : sl _ 9 = .bool (decide (a0_0 = 1)) := hp 1 (by decide)
     have hBw19_w19 := Below.refl w19.heap.size w19
     have hS := hS.cons hv9
     clear hp hI hv9
     refine hK17 _ _ ?_
     (try clear hK17 K17)
     refine wp_cond_true ((hS.get 0 rfl).trans (bT (decide_eq_true d13_0))) ?_
     refine wp_skip ?_
     (try simp only [Exit.then, Exit.inBlock, reduceIte])
     exact ⟨by trivial, ((((hS.nil).cons ((hS.get 0 rfl).trans (congrArg (Value.bool) (by simp only [if_pos d13_0])))).cons (hS.get 1 rfl)).cons (hS.get 2 rfl)).cons (hS.get 3 rfl), hBw19_w, hBw19_w3, hBw19_w11⟩
    ·by_cases d13_1 : a0_0 = 6
     ·refine wp_seq_k (fun K26 hK26 => ?_)
      refine reg_seq (N := 56) (bs := [(8, .int .i64 a0_0), (3, .int .i64 (a0_1.size : Int)), (1, .pointer (some ⟨g4, 0, none⟩))]) (I := fun x => Below w.heap.size w x ∧ Below w3.heap.size w3 x ∧ Below w11.heap.size w11 x) (ps := [VB (decide (a0_0 = 1)), VB (decide (a0_0 = 1))]) (by kernel_rfl) ?_ ?_ rfl hS ⟨hBw11_w, hBw11_w3, hBw11_w11⟩ ?_ ?_
      ·exact fun x y hI hb => ⟨below_step hI.1 hb, below_step hI.2.1 hb, below_step hI.2.2 hb⟩
      ·exact .v (.v (.nil))
      ·refine .on rfl (fun a w hS hI hp => does_val (x_bin rfl (hS.get 0 rfl) (rfl) (b_eql _ _ _ _ _ _)) rfl) ?_
       refine .asg 0 rfl rfl rfl rfl ?_
       exact .nil
      clear hS
      intro at27 w28 hS hI hp
      have hBw28_w := hI.1
      have hBw28_w3 := hI.2.1
      have hBw28_w11 := hI.2.2
      have hv9 : sl _ 9 = .bool (decide (a0_0 = 1)) := hp 1 (by decide)
      have hBw28_w28 := Below.refl w28.heap.size w28
      have hS := hS.cons hv9
      clear hp hI hv9
      refine hK26 _ _ ?_
      (try clear hK26 K26)
      refine wp_cond_false ((hS.get 0 rfl).trans (bF (decide_eq_false d13_0))) ?_
      refine wp_seq_k (fun K29 hK29 => ?_)
      replace hS := (((hS.nil).cons (hS.get 3 rfl)).cons (hS.get 2 rfl)).cons (hS.get 1 rfl)
      refine reg_seq (N := 56) (bs := [(8, .int .i64 a0_0), (3, .int .i64 (a0_1.size : Int)), (1, .pointer (some ⟨g4, 0, none⟩))]) (I := fun x => Below w.heap.size w x ∧ Below w3.heap.size w3 x ∧ Below w11.heap.size w11 x ∧ Below w28.heap.size w28 x) (ps := [VB (decide (a0_0 = 6)), VB (decide (a0_0 = 6))]) (by kernel_rfl) ?_ ?_ rfl hS ⟨hBw28_w, hBw28_w3, hBw28_w11, hBw28_w28⟩ ?_ ?_
      ·exact fun x y hI hb => ⟨below_step hI.1 hb, below_step hI.2.1 hb, below_step hI.2.2.1 hb, below_step hI.2.2.2 hb⟩
      ·exact .v (.v (.nil))
      ·refine .on rfl (fun a w hS hI hp => does_val (x_bin rfl (hS.get 0 rfl) (rfl) (b_eql _ _ _ _ _ _)) rfl) ?_
       refine .asg 0 rfl rfl rfl rfl ?_
       exact .nil
      clear hS
      intro at30 w31 hS hI hp
      have hBw31_w := hI.1
      have hBw31_w3 := hI.2.1
      have hBw31_w11 := hI.2.2.1
      have hBw31_w28 := hI.2.2.2
      have hv9 : sl _ 9 = .bool (decide (a0_0 = 6)) := hp 1 (by decide)
      have hBw31_w31 := Below.refl w31.heap.size w31
      have hS := hS.cons hv9
      clear hp hI hv9
      refine hK29 _ _ ?_
      (try clear hK29 K29)
      refine wp_cond_true ((hS.get 0 rfl).trans (bT (decide_eq_true d13_1))) ?_
      refine wp_skip ?_
      (try simp only [Exit.then, Exit.inBlock, reduceIte])
      exact ⟨by trivial, ((((hS.nil).cons ((hS.get 0 rfl).trans (congrArg (Value.bool) (by simp only [if_neg d13_0, if_pos d13_1])))).cons (hS.get 1 rfl)).cons (hS.get 2 rfl)).cons (hS.get 3 rfl), hBw31_w, hBw31_w3, hBw31_w11⟩
     ·refine wp_seq_k (fun K32 hK32 => ?_)
      refine reg_seq (N := 56) (bs := [(8, .int .i64 a0_0), (3, .int .i64 (a0_1.size : Int)), (1, .pointer (some ⟨g4, 0, none⟩))]) (I := fun x => Below w.heap.size w x ∧ Below w3.heap.size w3 x ∧ Below w11.heap.size w11 x) (ps := [VB (decide (a0_0 = 1)), VB (decide (a0_0 = 1))]) (by kernel_rfl) ?_ ?_ rfl hS ⟨hBw11_w, hBw11_w3, hBw11_w11⟩ ?_ ?_
      ·exact fun x y hI hb => ⟨below_step hI.1 hb, below_step hI.2.1 hb, below_step hI.2.2 hb⟩
      ·exact .v (.v (.nil))
      ·refine .on rfl (fun a w hS hI hp => does_val (x_bin rfl (hS.get 0 rfl) (rfl) (b_eql _ _ _ _ _ _)) rfl) ?_
       refine .asg 0 rfl rfl rfl rfl ?_
       exact .nil
      clear hS
      intro at33 w34 hS hI hp
      have hBw34_w := hI.1
      have hBw34_w3 := hI.2.1
      have hBw34_w11 := hI.2.2
      have hv9 : sl _ 9 = .bool (decide (a0_0 = 1)) := hp 1 (by decide)
      have hBw34_w34 := Below.refl w34.heap.size w34
      have hS := hS.cons hv9
      clear hp hI hv9
      refine hK32 _ _ ?_
      (try clear hK32 K32)
      refine wp_cond_false ((hS.get 0 rfl).trans (bF (decide_eq_false d13_0))) ?_
      refine wp_seq_k (fun K35 hK35 => ?_)
      replace hS := (((hS.nil).cons (hS.get 3 rfl)).cons (hS.get 2 rfl)).cons (hS.get 1 rfl)
      refine reg_seq (N := 56) (bs := [(8, .int .i64 a0_0), (3, .int .i64 (a0_1.size : Int)), (1, .pointer (some ⟨g4, 0, none⟩))]) (I := fun x => Below w.heap.size w x ∧ Below w3.heap.size w3 x ∧ Below w11.heap.size w11 x ∧ Below w34.heap.size w34 x) (ps := [VB (decide (a0_0 = 6)), VB (decide (a0_0 = 6))]) (by kernel_rfl) ?_ ?_ rfl hS ⟨hBw34_w, hBw34_w3, hBw34_w11, hBw34_w34⟩ ?_ ?_
      ·exact fun x y hI hb => ⟨below_step hI.1 hb, below_step hI.2.1 hb, below_step hI.2.2.1 hb, below_step hI.2.2.2 hb⟩
      ·exact .v (.v (.nil))
      ·refine .on rfl (fun a w hS hI hp => does_val (x_bin rfl (hS.get 0 rfl) (rfl) (b_eql _ _ _ _ _ _)) rfl) ?_
       refine .asg 0 rfl rfl rfl rfl ?_
       exact .nil
      clear hS
      intro at36 w37 hS hI hp
      have hBw37_w := hI.1
      have hBw37_w3 := hI.2.1
      have hBw37_w11 := hI.2.2.1
      have hBw37_w34 := hI.2.2.2
      have hv9 : sl _ 9 = .bool (decide (a0_0 = 6)) := hp 1 (by decide)
      have hBw37_w37 := Below.refl w37.heap.size w37
      have hS := hS.cons hv9
      clear hp hI hv9
      refine hK35 _ _ ?_
      (try clear hK35 K35)
      refine wp_cond_false ((hS.get 0 rfl).trans (bF (decide_eq_false d13_1))) ?_
      replace hS := (((hS.nil).cons (hS.get 3 rfl)).cons (hS.get 2 rfl)).cons (hS.get 1 rfl)
      refine reg_seq (N := 56) (bs := [(8, .int .i64 a0_0), (3, .int .i64 (a0_1.size : Int)), (1, .pointer (some ⟨g4, 0, none⟩))]) (I := fun x => Below w.heap.size w x ∧ Below w3.heap.size w3 x ∧ Below w11.heap.size w11 x ∧ Below w37.heap.size w37 x) (ps := [VB (decide (a0_0 = 7)), VB (decide (a0_0 = 7))]) (by kernel_rfl) ?_ ?_ rfl hS ⟨hBw37_w, hBw37_w3, hBw37_w11, hBw37_w37⟩ ?_ ?_
      ·exact fun x y hI hb => ⟨below_step hI.1 hb, below_step hI.2.1 hb, below_step hI.2.2.1 hb, below_step hI.2.2.2 hb⟩
      ·exact .v (.v (.nil))
      ·refine .on rfl (fun a w hS hI hp => does_val (x_bin rfl (hS.get 0 rfl) (rfl) (b_eql _ _ _ _ _ _)) rfl) ?_
       refine .asg 0 rfl rfl rfl rfl ?_
       exact .nil
      clear hS
      intro at38 w39 hS hI hp
      have hBw39_w := hI.1
      have hBw39_w3 := hI.2.1
      have hBw39_w11 := hI.2.2.1
      have hBw39_w37 := hI.2.2.2
      have hv9 : sl _ 9 = .bool (decide (a0_0 = 7)) := hp 1 (by decide)
      have hBw39_w39 := Below.refl w39.heap.size w39
      have hS := hS.cons hv9
      clear hp hI hv9
      (try simp only [Exit.then, Exit.inBlock, reduceIte])
      exact ⟨by trivial, ((((hS.nil).cons ((hS.get 0 rfl).trans (congrArg (Value.bool) (by simp only [if_neg d13_0, if_neg d13_1])))).cons (hS.get 1 rfl)).cons (hS.get 2 rfl)).cons (hS.get 3 rfl), hBw39_w, hBw39_w3, hBw39_w11⟩
   rintro e41 at41 w40 ⟨rfl, hS, hBw40_w, hBw40_w3, hBw40_w11⟩
   have hBw40_w40 := Below.refl w40.heap.size w40
   (try simp only [Exit.then, Exit.inBlock, reduceIte])
   refine hK12 _ _ ?_
   (try clear hK12 K12)
   refine wp_cond_true ((hS.get 3 rfl).trans (bT c1)) ?_
   refine wp_seq_k (fun K42 hK42 => ?_)
   refine reg_seq (N := 56) (bs := [(1, .pointer (some ⟨g4, 0, none⟩)), (3, .int .i64 (a0_1.size : Int)), (8, .int .i64 a0_0), (9, .bool (if a0_0 = 1 then decide (a0_0 = 1) else (if a0_0 = 6 then decide (a0_0 = 6) else decide (a0_0 = 7))))]) (I := fun x => Below w.heap.size w x ∧ Below w3.heap.size w3 x ∧ Below w40.heap.size w40 x) (ps := [VI (a0_1.size : Int), VB (decide ((a0_1.size : Int) = 2)), VB (decide ((a0_1.size : Int) = 2)), VU, VU, VU, VU, VU, VU, VU, VB true, VB true]) (by kernel_rfl) ?_ ?_ rfl hS ⟨hBw40_w, hBw40_w3, hBw40_w40⟩ ?_ ?_
   ·exact fun x y hI hb => ⟨below_step hI.1 hb, below_step hI.2.1 hb, below_step hI.2.2 hb⟩
   ·exact .v (.v (.v (.v (.v (.v (.v (.v (.v (.v (.v (.v (.nil))))))))))))
   ·refine .ms 1 rfl rfl rfl ?_
    refine .on rfl (fun a w hS hI hp => does_val (x_bin rfl (hp.V 0 rfl rfl) (rfl) (b_eql _ _ _ _ _ _)) rfl) ?_
    refine .mv 1 rfl rfl rfl rfl ?_
    iterate 3 refine .sn 2 15 rfl rfl rfl rfl rfl ((decide_eq_true c2)) ?_
    iterate 3 refine .of (fun a w hS hI hp => ok_u (d := 18) hS rfl rfl rfl (hp.V 5 rfl rfl) rfl) ?_
    refine .sn 2 15 rfl rfl rfl rfl rfl ((decide_eq_true c2)) ?_
    refine .on rfl (fun a w hS hI hp => does_val (x_pickT rfl ((hp.V 2 rfl rfl).trans (bT (decide_eq_true c2))) (rfl)) rfl) ?_
    refine .asg 10 rfl rfl rfl rfl ?_
    exact .nil
   clear hS
   intro at43 w44 hS hI hp
   have hBw44_w := hI.1
   have hBw44_w3 := hI.2.1
   have hBw44_w40 := hI.2.2
   replace hS := hS.nil
   have hv2 : sl _ 2 = .bool true := hp 11 (by decide)
   have hBw44_w44 := Below.refl w44.heap.size w44
   have hS := hS.cons hv2
   clear hp hI hv2
   refine hK42 _ _ ?_
   (try clear hK42 K42)
   refine wp_ret ?_
   (try simp only [Exit.then, Exit.inBlock, Exit.jump, Exit.noGoto])
   exact bodyPost_ret (v := .bool true) (results_single rfl (Vals.at (hS.get 0 rfl) .nil)) hS.nodef ⟨rfl, hBw44_w⟩
  rw [if_neg c2] at H
  by_cases c3 : (a0_1.size : Int) > 2
  ·rw [if_pos c3] at H
   obtain rfl := Option.some.inj H
   refine calls_of_wp (fn := Try.f19) (by kernel_rfl) rfl ?_
   have hS := St.enter #[.agg #[.int .i64 a0_0, .string a0_1]] 56 (by simp) [(0, .agg #[.int .i64 a0_0, .string a0_1])] (by simp)
   have HB0 := Below.refl w.heap.size w
   refine wp_seq_k (fun K1 hK1 => ?_)
   refine reg_seq (N := 56) (bs := [(0, .agg #[.int .i64 a0_0, .string a0_1])]) (I := fun x => Below w.heap.size w x) (ps := [IsB #[.int .i64 a0_0, .string a0_1] 26 w.heap.size, VB false]) (by kernel_rfl) ?_ ?_ rfl hS HB0 ?_ ?_
   ·exact fun x y hI hb => below_step hI hb
   ·exact .cons (Stays.b _ _ _) (.v (.nil))
   ·refine .on rfl (fun a w hS hI hp => does_var (x_box rfl (congrArg Value.cells (hS.get 0 rfl))) (hI).size) ?_
    refine .on rfl (fun a w hS hI hp => does_val (x_assign rfl (rfl)) rfl) ?_
    exact .nil
   clear hS
   intro at2 w3 hS hI hp
   have hBw3_w := hI
   replace hS := hS.nil
   obtain ⟨g4, hv1, hgeg4, hbxg4⟩ := (show IsB _ 26 _ (sl _ 1) _ from hp 0 (by decide))
   have hBw3_w3 := Below.refl w3.heap.size w3
   have hS := hS.cons hv1
   clear hp hI hv1
   refine hK1 _ _ ?_
   (try clear hK1 K1)
   refine wp_seq_k (fun K5 hK5 => ?_)
   refine reg_seq (N := 56) (bs := [(1, .pointer (some ⟨g4, 0, none⟩))]) (I := fun x => Below w.heap.size w x ∧ Below w3.heap.size w3 x) (ps := [VP g4 1, IsV (.string a0_1), VI (a0_1.size : Int), VI (a0_1.size : Int)]) (by kernel_rfl) ?_ ?_ rfl hS ⟨hBw3_w, hBw3_w3⟩ ?_ ?_
   ·exact fun x y hI hb => ⟨below_step hI.1 hb, below_step hI.2 hb⟩
   ·exact .v (.v (.v (.v (.nil))))
   ·refine .on rfl (fun a w hS hI hp => does_val (x_fieldE (b := 0) rfl (hS.get 0 rfl) Try.underlying26 rfl rfl (by kernel_rfl)) rfl) ?_
    refine .on rfl (fun a w hS hI hp => does_val (x_load1 (d := .string) rfl (hp.V 0 rfl rfl) (by kernel_rfl) rfl ((blk_cell (((hI.2).block g4 (blk_lt hbxg4)).trans hbxg4) 1).trans rfl)) rfl) ?_
    refine .on rfl (fun a w hS hI hp => does_val (x_lenS rfl (by kernel_rfl) (hp.V 1 rfl rfl)) rfl) ?_
    refine .asg 2 rfl rfl rfl rfl ?_
    exact .nil
   clear hS
   intro at6 w7 hS hI hp
   have hBw7_w := hI.1
   have hBw7_w3 := hI.2
   have hv3 : sl _ 3 = .int .i64 (a0_1.size : Int) := hp 3 (by decide)
   have hBw7_w7 := Below.refl w7.heap.size w7
   have hS := hS.cons hv3
   clear hp hI hv3
   refine hK5 _ _ ?_
   (try clear hK5 K5)
   refine wp_seq_k (fun K8 hK8 => ?_)
   refine wp_seq_k (fun K9 hK9 => ?_)
   refine reg_seq (N := 56) (bs := [(3, .int .i64 (a0_1.size : Int)), (1, .pointer (some ⟨g4, 0, none⟩))]) (I := fun x => Below w.heap.size w x ∧ Below w3.heap.size w3 x ∧ Below w7.heap.size w7 x) (ps := [VP g4 0, VI a0_0]) (by kernel_rfl) ?_ ?_ rfl hS ⟨hBw7_w, hBw7_w3, hBw7_w7⟩ ?_ ?_
   ·exact fun x y hI hb => ⟨below_step hI.1 hb, below_step hI.2.1 hb, below_step hI.2.2 hb⟩
   ·exact .v (.v (.nil))
   ·refine .on rfl (fun a w hS hI hp => does_val (x_fieldE (b := 0) rfl (hS.get 1 rfl) Try.underlying26 rfl rfl (by kernel_rfl)) rfl) ?_
    refine .on rfl (fun a w hS hI hp => does_val (x_load1 (d := .int .i64) rfl (hp.V 0 rfl rfl) (by kernel_rfl) rfl ((blk_cell (((hI.2.1).block g4 (blk_lt hbxg4)).trans hbxg4) 0).trans rfl)) rfl) ?_
    exact .nil
   clear hS
   intro at10 w11 hS hI hp
   have hBw11_w := hI.1
   have hBw11_w3 := hI.2.1
   have hBw11_w7 := hI.2.2
   have hv8 : sl _ 8 = .int .i64 a0_0 := hp 1 (by decide)
   have hBw11_w11 := Below.refl w11.heap.size w11
   have hS := hS.cons hv8
   clear hp hI hv8
   refine hK9 _ _ ?_
   (try clear hK9 K9)
   refine wp_block ?_
   refine wp_seq_k (fun K12 hK12 => ?_)
   refine wp_mono (Q := fun e a' w' => e = Exit.normal ∧ St 56 [(1, .pointer (some ⟨g4, 0, none⟩)), (3, .int .i64 (a0_1.size : Int)), (8, .int .i64 a0_0), (9, .bool (if a0_0 = 1 then decide (a0_0 = 1) else (if a0_0 = 6 then decide (a0_0 = 6) else decide (a0_0 = 7))))] a' ∧ Below w.heap.size w w' ∧ Below w3.heap.size w3 w' ∧ Below w11.heap.size w11 w') ?_ ?_
   ·by_cases d13_0 : a0_0 = 1
    ·refine wp_seq_k (fun K17 hK17 => ?_)
     refine reg_seq (N := 56) (bs := [(8, .int .i64 a0_0), (3, .int .i64 (a0_1.size : Int)), (1, .pointer (some ⟨g4, 0, none⟩))]) (I := fun x => Below w.heap.size w x ∧ Below w3.heap.size w3 x ∧ Below w11.heap.size w11 x) (ps := [VB (decide (a0_0 = 1)), VB (decide (a0_0 = 1))]) (by kernel_rfl) ?_ ?_ rfl hS ⟨hBw11_w, hBw11_w3, hBw11_w11⟩ ?_ ?_
     ·exact fun x y hI hb => ⟨below_step hI.1 hb, below_step hI.2.1 hb, below_step hI.2.2 hb⟩
     ·exact .v (.v (.nil))
     ·refine .on rfl (fun a w hS hI hp => does_val (x_bin rfl (hS.get 0 rfl) (rfl) (b_eql _ _ _ _ _ _)) rfl) ?_
      refine .asg 0 rfl rfl rfl rfl ?_
      exact .nil
     clear hS
     intro at18 w19 hS hI hp
     have hBw19_w := hI.1
     have hBw19_w3 := hI.2.1
     have hBw19_w11 := hI.2.2
     have hv9 : sl _ 9 = .bool (decide (a0_0 = 1)) := hp 1 (by decide)
     have hBw19_w19 := Below.refl w19.heap.size w19
     have hS := hS.cons hv9
     clear hp hI hv9
     refine hK17 _ _ ?_
     (try clear hK17 K17)
     refine wp_cond_true ((hS.get 0 rfl).trans (bT (decide_eq_true d13_0))) ?_
     refine wp_skip ?_
     (try simp only [Exit.then, Exit.inBlock, reduceIte])
     exact ⟨by trivial, ((((hS.nil).cons ((hS.get 0 rfl).trans (congrArg (Value.bool) (by simp only [if_pos d13_0])))).cons (hS.get 1 rfl)).cons (hS.get 2 rfl)).cons (hS.get 3 rfl), hBw19_w, hBw19_w3, hBw19_w11⟩
    ·by_cases d13_1 : a0_0 = 6
     ·refine wp_seq_k (fun K26 hK26 => ?_)
      refine reg_seq (N := 56) (bs := [(8, .int .i64 a0_0), (3, .int .i64 (a0_1.size : Int)), (1, .pointer (some ⟨g4, 0, none⟩))]) (I := fun x => Below w.heap.size w x ∧ Below w3.heap.size w3 x ∧ Below w11.heap.size w11 x) (ps := [VB (decide (a0_0 = 1)), VB (decide (a0_0 = 1))]) (by kernel_rfl) ?_ ?_ rfl hS ⟨hBw11_w, hBw11_w3, hBw11_w11⟩ ?_ ?_
      ·exact fun x y hI hb => ⟨below_step hI.1 hb, below_step hI.2.1 hb, below_step hI.2.2 hb⟩
      ·exact .v (.v (.nil))
      ·refine .on rfl (fun a w hS hI hp => does_val (x_bin rfl (hS.get 0 rfl) (rfl) (b_eql _ _ _ _ _ _)) rfl) ?_
       refine .asg 0 rfl rfl rfl rfl ?_
       exact .nil
      clear hS
      intro at27 w28 hS hI hp
      have hBw28_w := hI.1
      have hBw28_w3 := hI.2.1
      have hBw28_w11 := hI.2.2
      have hv9 : sl _ 9 = .bool (decide (a0_0 = 1)) := hp 1 (by decide)
      have hBw28_w28 := Below.refl w28.heap.size w28
      have hS := hS.cons hv9
      clear hp hI hv9
      refine hK26 _ _ ?_
      (try clear hK26 K26)
      refine wp_cond_false ((hS.get 0 rfl).trans (bF (decide_eq_false d13_0))) ?_
      refine wp_seq_k (fun K29 hK29 => ?_)
      replace hS := (((hS.nil).cons (hS.get 3 rfl)).cons (hS.get 2 rfl)).cons (hS.get 1 rfl)
      refine reg_seq (N := 56) (bs := [(8, .int .i64 a0_0), (3, .int .i64 (a0_1.size : Int)), (1, .pointer (some ⟨g4, 0, none⟩))]) (I := fun x => Below w.heap.size w x ∧ Below w3.heap.size w3 x ∧ Below w11.heap.size w11 x ∧ Below w28.heap.size w28 x) (ps := [VB (decide (a0_0 = 6)), VB (decide (a0_0 = 6))]) (by kernel_rfl) ?_ ?_ rfl hS ⟨hBw28_w, hBw28_w3, hBw28_w11, hBw28_w28⟩ ?_ ?_
      ·exact fun x y hI hb => ⟨below_step hI.1 hb, below_step hI.2.1 hb, below_step hI.2.2.1 hb, below_step hI.2.2.2 hb⟩
      ·exact .v (.v (.nil))
      ·refine .on rfl (fun a w hS hI hp => does_val (x_bin rfl (hS.get 0 rfl) (rfl) (b_eql _ _ _ _ _ _)) rfl) ?_
       refine .asg 0 rfl rfl rfl rfl ?_
       exact .nil
      clear hS
      intro at30 w31 hS hI hp
      have hBw31_w := hI.1
      have hBw31_w3 := hI.2.1
      have hBw31_w11 := hI.2.2.1
      have hBw31_w28 := hI.2.2.2
      have hv9 : sl _ 9 = .bool (decide (a0_0 = 6)) := hp 1 (by decide)
      have hBw31_w31 := Below.refl w31.heap.size w31
      have hS := hS.cons hv9
      clear hp hI hv9
      refine hK29 _ _ ?_
      (try clear hK29 K29)
      refine wp_cond_true ((hS.get 0 rfl).trans (bT (decide_eq_true d13_1))) ?_
      refine wp_skip ?_
      (try simp only [Exit.then, Exit.inBlock, reduceIte])
      exact ⟨by trivial, ((((hS.nil).cons ((hS.get 0 rfl).trans (congrArg (Value.bool) (by simp only [if_neg d13_0, if_pos d13_1])))).cons (hS.get 1 rfl)).cons (hS.get 2 rfl)).cons (hS.get 3 rfl), hBw31_w, hBw31_w3, hBw31_w11⟩
     ·refine wp_seq_k (fun K32 hK32 => ?_)
      refine reg_seq (N := 56) (bs := [(8, .int .i64 a0_0), (3, .int .i64 (a0_1.size : Int)), (1, .pointer (some ⟨g4, 0, none⟩))]) (I := fun x => Below w.heap.size w x ∧ Below w3.heap.size w3 x ∧ Below w11.heap.size w11 x) (ps := [VB (decide (a0_0 = 1)), VB (decide (a0_0 = 1))]) (by kernel_rfl) ?_ ?_ rfl hS ⟨hBw11_w, hBw11_w3, hBw11_w11⟩ ?_ ?_
      ·exact fun x y hI hb => ⟨below_step hI.1 hb, below_step hI.2.1 hb, below_step hI.2.2 hb⟩
      ·exact .v (.v (.nil))
      ·refine .on rfl (fun a w hS hI hp => does_val (x_bin rfl (hS.get 0 rfl) (rfl) (b_eql _ _ _ _ _ _)) rfl) ?_
       refine .asg 0 rfl rfl rfl rfl ?_
       exact .nil
      clear hS
      intro at33 w34 hS hI hp
      have hBw34_w := hI.1
      have hBw34_w3 := hI.2.1
      have hBw34_w11 := hI.2.2
      have hv9 : sl _ 9 = .bool (decide (a0_0 = 1)) := hp 1 (by decide)
      have hBw34_w34 := Below.refl w34.heap.size w34
      have hS := hS.cons hv9
      clear hp hI hv9
      refine hK32 _ _ ?_
      (try clear hK32 K32)
      refine wp_cond_false ((hS.get 0 rfl).trans (bF (decide_eq_false d13_0))) ?_
      refine wp_seq_k (fun K35 hK35 => ?_)
      replace hS := (((hS.nil).cons (hS.get 3 rfl)).cons (hS.get 2 rfl)).cons (hS.get 1 rfl)
      refine reg_seq (N := 56) (bs := [(8, .int .i64 a0_0), (3, .int .i64 (a0_1.size : Int)), (1, .pointer (some ⟨g4, 0, none⟩))]) (I := fun x => Below w.heap.size w x ∧ Below w3.heap.size w3 x ∧ Below w11.heap.size w11 x ∧ Below w34.heap.size w34 x) (ps := [VB (decide (a0_0 = 6)), VB (decide (a0_0 = 6))]) (by kernel_rfl) ?_ ?_ rfl hS ⟨hBw34_w, hBw34_w3, hBw34_w11, hBw34_w34⟩ ?_ ?_
      ·exact fun x y hI hb => ⟨below_step hI.1 hb, below_step hI.2.1 hb, below_step hI.2.2.1 hb, below_step hI.2.2.2 hb⟩
      ·exact .v (.v (.nil))
      ·refine .on rfl (fun a w hS hI hp => does_val (x_bin rfl (hS.get 0 rfl) (rfl) (b_eql _ _ _ _ _ _)) rfl) ?_
       refine .asg 0 rfl rfl rfl rfl ?_
       exact .nil
      clear hS
      intro at36 w37 hS hI hp
      have hBw37_w := hI.1
      have hBw37_w3 := hI.2.1
      have hBw37_w11 := hI.2.2.1
      have hBw37_w34 := hI.2.2.2
      have hv9 : sl _ 9 = .bool (decide (a0_0 = 6)) := hp 1 (by decide)
      have hBw37_w37 := Below.refl w37.heap.size w37
      have hS := hS.cons hv9
      clear hp hI hv9
      refine hK35 _ _ ?_
      (try clear hK35 K35)
      refine wp_cond_false ((hS.get 0 rfl).trans (bF (decide_eq_false d13_1))) ?_
      replace hS := (((hS.nil).cons (hS.get 3 rfl)).cons (hS.get 2 rfl)).cons (hS.get 1 rfl)
      refine reg_seq (N := 56) (bs := [(8, .int .i64 a0_0), (3, .int .i64 (a0_1.size : Int)), (1, .pointer (some ⟨g4, 0, none⟩))]) (I := fun x => Below w.heap.size w x ∧ Below w3.heap.size w3 x ∧ Below w11.heap.size w11 x ∧ Below w37.heap.size w37 x) (ps := [VB (decide (a0_0 = 7)), VB (decide (a0_0 = 7))]) (by kernel_rfl) ?_ ?_ rfl hS ⟨hBw37_w, hBw37_w3, hBw37_w11, hBw37_w37⟩ ?_ ?_
      ·exact fun x y hI hb => ⟨below_step hI.1 hb, below_step hI.2.1 hb, below_step hI.2.2.1 hb, below_step hI.2.2.2 hb⟩
      ·exact .v (.v (.nil))
      ·refine .on rfl (fun a w hS hI hp => does_val (x_bin rfl (hS.get 0 rfl) (rfl) (b_eql _ _ _ _ _ _)) rfl) ?_
       refine .asg 0 rfl rfl rfl rfl ?_
       exact .nil
      clear hS
      intro at38 w39 hS hI hp
      have hBw39_w := hI.1
      have hBw39_w3 := hI.2.1
      have hBw39_w11 := hI.2.2.1
      have hBw39_w37 := hI.2.2.2
      have hv9 : sl _ 9 = .bool (decide (a0_0 = 7)) := hp 1 (by decide)
      have hBw39_w39 := Below.refl w39.heap.size w39
      have hS := hS.cons hv9
      clear hp hI hv9
      (try simp only [Exit.then, Exit.inBlock, reduceIte])
      exact ⟨by trivial, ((((hS.nil).cons ((hS.get 0 rfl).trans (congrArg (Value.bool) (by simp only [if_neg d13_0, if_neg d13_1])))).cons (hS.get 1 rfl)).cons (hS.get 2 rfl)).cons (hS.get 3 rfl), hBw39_w, hBw39_w3, hBw39_w11⟩
   rintro e41 at41 w40 ⟨rfl, hS, hBw40_w, hBw40_w3, hBw40_w11⟩
   have hBw40_w40 := Below.refl w40.heap.size w40
   (try simp only [Exit.then, Exit.inBlock, reduceIte])
   refine hK12 _ _ ?_
   (try clear hK12 K12)
   refine wp_cond_true ((hS.get 3 rfl).trans (bT c1)) ?_
   refine wp_seq_k (fun K42 hK42 => ?_)
   refine reg_seq (N := 56) (bs := [(1, .pointer (some ⟨g4, 0, none⟩)), (3, .int .i64 (a0_1.size : Int)), (8, .int .i64 a0_0), (9, .bool (if a0_0 = 1 then decide (a0_0 = 1) else (if a0_0 = 6 then decide (a0_0 = 6) else decide (a0_0 = 7))))]) (I := fun x => Below w.heap.size w x ∧ Below w3.heap.size w3 x ∧ Below w40.heap.size w40 x) (ps := [VI (a0_1.size : Int), VB (decide ((a0_1.size : Int) = 2)), VB (decide ((a0_1.size : Int) = 2)), VI (a0_1.size : Int), VB (decide ((a0_1.size : Int) > 2)), VB (decide ((a0_1.size : Int) > 2)), VP g4 0, VI a0_0, VB (decide (a0_0 = 1)), VB (decide (a0_0 = 1)), VB (decide (a0_0 = 1)), VB (decide (a0_0 = 1))]) (by kernel_rfl) ?_ ?_ rfl hS ⟨hBw40_w, hBw40_w3, hBw40_w40⟩ ?_ ?_
   ·exact fun x y hI hb => ⟨below_step hI.1 hb, below_step hI.2.1 hb, below_step hI.2.2 hb⟩
   ·exact .v (.v (.v (.v (.v (.v (.v (.v (.v (.v (.v (.v (.nil))))))))))))
   ·refine .ms 1 rfl rfl rfl ?_
    refine .on rfl (fun a w hS hI hp => does_val (x_bin rfl (hp.V 0 rfl rfl) (rfl) (b_eql _ _ _ _ _ _)) rfl) ?_
    refine .mv 1 rfl rfl rfl rfl ?_
    refine .oy 2 15 rfl rfl rfl rfl rfl ((decide_eq_false c2)) (fun a w hS hI hp => does_val (x_move rfl (hS.get 1 rfl)) rfl) ?_
    refine .oy 2 15 rfl rfl rfl rfl rfl ((decide_eq_false c2)) (fun a w hS hI hp => does_val (x_bin rfl (hp.V 3 rfl rfl) (rfl) (b_gtr _ _ _ _ _ _)) rfl) ?_
    refine .oy 2 15 rfl rfl rfl rfl rfl ((decide_eq_false c2)) (fun a w hS hI hp => does_val (x_move rfl (hp.V 4 rfl rfl)) rfl) ?_
    refine .oy 5 18 rfl rfl rfl rfl rfl ((decide_eq_true c3)) (fun a w hS hI hp => does_val (x_fieldE (b := 0) rfl (hS.get 0 rfl) Try.underlying26 rfl rfl (by kernel_rfl)) rfl) ?_
    refine .oy 5 18 rfl rfl rfl rfl rfl ((decide_eq_true c3)) (fun a w hS hI hp => does_val (x_load1 (d := .int .i64) rfl (hp.V 6 rfl rfl) (by kernel_rfl) rfl ((blk_cell (((hI.2.1).block g4 (blk_lt hbxg4)).trans hbxg4) 0).trans rfl)) rfl) ?_
    refine .oy 5 18 rfl rfl rfl rfl rfl ((decide_eq_true c3)) (fun a w hS hI hp => does_val (x_bin rfl (hp.V 7 rfl rfl) (rfl) (b_eql _ _ _ _ _ _)) rfl) ?_
    refine .oy 2 15 rfl rfl rfl rfl rfl ((decide_eq_false c2)) (fun a w hS hI hp => does_val (x_pickT rfl ((hp.V 5 rfl rfl).trans (bT (decide_eq_true c3))) (hp.V 8 rfl rfl)) rfl) ?_
    refine .on rfl (fun a w hS hI hp => does_val (x_pickF rfl ((hp.V 2 rfl rfl).trans (bF (decide_eq_false c2))) (hp.V 9 rfl rfl)) rfl) ?_
    refine .asg 10 rfl rfl rfl rfl ?_
    exact .nil
   clear hS
   intro at43 w44 hS hI hp
   have hBw44_w := hI.1
   have hBw44_w3 := hI.2.1
   have hBw44_w40 := hI.2.2
   replace hS := hS.nil
   have hv2 : sl _ 2 = .bool (decide (a0_0 = 1)) := hp 11 (by decide)
   have hBw44_w44 := Below.refl w44.heap.size w44
   have hS := hS.cons hv2
   clear hp hI hv2
   refine hK42 _ _ ?_
   (try clear hK42 K42)
   refine wp_ret ?_
   (try simp only [Exit.then, Exit.inBlock, Exit.jump, Exit.noGoto])
   exact bodyPost_ret (v := .bool (decide (a0_0 = 1))) (results_single rfl (Vals.at (hS.get 0 rfl) .nil)) hS.nodef ⟨rfl, hBw44_w⟩
  rw [if_neg c3] at H
  obtain rfl := Option.some.inj H
  refine calls_of_wp (fn := Try.f19) (by kernel_rfl) rfl ?_
  have hS := St.enter #[.agg #[.int .i64 a0_0, .string a0_1]] 56 (by simp) [(0, .agg #[.int .i64 a0_0, .string a0_1])] (by simp)
  have HB0 := Below.refl w.heap.size w
  refine wp_seq_k (fun K1 hK1 => ?_)
  refine reg_seq (N := 56) (bs := [(0, .agg #[.int .i64 a0_0, .string a0_1])]) (I := fun x => Below w.heap.size w x) (ps := [IsB #[.int .i64 a0_0, .string a0_1] 26 w.heap.size, VB false]) (by kernel_rfl) ?_ ?_ rfl hS HB0 ?_ ?_
  ·exact fun x y hI hb => below_step hI hb
  ·exact .cons (Stays.b _ _ _) (.v (.nil))
  ·refine .on rfl (fun a w hS hI hp => does_var (x_box rfl (congrArg Value.cells (hS.get 0 rfl))) (hI).size) ?_
   refine .on rfl (fun a w hS hI hp => does_val (x_assign rfl (rfl)) rfl) ?_
   exact .nil
  clear hS
  intro at2 w3 hS hI hp
  have hBw3_w := hI
  replace hS := hS.nil
  obtain ⟨g4, hv1, hgeg4, hbxg4⟩ := (show IsB _ 26 _ (sl _ 1) _ from hp 0 (by decide))
  have hBw3_w3 := Below.refl w3.heap.size w3
  have hS := hS.cons hv1
  clear hp hI hv1
  refine hK1 _ _ ?_
  (try clear hK1 K1)
  refine wp_seq_k (fun K5 hK5 => ?_)
  refine reg_seq (N := 56) (bs := [(1, .pointer (some ⟨g4, 0, none⟩))]) (I := fun x => Below w.heap.size w x ∧ Below w3.heap.size w3 x) (ps := [VP g4 1, IsV (.string a0_1), VI (a0_1.size : Int), VI (a0_1.size : Int)]) (by kernel_rfl) ?_ ?_ rfl hS ⟨hBw3_w, hBw3_w3⟩ ?_ ?_
  ·exact fun x y hI hb => ⟨below_step hI.1 hb, below_step hI.2 hb⟩
  ·exact .v (.v (.v (.v (.nil))))
  ·refine .on rfl (fun a w hS hI hp => does_val (x_fieldE (b := 0) rfl (hS.get 0 rfl) Try.underlying26 rfl rfl (by kernel_rfl)) rfl) ?_
   refine .on rfl (fun a w hS hI hp => does_val (x_load1 (d := .string) rfl (hp.V 0 rfl rfl) (by kernel_rfl) rfl ((blk_cell (((hI.2).block g4 (blk_lt hbxg4)).trans hbxg4) 1).trans rfl)) rfl) ?_
   refine .on rfl (fun a w hS hI hp => does_val (x_lenS rfl (by kernel_rfl) (hp.V 1 rfl rfl)) rfl) ?_
   refine .asg 2 rfl rfl rfl rfl ?_
   exact .nil
  clear hS
  intro at6 w7 hS hI hp
  have hBw7_w := hI.1
  have hBw7_w3 := hI.2
  have hv3 : sl _ 3 = .int .i64 (a0_1.size : Int) := hp 3 (by decide)
  have hBw7_w7 := Below.refl w7.heap.size w7
  have hS := hS.cons hv3
  clear hp hI hv3
  refine hK5 _ _ ?_
  (try clear hK5 K5)
  refine wp_seq_k (fun K8 hK8 => ?_)
  refine wp_seq_k (fun K9 hK9 => ?_)
  refine reg_seq (N := 56) (bs := [(3, .int .i64 (a0_1.size : Int)), (1, .pointer (some ⟨g4, 0, none⟩))]) (I := fun x => Below w.heap.size w x ∧ Below w3.heap.size w3 x ∧ Below w7.heap.size w7 x) (ps := [VP g4 0, VI a0_0]) (by kernel_rfl) ?_ ?_ rfl hS ⟨hBw7_w, hBw7_w3, hBw7_w7⟩ ?_ ?_
  ·exact fun x y hI hb => ⟨below_step hI.1 hb, below_step hI.2.1 hb, below_step hI.2.2 hb⟩
  ·exact .v (.v (.nil))
  ·refine .on rfl (fun a w hS hI hp => does_val (x_fieldE (b := 0) rfl (hS.get 1 rfl) Try.underlying26 rfl rfl (by kernel_rfl)) rfl) ?_
   refine .on rfl (fun a w hS hI hp => does_val (x_load1 (d := .int .i64) rfl (hp.V 0 rfl rfl) (by kernel_rfl) rfl ((blk_cell (((hI.2.1).block g4 (blk_lt hbxg4)).trans hbxg4) 0).trans rfl)) rfl) ?_
   exact .nil
  clear hS
  intro at10 w11 hS hI hp
  have hBw11_w := hI.1
  have hBw11_w3 := hI.2.1
  have hBw11_w7 := hI.2.2
  have hv8 : sl _ 8 = .int .i64 a0_0 := hp 1 (by decide)
  have hBw11_w11 := Below.refl w11.heap.size w11
  have hS := hS.cons hv8
  clear hp hI hv8
  refine hK9 _ _ ?_
  (try clear hK9 K9)
  refine wp_block ?_
  refine wp_seq_k (fun K12 hK12 => ?_)
  refine wp_mono (Q := fun e a' w' => e = Exit.normal ∧ St 56 [(1, .pointer (some ⟨g4, 0, none⟩)), (3, .int .i64 (a0_1.size : Int)), (8, .int .i64 a0_0), (9, .bool (if a0_0 = 1 then decide (a0_0 = 1) else (if a0_0 = 6 then decide (a0_0 = 6) else decide (a0_0 = 7))))] a' ∧ Below w.heap.size w w' ∧ Below w3.heap.size w3 w' ∧ Below w11.heap.size w11 w') ?_ ?_
  ·by_cases d13_0 : a0_0 = 1
   ·refine wp_seq_k (fun K17 hK17 => ?_)
    refine reg_seq (N := 56) (bs := [(8, .int .i64 a0_0), (3, .int .i64 (a0_1.size : Int)), (1, .pointer (some ⟨g4, 0, none⟩))]) (I := fun x => Below w.heap.size w x ∧ Below w3.heap.size w3 x ∧ Below w11.heap.size w11 x) (ps := [VB (decide (a0_0 = 1)), VB (decide (a0_0 = 1))]) (by kernel_rfl) ?_ ?_ rfl hS ⟨hBw11_w, hBw11_w3, hBw11_w11⟩ ?_ ?_
    ·exact fun x y hI hb => ⟨below_step hI.1 hb, below_step hI.2.1 hb, below_step hI.2.2 hb⟩
    ·exact .v (.v (.nil))
    ·refine .on rfl (fun a w hS hI hp => does_val (x_bin rfl (hS.get 0 rfl) (rfl) (b_eql _ _ _ _ _ _)) rfl) ?_
     refine .asg 0 rfl rfl rfl rfl ?_
     exact .nil
    clear hS
    intro at18 w19 hS hI hp
    have hBw19_w := hI.1
    have hBw19_w3 := hI.2.1
    have hBw19_w11 := hI.2.2
    have hv9 : sl _ 9 = .bool (decide (a0_0 = 1)) := hp 1 (by decide)
    have hBw19_w19 := Below.refl w19.heap.size w19
    have hS := hS.cons hv9
    clear hp hI hv9
    refine hK17 _ _ ?_
    (try clear hK17 K17)
    refine wp_cond_true ((hS.get 0 rfl).trans (bT (decide_eq_true d13_0))) ?_
    refine wp_skip ?_
    (try simp only [Exit.then, Exit.inBlock, reduceIte])
    exact ⟨by trivial, ((((hS.nil).cons ((hS.get 0 rfl).trans (congrArg (Value.bool) (by simp only [if_pos d13_0])))).cons (hS.get 1 rfl)).cons (hS.get 2 rfl)).cons (hS.get 3 rfl), hBw19_w, hBw19_w3, hBw19_w11⟩
   ·by_cases d13_1 : a0_0 = 6
    ·refine wp_seq_k (fun K26 hK26 => ?_)
     refine reg_seq (N := 56) (bs := [(8, .int .i64 a0_0), (3, .int .i64 (a0_1.size : Int)), (1, .pointer (some ⟨g4, 0, none⟩))]) (I := fun x => Below w.heap.size w x ∧ Below w3.heap.size w3 x ∧ Below w11.heap.size w11 x) (ps := [VB (decide (a0_0 = 1)), VB (decide (a0_0 = 1))]) (by kernel_rfl) ?_ ?_ rfl hS ⟨hBw11_w, hBw11_w3, hBw11_w11⟩ ?_ ?_
     ·exact fun x y hI hb => ⟨below_step hI.1 hb, below_step hI.2.1 hb, below_step hI.2.2 hb⟩
     ·exact .v (.v (.nil))
     ·refine .on rfl (fun a w hS hI hp => does_val (x_bin rfl (hS.get 0 rfl) (rfl) (b_eql _ _ _ _ _ _)) rfl) ?_
      refine .asg 0 rfl rfl rfl rfl ?_
      exact .nil
     clear hS
     intro at27 w28 hS hI hp
     have hBw28_w := hI.1
     have hBw28_w3 := hI.2.1
     have hBw28_w11 := hI.2.2
     have hv9 : sl _ 9 = .bool (decide (a0_0 = 1)) := hp 1 (by decide)
     have hBw28_w28 := Below.refl w28.heap.size w28
     have hS := hS.cons hv9
     clear hp hI hv9
     refine hK26 _ _ ?_
     (try clear hK26 K26)
     refine wp_cond_false ((hS.get 0 rfl).trans (bF (decide_eq_false d13_0))) ?_
     refine wp_seq_k (fun K29 hK29 => ?_)
     replace hS := (((hS.nil).cons (hS.get 3 rfl)).cons (hS.get 2 rfl)).cons (hS.get 1 rfl)
     refine reg_seq (N := 56) (bs := [(8, .int .i64 a0_0), (3, .int .i64 (a0_1.size : Int)), (1, .pointer (some ⟨g4, 0, none⟩))]) (I := fun x => Below w.heap.size w x ∧ Below w3.heap.size w3 x ∧ Below w11.heap.size w11 x ∧ Below w28.heap.size w28 x) (ps := [VB (decide (a0_0 = 6)), VB (decide (a0_0 = 6))]) (by kernel_rfl) ?_ ?_ rfl hS ⟨hBw28_w, hBw28_w3, hBw28_w11, hBw28_w28⟩ ?_ ?_
     ·exact fun x y hI hb => ⟨below_step hI.1 hb, below_step hI.2.1 hb, below_step hI.2.2.1 hb, below_step hI.2.2.2 hb⟩
     ·exact .v (.v (.nil))
     ·refine .on rfl (fun a w hS hI hp => does_val (x_bin rfl (hS.get 0 rfl) (rfl) (b_eql _ _ _ _ _ _)) rfl) ?_
      refine .asg 0 rfl rfl rfl rfl ?_
      exact .nil
     clear hS
     intro at30 w31 hS hI hp
     have hBw31_w := hI.1
     have hBw31_w3 := hI.2.1
     have hBw31_w11 := hI.2.2.1
     have hBw31_w28 := hI.2.2.2
     have hv9 : sl _ 9 = .bool (decide (a0_0 = 6)) := hp 1 (by decide)
     have hBw31_w31 := Below.refl w31.heap.size w31
     have hS := hS.cons hv9
     clear hp hI hv9
     refine hK29 _ _ ?_
     (try clear hK29 K29)
     refine wp_cond_true ((hS.get 0 rfl).trans (bT (decide_eq_true d13_1))) ?_
     refine wp_skip ?_
     (try simp only [Exit.then, Exit.inBlock, reduceIte])
     exact ⟨by trivial, ((((hS.nil).cons ((hS.get 0 rfl).trans (congrArg (Value.bool) (by simp only [if_neg d13_0, if_pos d13_1])))).cons (hS.get 1 rfl)).cons (hS.get 2 rfl)).cons (hS.get 3 rfl), hBw31_w, hBw31_w3, hBw31_w11⟩
    ·refine wp_seq_k (fun K32 hK32 => ?_)
     refine reg_seq (N := 56) (bs := [(8, .int .i64 a0_0), (3, .int .i64 (a0_1.size : Int)), (1, .pointer (some ⟨g4, 0, none⟩))]) (I := fun x => Below w.heap.size w x ∧ Below w3.heap.size w3 x ∧ Below w11.heap.size w11 x) (ps := [VB (decide (a0_0 = 1)), VB (decide (a0_0 = 1))]) (by kernel_rfl) ?_ ?_ rfl hS ⟨hBw11_w, hBw11_w3, hBw11_w11⟩ ?_ ?_
     ·exact fun x y hI hb => ⟨below_step hI.1 hb, below_step hI.2.1 hb, below_step hI.2.2 hb⟩
     ·exact .v (.v (.nil))
     ·refine .on rfl (fun a w hS hI hp => does_val (x_bin rfl (hS.get 0 rfl) (rfl) (b_eql _ _ _ _ _ _)) rfl) ?_
      refine .asg 0 rfl rfl rfl rfl ?_
      exact .nil
     clear hS
     intro at33 w34 hS hI hp
     have hBw34_w := hI.1
     have hBw34_w3 := hI.2.1
     have hBw34_w11 := hI.2.2
     have hv9 : sl _ 9 = .bool (decide (a0_0 = 1)) := hp 1 (by decide)
     have hBw34_w34 := Below.refl w34.heap.size w34
     have hS := hS.cons hv9
     clear hp hI hv9
     refine hK32 _ _ ?_
     (try clear hK32 K32)
     refine wp_cond_false ((hS.get 0 rfl).trans (bF (decide_eq_false d13_0))) ?_
     refine wp_seq_k (fun K35 hK35 => ?_)
     replace hS := (((hS.nil).cons (hS.get 3 rfl)).cons (hS.get 2 rfl)).cons (hS.get 1 rfl)
     refine reg_seq (N := 56) (bs := [(8, .int .i64 a0_0), (3, .int .i64 (a0_1.size : Int)), (1, .pointer (some ⟨g4, 0, none⟩))]) (I := fun x => Below w.heap.size w x ∧ Below w3.heap.size w3 x ∧ Below w11.heap.size w11 x ∧ Below w34.heap.size w34 x) (ps := [VB (decide (a0_0 = 6)), VB (decide (a0_0 = 6))]) (by kernel_rfl) ?_ ?_ rfl hS ⟨hBw34_w, hBw34_w3, hBw34_w11, hBw34_w34⟩ ?_ ?_
     ·exact fun x y hI hb => ⟨below_step hI.1 hb, below_step hI.2.1 hb, below_step hI.2.2.1 hb, below_step hI.2.2.2 hb⟩
     ·exact .v (.v (.nil))
     ·refine .on rfl (fun a w hS hI hp => does_val (x_bin rfl (hS.get 0 rfl) (rfl) (b_eql _ _ _ _ _ _)) rfl) ?_
      refine .asg 0 rfl rfl rfl rfl ?_
      exact .nil
     clear hS
     intro at36 w37 hS hI hp
     have hBw37_w := hI.1
     have hBw37_w3 := hI.2.1
     have hBw37_w11 := hI.2.2.1
     have hBw37_w34 := hI.2.2.2
     have hv9 : sl _ 9 = .bool (decide (a0_0 = 6)) := hp 1 (by decide)
     have hBw37_w37 := Below.refl w37.heap.size w37
     have hS := hS.cons hv9
     clear hp hI hv9
     refine hK35 _ _ ?_
     (try clear hK35 K35)
     refine wp_cond_false ((hS.get 0 rfl).trans (bF (decide_eq_false d13_1))) ?_
     replace hS := (((hS.nil).cons (hS.get 3 rfl)).cons (hS.get 2 rfl)).cons (hS.get 1 rfl)
     refine reg_seq (N := 56) (bs := [(8, .int .i64 a0_0), (3, .int .i64 (a0_1.size : Int)), (1, .pointer (some ⟨g4, 0, none⟩))]) (I := fun x => Below w.heap.size w x ∧ Below w3.heap.size w3 x ∧ Below w11.heap.size w11 x ∧ Below w37.heap.size w37 x) (ps := [VB (decide (a0_0 = 7)), VB (decide (a0_0 = 7))]) (by kernel_rfl) ?_ ?_ rfl hS ⟨hBw37_w, hBw37_w3, hBw37_w11, hBw37_w37⟩ ?_ ?_
     ·exact fun x y hI hb => ⟨below_step hI.1 hb, below_step hI.2.1 hb, below_step hI.2.2.1 hb, below_step hI.2.2.2 hb⟩
     ·exact .v (.v (.nil))
     ·refine .on rfl (fun a w hS hI hp => does_val (x_bin rfl (hS.get 0 rfl) (rfl) (b_eql _ _ _ _ _ _)) rfl) ?_
      refine .asg 0 rfl rfl rfl rfl ?_
      exact .nil
     clear hS
     intro at38 w39 hS hI hp
     have hBw39_w := hI.1
     have hBw39_w3 := hI.2.1
     have hBw39_w11 := hI.2.2.1
     have hBw39_w37 := hI.2.2.2
     have hv9 : sl _ 9 = .bool (decide (a0_0 = 7)) := hp 1 (by decide)
     have hBw39_w39 := Below.refl w39.heap.size w39
     have hS := hS.cons hv9
     clear hp hI hv9
     (try simp only [Exit.then, Exit.inBlock, reduceIte])
     exact ⟨by trivial, ((((hS.nil).cons ((hS.get 0 rfl).trans (congrArg (Value.bool) (by simp only [if_neg d13_0, if_neg d13_1])))).cons (hS.get 1 rfl)).cons (hS.get 2 rfl)).cons (hS.get 3 rfl), hBw39_w, hBw39_w3, hBw39_w11⟩
  rintro e41 at41 w40 ⟨rfl, hS, hBw40_w, hBw40_w3, hBw40_w11⟩
  have hBw40_w40 := Below.refl w40.heap.size w40
  (try simp only [Exit.then, Exit.inBlock, reduceIte])
  refine hK12 _ _ ?_
  (try clear hK12 K12)
  refine wp_cond_true ((hS.get 3 rfl).trans (bT c1)) ?_
  refine wp_seq_k (fun K42 hK42 => ?_)
  refine reg_seq (N := 56) (bs := [(1, .pointer (some ⟨g4, 0, none⟩)), (3, .int .i64 (a0_1.size : Int)), (8, .int .i64 a0_0), (9, .bool (if a0_0 = 1 then decide (a0_0 = 1) else (if a0_0 = 6 then decide (a0_0 = 6) else decide (a0_0 = 7))))]) (I := fun x => Below w.heap.size w x ∧ Below w3.heap.size w3 x ∧ Below w40.heap.size w40 x) (ps := [VI (a0_1.size : Int), VB (decide ((a0_1.size : Int) = 2)), VB (decide ((a0_1.size : Int) = 2)), VI (a0_1.size : Int), VB (decide ((a0_1.size : Int) > 2)), VB (decide ((a0_1.size : Int) > 2)), VU, VU, VU, VB false, VB false, VB false]) (by kernel_rfl) ?_ ?_ rfl hS ⟨hBw40_w, hBw40_w3, hBw40_w40⟩ ?_ ?_
  ·exact fun x y hI hb => ⟨below_step hI.1 hb, below_step hI.2.1 hb, below_step hI.2.2 hb⟩
  ·exact .v (.v (.v (.v (.v (.v (.v (.v (.v (.v (.v (.v (.nil))))))))))))
  ·refine .ms 1 rfl rfl rfl ?_
   refine .on rfl (fun a w hS hI hp => does_val (x_bin rfl (hp.V 0 rfl rfl) (rfl) (b_eql _ _ _ _ _ _)) rfl) ?_
   refine .mv 1 rfl rfl rfl rfl ?_
   refine .oy 2 15 rfl rfl rfl rfl rfl ((decide_eq_false c2)) (fun a w hS hI hp => does_val (x_move rfl (hS.get 1 rfl)) rfl) ?_
   refine .oy 2 15 rfl rfl rfl rfl rfl ((decide_eq_false c2)) (fun a w hS hI hp => does_val (x_bin rfl (hp.V 3 rfl rfl) (rfl) (b_gtr _ _ _ _ _ _)) rfl) ?_
   refine .oy 2 15 rfl rfl rfl rfl rfl ((decide_eq_false c2)) (fun a w hS hI hp => does_val (x_move rfl (hp.V 4 rfl rfl)) rfl) ?_
   iterate 3 refine .sn 5 18 rfl rfl rfl rfl rfl ((decide_eq_false c3)) ?_
   refine .oy 2 15 rfl rfl rfl rfl rfl ((decide_eq_false c2)) (fun a w hS hI hp => does_val (x_pickF rfl ((hp.V 5 rfl rfl).trans (bF (decide_eq_false c3))) (rfl)) rfl) ?_
   refine .on rfl (fun a w hS hI hp => does_val (x_pickF rfl ((hp.V 2 rfl rfl).trans (bF (decide_eq_false c2))) (hp.V 9 rfl rfl)) rfl) ?_
   refine .asg 10 rfl rfl rfl rfl ?_
   exact .nil
  clear hS
  intro at43 w44 hS hI hp
  have hBw44_w := hI.1
  have hBw44_w3 := hI.2.1
  have hBw44_w40 := hI.2.2
  replace hS := hS.nil
  have hv2 : sl _ 2 = .bool false := hp 11 (by decide)
  have hBw44_w44 := Below.refl w44.heap.size w44
  have hS := hS.cons hv2
  clear hp hI hv2
  refine hK42 _ _ ?_
  (try clear hK42 K42)
  refine wp_ret ?_
  (try simp only [Exit.then, Exit.inBlock, Exit.jump, Exit.noGoto])
  exact bodyPost_ret (v := .bool false) (results_single rfl (Vals.at (hS.get 0 rfl) .nil)) hS.nodef ⟨rfl, hBw44_w⟩
 rw [if_neg c1] at H
 by_cases c2 : a0_0 = 2
 ·rw [if_pos c2] at H
  obtain rfl := Option.some.inj H
  refine calls_of_wp (fn := Try.f19) (by kernel_rfl) rfl ?_
  have hS := St.enter #[.agg #[.int .i64 a0_0, .string a0_1]] 56 (by simp) [(0, .agg #[.int .i64 a0_0, .string a0_1])] (by simp)
  have HB0 := Below.refl w.heap.size w
  refine wp_seq_k (fun K1 hK1 => ?_)
  refine reg_seq (N := 56) (bs := [(0, .agg #[.int .i64 a0_0, .string a0_1])]) (I := fun x => Below w.heap.size w x) (ps := [IsB #[.int .i64 a0_0, .string a0_1] 26 w.heap.size, VB false]) (by kernel_rfl) ?_ ?_ rfl hS HB0 ?_ ?_
  ·exact fun x y hI hb => below_step hI hb
  ·exact .cons (Stays.b _ _ _) (.v (.nil))
  ·refine .on rfl (fun a w hS hI hp => does_var (x_box rfl (congrArg Value.cells (hS.get 0 rfl))) (hI).size) ?_
   refine .on rfl (fun a w hS hI hp => does_val (x_assign rfl (rfl)) rfl) ?_
   exact .nil
  clear hS
  intro at2 w3 hS hI hp
  have hBw3_w := hI
  replace hS := hS.nil
  obtain ⟨g4, hv1, hgeg4, hbxg4⟩ := (show IsB _ 26 _ (sl _ 1) _ from hp 0 (by decide))
  have hBw3_w3 := Below.refl w3.heap.size w3
  have hS := hS.cons hv1
  clear hp hI hv1
  refine hK1 _ _ ?_
  (try clear hK1 K1)
  refine wp_seq_k (fun K5 hK5 => ?_)
  refine reg_seq (N := 56) (bs := [(1, .pointer (some ⟨g4, 0, none⟩))]) (I := fun x => Below w.heap.size w x ∧ Below w3.heap.size w3 x) (ps := [VP g4 1, IsV (.string a0_1), VI (a0_1.size : Int), VI (a0_1.size : Int)]) (by kernel_rfl) ?_ ?_ rfl hS ⟨hBw3_w, hBw3_w3⟩ ?_ ?_
  ·exact fun x y hI hb => ⟨below_step hI.1 hb, below_step hI.2 hb⟩
  ·exact .v (.v (.v (.v (.nil))))
  ·refine .on rfl (fun a w hS hI hp => does_val (x_fieldE (b := 0) rfl (hS.get 0 rfl) Try.underlying26 rfl rfl (by kernel_rfl)) rfl) ?_
   refine .on rfl (fun a w hS hI hp => does_val (x_load1 (d := .string) rfl (hp.V 0 rfl rfl) (by kernel_rfl) rfl ((blk_cell (((hI.2).block g4 (blk_lt hbxg4)).trans hbxg4) 1).trans rfl)) rfl) ?_
   refine .on rfl (fun a w hS hI hp => does_val (x_lenS rfl (by kernel_rfl) (hp.V 1 rfl rfl)) rfl) ?_
   refine .asg 2 rfl rfl rfl rfl ?_
   exact .nil
  clear hS
  intro at6 w7 hS hI hp
  have hBw7_w := hI.1
  have hBw7_w3 := hI.2
  have hv3 : sl _ 3 = .int .i64 (a0_1.size : Int) := hp 3 (by decide)
  have hBw7_w7 := Below.refl w7.heap.size w7
  have hS := hS.cons hv3
  clear hp hI hv3
  refine hK5 _ _ ?_
  (try clear hK5 K5)
  refine wp_seq_k (fun K8 hK8 => ?_)
  refine wp_seq_k (fun K9 hK9 => ?_)
  refine reg_seq (N := 56) (bs := [(3, .int .i64 (a0_1.size : Int)), (1, .pointer (some ⟨g4, 0, none⟩))]) (I := fun x => Below w.heap.size w x ∧ Below w3.heap.size w3 x ∧ Below w7.heap.size w7 x) (ps := [VP g4 0, VI a0_0]) (by kernel_rfl) ?_ ?_ rfl hS ⟨hBw7_w, hBw7_w3, hBw7_w7⟩ ?_ ?_
  ·exact fun x y hI hb => ⟨below_step hI.1 hb, below_step hI.2.1 hb, below_step hI.2.2 hb⟩
  ·exact .v (.v (.nil))
  ·refine .on rfl (fun a w hS hI hp => does_val (x_fieldE (b := 0) rfl (hS.get 1 rfl) Try.underlying26 rfl rfl (by kernel_rfl)) rfl) ?_
   refine .on rfl (fun a w hS hI hp => does_val (x_load1 (d := .int .i64) rfl (hp.V 0 rfl rfl) (by kernel_rfl) rfl ((blk_cell (((hI.2.1).block g4 (blk_lt hbxg4)).trans hbxg4) 0).trans rfl)) rfl) ?_
   exact .nil
  clear hS
  intro at10 w11 hS hI hp
  have hBw11_w := hI.1
  have hBw11_w3 := hI.2.1
  have hBw11_w7 := hI.2.2
  have hv8 : sl _ 8 = .int .i64 a0_0 := hp 1 (by decide)
  have hBw11_w11 := Below.refl w11.heap.size w11
  have hS := hS.cons hv8
  clear hp hI hv8
  refine hK9 _ _ ?_
  (try clear hK9 K9)
  refine wp_block ?_
  refine wp_seq_k (fun K12 hK12 => ?_)
  refine wp_mono (Q := fun e a' w' => e = Exit.normal ∧ St 56 [(1, .pointer (some ⟨g4, 0, none⟩)), (3, .int .i64 (a0_1.size : Int)), (8, .int .i64 a0_0), (9, .bool (if a0_0 = 1 then decide (a0_0 = 1) else (if a0_0 = 6 then decide (a0_0 = 6) else decide (a0_0 = 7))))] a' ∧ Below w.heap.size w w' ∧ Below w3.heap.size w3 w' ∧ Below w11.heap.size w11 w') ?_ ?_
  ·by_cases d13_0 : a0_0 = 1
   ·refine wp_seq_k (fun K17 hK17 => ?_)
    refine reg_seq (N := 56) (bs := [(8, .int .i64 a0_0), (3, .int .i64 (a0_1.size : Int)), (1, .pointer (some ⟨g4, 0, none⟩))]) (I := fun x => Below w.heap.size w x ∧ Below w3.heap.size w3 x ∧ Below w11.heap.size w11 x) (ps := [VB (decide (a0_0 = 1)), VB (decide (a0_0 = 1))]) (by kernel_rfl) ?_ ?_ rfl hS ⟨hBw11_w, hBw11_w3, hBw11_w11⟩ ?_ ?_
    ·exact fun x y hI hb => ⟨below_step hI.1 hb, below_step hI.2.1 hb, below_step hI.2.2 hb⟩
    ·exact .v (.v (.nil))
    ·refine .on rfl (fun a w hS hI hp => does_val (x_bin rfl (hS.get 0 rfl) (rfl) (b_eql _ _ _ _ _ _)) rfl) ?_
     refine .asg 0 rfl rfl rfl rfl ?_
     exact .nil
    clear hS
    intro at18 w19 hS hI hp
    have hBw19_w := hI.1
    have hBw19_w3 := hI.2.1
    have hBw19_w11 := hI.2.2
    have hv9 : sl _ 9 = .bool (decide (a0_0 = 1)) := hp 1 (by decide)
    have hBw19_w19 := Below.refl w19.heap.size w19
    have hS := hS.cons hv9
    clear hp hI hv9
    refine hK17 _ _ ?_
    (try clear hK17 K17)
    refine wp_cond_true ((hS.get 0 rfl).trans (bT (decide_eq_true d13_0))) ?_
    refine wp_skip ?_
    (try simp only [Exit.then, Exit.inBlock, reduceIte])
    exact ⟨by trivial, ((((hS.nil).cons ((hS.get 0 rfl).trans (congrArg (Value.bool) (by simp only [if_pos d13_0])))).cons (hS.get 1 rfl)).cons (hS.get 2 rfl)).cons (hS.get 3 rfl), hBw19_w, hBw19_w3, hBw19_w11⟩
   ·by_cases d13_1 : a0_0 = 6
    ·refine wp_seq_k (fun K26 hK26 => ?_)
     refine reg_seq (N := 56) (bs := [(8, .int .i64 a0_0), (3, .int .i64 (a0_1.size : Int)), (1, .pointer (some ⟨g4, 0, none⟩))]) (I := fun x => Below w.heap.size w x ∧ Below w3.heap.size w3 x ∧ Below w11.heap.size w11 x) (ps := [VB (decide (a0_0 = 1)), VB (decide (a0_0 = 1))]) (by kernel_rfl) ?_ ?_ rfl hS ⟨hBw11_w, hBw11_w3, hBw11_w11⟩ ?_ ?_
     ·exact fun x y hI hb => ⟨below_step hI.1 hb, below_step hI.2.1 hb, below_step hI.2.2 hb⟩
     ·exact .v (.v (.nil))
     ·refine .on rfl (fun a w hS hI hp => does_val (x_bin rfl (hS.get 0 rfl) (rfl) (b_eql _ _ _ _ _ _)) rfl) ?_
      refine .asg 0 rfl rfl rfl rfl ?_
      exact .nil
     clear hS
     intro at27 w28 hS hI hp
     have hBw28_w := hI.1
     have hBw28_w3 := hI.2.1
     have hBw28_w11 := hI.2.2
     have hv9 : sl _ 9 = .bool (decide (a0_0 = 1)) := hp 1 (by decide)
     have hBw28_w28 := Below.refl w28.heap.size w28
     have hS := hS.cons hv9
     clear hp hI hv9
     refine hK26 _ _ ?_
     (try clear hK26 K26)
     refine wp_cond_false ((hS.get 0 rfl).trans (bF (decide_eq_false d13_0))) ?_
     refine wp_seq_k (fun K29 hK29 => ?_)
     replace hS := (((hS.nil).cons (hS.get 3 rfl)).cons (hS.get 2 rfl)).cons (hS.get 1 rfl)
     refine reg_seq (N := 56) (bs := [(8, .int .i64 a0_0), (3, .int .i64 (a0_1.size : Int)), (1, .pointer (some ⟨g4, 0, none⟩))]) (I := fun x => Below w.heap.size w x ∧ Below w3.heap.size w3 x ∧ Below w11.heap.size w11 x ∧ Below w28.heap.size w28 x) (ps := [VB (decide (a0_0 = 6)), VB (decide (a0_0 = 6))]) (by kernel_rfl) ?_ ?_ rfl hS ⟨hBw28_w, hBw28_w3, hBw28_w11, hBw28_w28⟩ ?_ ?_
     ·exact fun x y hI hb => ⟨below_step hI.1 hb, below_step hI.2.1 hb, below_step hI.2.2.1 hb, below_step hI.2.2.2 hb⟩
     ·exact .v (.v (.nil))
     ·refine .on rfl (fun a w hS hI hp => does_val (x_bin rfl (hS.get 0 rfl) (rfl) (b_eql _ _ _ _ _ _)) rfl) ?_
      refine .asg 0 rfl rfl rfl rfl ?_
      exact .nil
     clear hS
     intro at30 w31 hS hI hp
     have hBw31_w := hI.1
     have hBw31_w3 := hI.2.1
     have hBw31_w11 := hI.2.2.1
     have hBw31_w28 := hI.2.2.2
     have hv9 : sl _ 9 = .bool (decide (a0_0 = 6)) := hp 1 (by decide)
     have hBw31_w31 := Below.refl w31.heap.size w31
     have hS := hS.cons hv9
     clear hp hI hv9
     refine hK29 _ _ ?_
     (try clear hK29 K29)
     refine wp_cond_true ((hS.get 0 rfl).trans (bT (decide_eq_true d13_1))) ?_
     refine wp_skip ?_
     (try simp only [Exit.then, Exit.inBlock, reduceIte])
     exact ⟨by trivial, ((((hS.nil).cons ((hS.get 0 rfl).trans (congrArg (Value.bool) (by simp only [if_neg d13_0, if_pos d13_1])))).cons (hS.get 1 rfl)).cons (hS.get 2 rfl)).cons (hS.get 3 rfl), hBw31_w, hBw31_w3, hBw31_w11⟩
    ·refine wp_seq_k (fun K32 hK32 => ?_)
     refine reg_seq (N := 56) (bs := [(8, .int .i64 a0_0), (3, .int .i64 (a0_1.size : Int)), (1, .pointer (some ⟨g4, 0, none⟩))]) (I := fun x => Below w.heap.size w x ∧ Below w3.heap.size w3 x ∧ Below w11.heap.size w11 x) (ps := [VB (decide (a0_0 = 1)), VB (decide (a0_0 = 1))]) (by kernel_rfl) ?_ ?_ rfl hS ⟨hBw11_w, hBw11_w3, hBw11_w11⟩ ?_ ?_
     ·exact fun x y hI hb => ⟨below_step hI.1 hb, below_step hI.2.1 hb, below_step hI.2.2 hb⟩
     ·exact .v (.v (.nil))
     ·refine .on rfl (fun a w hS hI hp => does_val (x_bin rfl (hS.get 0 rfl) (rfl) (b_eql _ _ _ _ _ _)) rfl) ?_
      refine .asg 0 rfl rfl rfl rfl ?_
      exact .nil
     clear hS
     intro at33 w34 hS hI hp
     have hBw34_w := hI.1
     have hBw34_w3 := hI.2.1
     have hBw34_w11 := hI.2.2
     have hv9 : sl _ 9 = .bool (decide (a0_0 = 1)) := hp 1 (by decide)
     have hBw34_w34 := Below.refl w34.heap.size w34
     have hS := hS.cons hv9
     clear hp hI hv9
     refine hK32 _ _ ?_
     (try clear hK32 K32)
     refine wp_cond_false ((hS.get 0 rfl).trans (bF (decide_eq_false d13_0))) ?_
     refine wp_seq_k (fun K35 hK35 => ?_)
     replace hS := (((hS.nil).cons (hS.get 3 rfl)).cons (hS.get 2 rfl)).cons (hS.get 1 rfl)
     refine reg_seq (N := 56) (bs := [(8, .int .i64 a0_0), (3, .int .i64 (a0_1.size : Int)), (1, .pointer (some ⟨g4, 0, none⟩))]) (I := fun x => Below w.heap.size w x ∧ Below w3.heap.size w3 x ∧ Below w11.heap.size w11 x ∧ Below w34.heap.size w34 x) (ps := [VB (decide (a0_0 = 6)), VB (decide (a0_0 = 6))]) (by kernel_rfl) ?_ ?_ rfl hS ⟨hBw34_w, hBw34_w3, hBw34_w11, hBw34_w34⟩ ?_ ?_
     ·exact fun x y hI hb => ⟨below_step hI.1 hb, below_step hI.2.1 hb, below_step hI.2.2.1 hb, below_step hI.2.2.2 hb⟩
     ·exact .v (.v (.nil))
     ·refine .on rfl (fun a w hS hI hp => does_val (x_bin rfl (hS.get 0 rfl) (rfl) (b_eql _ _ _ _ _ _)) rfl) ?_
      refine .asg 0 rfl rfl rfl rfl ?_
      exact .nil
     clear hS
     intro at36 w37 hS hI hp
     have hBw37_w := hI.1
     have hBw37_w3 := hI.2.1
     have hBw37_w11 := hI.2.2.1
     have hBw37_w34 := hI.2.2.2
     have hv9 : sl _ 9 = .bool (decide (a0_0 = 6)) := hp 1 (by decide)
     have hBw37_w37 := Below.refl w37.heap.size w37
     have hS := hS.cons hv9
     clear hp hI hv9
     refine hK35 _ _ ?_
     (try clear hK35 K35)
     refine wp_cond_false ((hS.get 0 rfl).trans (bF (decide_eq_false d13_1))) ?_
     replace hS := (((hS.nil).cons (hS.get 3 rfl)).cons (hS.get 2 rfl)).cons (hS.get 1 rfl)
     refine reg_seq (N := 56) (bs := [(8, .int .i64 a0_0), (3, .int .i64 (a0_1.size : Int)), (1, .pointer (some ⟨g4, 0, none⟩))]) (I := fun x => Below w.heap.size w x ∧ Below w3.heap.size w3 x ∧ Below w11.heap.size w11 x ∧ Below w37.heap.size w37 x) (ps := [VB (decide (a0_0 = 7)), VB (decide (a0_0 = 7))]) (by kernel_rfl) ?_ ?_ rfl hS ⟨hBw37_w, hBw37_w3, hBw37_w11, hBw37_w37⟩ ?_ ?_
     ·exact fun x y hI hb => ⟨below_step hI.1 hb, below_step hI.2.1 hb, below_step hI.2.2.1 hb, below_step hI.2.2.2 hb⟩
     ·exact .v (.v (.nil))
     ·refine .on rfl (fun a w hS hI hp => does_val (x_bin rfl (hS.get 0 rfl) (rfl) (b_eql _ _ _ _ _ _)) rfl) ?_
      refine .asg 0 rfl rfl rfl rfl ?_
      exact .nil
     clear hS
     intro at38 w39 hS hI hp
     have hBw39_w := hI.1
     have hBw39_w3 := hI.2.1
     have hBw39_w11 := hI.2.2.1
     have hBw39_w37 := hI.2.2.2
     have hv9 : sl _ 9 = .bool (decide (a0_0 = 7)) := hp 1 (by decide)
     have hBw39_w39 := Below.refl w39.heap.size w39
     have hS := hS.cons hv9
     clear hp hI hv9
     (try simp only [Exit.then, Exit.inBlock, reduceIte])
     exact ⟨by trivial, ((((hS.nil).cons ((hS.get 0 rfl).trans (congrArg (Value.bool) (by simp only [if_neg d13_0, if_neg d13_1])))).cons (hS.get 1 rfl)).cons (hS.get 2 rfl)).cons (hS.get 3 rfl), hBw39_w, hBw39_w3, hBw39_w11⟩
  rintro e41 at41 w40 ⟨rfl, hS, hBw40_w, hBw40_w3, hBw40_w11⟩
  have hBw40_w40 := Below.refl w40.heap.size w40
  (try simp only [Exit.then, Exit.inBlock, reduceIte])
  refine hK12 _ _ ?_
  (try clear hK12 K12)
  refine wp_cond_false ((hS.get 3 rfl).trans (bF (Bool.eq_false_iff.2 c1))) ?_
  refine wp_seq_k (fun K42 hK42 => ?_)
  refine reg_seq (N := 56) (bs := [(1, .pointer (some ⟨g4, 0, none⟩)), (3, .int .i64 (a0_1.size : Int)), (8, .int .i64 a0_0), (9, .bool (if a0_0 = 1 then decide (a0_0 = 1) else (if a0_0 = 6 then decide (a0_0 = 6) else decide (a0_0 = 7))))]) (I := fun x => Below w.heap.size w x ∧ Below w3.heap.size w3 x ∧ Below w40.heap.size w40 x) (ps := [VB (decide (a0_0 = 2)), VB (decide (a0_0 = 2))]) (by kernel_rfl) ?_ ?_ rfl hS ⟨hBw40_w, hBw40_w3, hBw40_w40⟩ ?_ ?_
  ·exact fun x y hI hb => ⟨below_step hI.1 hb, below_step hI.2.1 hb, below_step hI.2.2 hb⟩
  ·exact .v (.v (.nil))
  ·refine .on rfl (fun a w hS hI hp => does_val (x_bin rfl (hS.get 2 rfl) (rfl) (b_eql _ _ _ _ _ _)) rfl) ?_
   refine .asg 0 rfl rfl rfl rfl ?_
   exact .nil
  clear hS
  intro at43 w44 hS hI hp
  have hBw44_w := hI.1
  have hBw44_w3 := hI.2.1
  have hBw44_w40 := hI.2.2
  replace hS := (((hS.nil).cons (hS.get 2 rfl)).cons (hS.get 1 rfl)).cons (hS.get 0 rfl)
  have hv24 : sl _ 24 = .bool (decide (a0_0 = 2)) := hp 1 (by decide)
  have hBw44_w44 := Below.refl w44.heap.size w44
  have hS := hS.cons hv24
  clear hp hI hv24
  refine hK42 _ _ ?_
  (try clear hK42 K42)
  refine wp_cond_true ((hS.get 0 rfl).trans (bT (decide_eq_true c2))) ?_
  refine wp_seq_k (fun K45 hK45 => ?_)
  refine reg_seq (N := 56) (bs := [(24, .bool (decide (a0_0 = 2))), (1, .pointer (some ⟨g4, 0, none⟩)), (3, .int .i64 (a0_1.size : Int)), (8, .int .i64 a0_0)]) (I := fun x => Below w.heap.size w x ∧ Below w3.heap.size w3 x ∧ Below w44.heap.size w44 x) (ps := [VI (a0_1.size : Int), VB (decide ((a0_1.size : Int) ≥ 8)), VB (decide ((a0_1.size : Int) ≥ 8))]) (by kernel_rfl) ?_ ?_ rfl hS ⟨hBw44_w, hBw44_w3, hBw44_w44⟩ ?_ ?_
  ·exact fun x y hI hb => ⟨below_step hI.1 hb, below_step hI.2.1 hb, below_step hI.2.2 hb⟩
  ·exact .v (.v (.v (.nil)))
  ·refine .ms 2 rfl rfl rfl ?_
   refine .on rfl (fun a w hS hI hp => does_val (x_bin rfl (hp.V 0 rfl rfl) (rfl) (b_geq _ _ _ _ _ _)) rfl) ?_
   refine .asg 1 rfl rfl rfl rfl ?_
   exact .nil
  clear hS
  intro at46 w47 hS hI hp
  have hBw47_w := hI.1
  have hBw47_w3 := hI.2.1
  have hBw47_w44 := hI.2.2
  replace hS := hS.nil
  have hv2 : sl _ 2 = .bool (decide ((a0_1.size : Int) ≥ 8)) := hp 2 (by decide)
  have hBw47_w47 := Below.refl w47.heap.size w47
  have hS := hS.cons hv2
  clear hp hI hv2
  refine hK45 _ _ ?_
  (try clear hK45 K45)
  refine wp_ret ?_
  (try simp only [Exit.then, Exit.inBlock, Exit.jump, Exit.noGoto])
  exact bodyPost_ret (v := .bool (decide ((a0_1.size : Int) ≥ 8))) (results_single rfl (Vals.at (hS.get 0 rfl) .nil)) hS.nodef ⟨rfl, hBw47_w⟩
 rw [if_neg c2] at H
 by_cases c3 : a0_0 = 3
 ·rw [if_pos c3] at H
  obtain rfl := Option.some.inj H
  refine calls_of_wp (fn := Try.f19) (by kernel_rfl) rfl ?_
  have hS := St.enter #[.agg #[.int .i64 a0_0, .string a0_1]] 56 (by simp) [(0, .agg #[.int .i64 a0_0, .string a0_1])] (by simp)
  have HB0 := Below.refl w.heap.size w
  refine wp_seq_k (fun K1 hK1 => ?_)
  refine reg_seq (N := 56) (bs := [(0, .agg #[.int .i64 a0_0, .string a0_1])]) (I := fun x => Below w.heap.size w x) (ps := [IsB #[.int .i64 a0_0, .string a0_1] 26 w.heap.size, VB false]) (by kernel_rfl) ?_ ?_ rfl hS HB0 ?_ ?_
  ·exact fun x y hI hb => below_step hI hb
  ·exact .cons (Stays.b _ _ _) (.v (.nil))
  ·refine .on rfl (fun a w hS hI hp => does_var (x_box rfl (congrArg Value.cells (hS.get 0 rfl))) (hI).size) ?_
   refine .on rfl (fun a w hS hI hp => does_val (x_assign rfl (rfl)) rfl) ?_
   exact .nil
  clear hS
  intro at2 w3 hS hI hp
  have hBw3_w := hI
  replace hS := hS.nil
  obtain ⟨g4, hv1, hgeg4, hbxg4⟩ := (show IsB _ 26 _ (sl _ 1) _ from hp 0 (by decide))
  have hBw3_w3 := Below.refl w3.heap.size w3
  have hS := hS.cons hv1
  clear hp hI hv1
  refine hK1 _ _ ?_
  (try clear hK1 K1)
  refine wp_seq_k (fun K5 hK5 => ?_)
  refine reg_seq (N := 56) (bs := [(1, .pointer (some ⟨g4, 0, none⟩))]) (I := fun x => Below w.heap.size w x ∧ Below w3.heap.size w3 x) (ps := [VP g4 1, IsV (.string a0_1), VI (a0_1.size : Int), VI (a0_1.size : Int)]) (by kernel_rfl) ?_ ?_ rfl hS ⟨hBw3_w, hBw3_w3⟩ ?_ ?_
  ·exact fun x y hI hb => ⟨below_step hI.1 hb, below_step hI.2 hb⟩
  ·exact .v (.v (.v (.v (.nil))))
  ·refine .on rfl (fun a w hS hI hp => does_val (x_fieldE (b := 0) rfl (hS.get 0 rfl) Try.underlying26 rfl rfl (by kernel_rfl)) rfl) ?_
   refine .on rfl (fun a w hS hI hp => does_val (x_load1 (d := .string) rfl (hp.V 0 rfl rfl) (by kernel_rfl) rfl ((blk_cell (((hI.2).block g4 (blk_lt hbxg4)).trans hbxg4) 1).trans rfl)) rfl) ?_
   refine .on rfl (fun a w hS hI hp => does_val (x_lenS rfl (by kernel_rfl) (hp.V 1 rfl rfl)) rfl) ?_
   refine .asg 2 rfl rfl rfl rfl ?_
   exact .nil
  clear hS
  intro at6 w7 hS hI hp
  have hBw7_w := hI.1
  have hBw7_w3 := hI.2
  have hv3 : sl _ 3 = .int .i64 (a0_1.size : Int) := hp 3 (by decide)
  have hBw7_w7 := Below.refl w7.heap.size w7
  have hS := hS.cons hv3
  clear hp hI hv3
  refine hK5 _ _ ?_
  (try clear hK5 K5)
  refine wp_seq_k (fun K8 hK8 => ?_)
  refine wp_seq_k (fun K9 hK9 => ?_)
  refine reg_seq (N := 56) (bs := [(3, .int .i64 (a0_1.size : Int)), (1, .pointer (some ⟨g4, 0, none⟩))]) (I := fun x => Below w.heap.size w x ∧ Below w3.heap.size w3 x ∧ Below w7.heap.size w7 x) (ps := [VP g4 0, VI a0_0]) (by kernel_rfl) ?_ ?_ rfl hS ⟨hBw7_w, hBw7_w3, hBw7_w7⟩ ?_ ?_
  ·exact fun x y hI hb => ⟨below_step hI.1 hb, below_step hI.2.1 hb, below_step hI.2.2 hb⟩
  ·exact .v (.v (.nil))
  ·refine .on rfl (fun a w hS hI hp => does_val (x_fieldE (b := 0) rfl (hS.get 1 rfl) Try.underlying26 rfl rfl (by kernel_rfl)) rfl) ?_
   refine .on rfl (fun a w hS hI hp => does_val (x_load1 (d := .int .i64) rfl (hp.V 0 rfl rfl) (by kernel_rfl) rfl ((blk_cell (((hI.2.1).block g4 (blk_lt hbxg4)).trans hbxg4) 0).trans rfl)) rfl) ?_
   exact .nil
  clear hS
  intro at10 w11 hS hI hp
  have hBw11_w := hI.1
  have hBw11_w3 := hI.2.1
  have hBw11_w7 := hI.2.2
  have hv8 : sl _ 8 = .int .i64 a0_0 := hp 1 (by decide)
  have hBw11_w11 := Below.refl w11.heap.size w11
  have hS := hS.cons hv8
  clear hp hI hv8
  refine hK9 _ _ ?_
  (try clear hK9 K9)
  refine wp_block ?_
  refine wp_seq_k (fun K12 hK12 => ?_)
  refine wp_mono (Q := fun e a' w' => e = Exit.normal ∧ St 56 [(1, .pointer (some ⟨g4, 0, none⟩)), (3, .int .i64 (a0_1.size : Int)), (8, .int .i64 a0_0), (9, .bool (if a0_0 = 1 then decide (a0_0 = 1) else (if a0_0 = 6 then decide (a0_0 = 6) else decide (a0_0 = 7))))] a' ∧ Below w.heap.size w w' ∧ Below w3.heap.size w3 w' ∧ Below w11.heap.size w11 w') ?_ ?_
  ·by_cases d13_0 : a0_0 = 1
   ·refine wp_seq_k (fun K17 hK17 => ?_)
    refine reg_seq (N := 56) (bs := [(8, .int .i64 a0_0), (3, .int .i64 (a0_1.size : Int)), (1, .pointer (some ⟨g4, 0, none⟩))]) (I := fun x => Below w.heap.size w x ∧ Below w3.heap.size w3 x ∧ Below w11.heap.size w11 x) (ps := [VB (decide (a0_0 = 1)), VB (decide (a0_0 = 1))]) (by kernel_rfl) ?_ ?_ rfl hS ⟨hBw11_w, hBw11_w3, hBw11_w11⟩ ?_ ?_
    ·exact fun x y hI hb => ⟨below_step hI.1 hb, below_step hI.2.1 hb, below_step hI.2.2 hb⟩
    ·exact .v (.v (.nil))
    ·refine .on rfl (fun a w hS hI hp => does_val (x_bin rfl (hS.get 0 rfl) (rfl) (b_eql _ _ _ _ _ _)) rfl) ?_
     refine .asg 0 rfl rfl rfl rfl ?_
     exact .nil
    clear hS
    intro at18 w19 hS hI hp
    have hBw19_w := hI.1
    have hBw19_w3 := hI.2.1
    have hBw19_w11 := hI.2.2
    have hv9 : sl _ 9 = .bool (decide (a0_0 = 1)) := hp 1 (by decide)
    have hBw19_w19 := Below.refl w19.heap.size w19
    have hS := hS.cons hv9
    clear hp hI hv9
    refine hK17 _ _ ?_
    (try clear hK17 K17)
    refine wp_cond_true ((hS.get 0 rfl).trans (bT (decide_eq_true d13_0))) ?_
    refine wp_skip ?_
    (try simp only [Exit.then, Exit.inBlock, reduceIte])
    exact ⟨by trivial, ((((hS.nil).cons ((hS.get 0 rfl).trans (congrArg (Value.bool) (by simp only [if_pos d13_0])))).cons (hS.get 1 rfl)).cons (hS.get 2 rfl)).cons (hS.get 3 rfl), hBw19_w, hBw19_w3, hBw19_w11⟩
   ·by_cases d13_1 : a0_0 = 6
    ·refine wp_seq_k (fun K26 hK26 => ?_)
     refine reg_seq (N := 56) (bs := [(8, .int .i64 a0_0), (3, .int .i64 (a0_1.size : Int)), (1, .pointer (some ⟨g4, 0, none⟩))]) (I := fun x => Below w.heap.size w x ∧ Below w3.heap.size w3 x ∧ Below w11.heap.size w11 x) (ps := [VB (decide (a0_0 = 1)), VB (decide (a0_0 = 1))]) (by kernel_rfl) ?_ ?_ rfl hS ⟨hBw11_w, hBw11_w3, hBw11_w11⟩ ?_ ?_
     ·exact fun x y hI hb => ⟨below_step hI.1 hb, below_step hI.2.1 hb, below_step hI.2.2 hb⟩
     ·exact .v (.v (.nil))
     ·refine .on rfl (fun a w hS hI hp => does_val (x_bin rfl (hS.get 0 rfl) (rfl) (b_eql _ _ _ _ _ _)) rfl) ?_
      refine .asg 0 rfl rfl rfl rfl ?_
      exact .nil
     clear hS
     intro at27 w28 hS hI hp
     have hBw28_w := hI.1
     have hBw28_w3 := hI.2.1
     have hBw28_w11 := hI.2.2
     have hv9 : sl _ 9 = .bool (decide (a0_0 = 1)) := hp 1 (by decide)
     have hBw28_w28 := Below.refl w28.heap.size w28
     have hS := hS.cons hv9
     clear hp hI hv9
     refine hK26 _ _ ?_
     (try clear hK26 K26)
     refine wp_cond_false ((hS.get 0 rfl).trans (bF (decide_eq_false d13_0))) ?_
     refine wp_seq_k (fun K29 hK29 => ?_)
     replace hS := (((hS.nil).cons (hS.get 3 rfl)).cons (hS.get 2 rfl)).cons (hS.get 1 rfl)
     refine reg_seq (N := 56) (bs := [(8, .int .i64 a0_0), (3, .int .i64 (a0_1.size : Int)), (1, .pointer (some ⟨g4, 0, none⟩))]) (I := fun x => Below w.heap.size w x ∧ Below w3.heap.size w3 x ∧ Below w11.heap.size w11 x ∧ Below w28.heap.size w28 x) (ps := [VB (decide (a0_0 = 6)), VB (decide (a0_0 = 6))]) (by kernel_rfl) ?_ ?_ rfl hS ⟨hBw28_w, hBw28_w3, hBw28_w11, hBw28_w28⟩ ?_ ?_
     ·exact fun x y hI hb => ⟨below_step hI.1 hb, below_step hI.2.1 hb, below_step hI.2.2.1 hb, below_step hI.2.2.2 hb⟩
     ·exact .v (.v (.nil))
     ·refine .on rfl (fun a w hS hI hp => does_val (x_bin rfl (hS.get 0 rfl) (rfl) (b_eql _ _ _ _ _ _)) rfl) ?_
      refine .asg 0 rfl rfl rfl rfl ?_
      exact .nil
     clear hS
     intro at30 w31 hS hI hp
     have hBw31_w := hI.1
     have hBw31_w3 := hI.2.1
     have hBw31_w11 := hI.2.2.1
     have hBw31_w28 := hI.2.2.2
     have hv9 : sl _ 9 = .bool (decide (a0_0 = 6)) := hp 1 (by decide)
     have hBw31_w31 := Below.refl w31.heap.size w31
     have hS := hS.cons hv9
     clear hp hI hv9
     refine hK29 _ _ ?_
     (try clear hK29 K29)
     refine wp_cond_true ((hS.get 0 rfl).trans (bT (decide_eq_true d13_1))) ?_
     refine wp_skip ?_
     (try simp only [Exit.then, Exit.inBlock, reduceIte])
     exact ⟨by trivial, ((((hS.nil).cons ((hS.get 0 rfl).trans (congrArg (Value.bool) (by simp only [if_neg d13_0, if_pos d13_1])))).cons (hS.get 1 rfl)).cons (hS.get 2 rfl)).cons (hS.get 3 rfl), hBw31_w, hBw31_w3, hBw31_w11⟩
    ·refine wp_seq_k (fun K32 hK32 => ?_)
     refine reg_seq (N := 56) (bs := [(8, .int .i64 a0_0), (3, .int .i64 (a0_1.size : Int)), (1, .pointer (some ⟨g4, 0, none⟩))]) (I := fun x => Below w.heap.size w x ∧ Below w3.heap.size w3 x ∧ Below w11.heap.size w11 x) (ps := [VB (decide (a0_0 = 1)), VB (decide (a0_0 = 1))]) (by kernel_rfl) ?_ ?_ rfl hS ⟨hBw11_w, hBw11_w3, hBw11_w11⟩ ?_ ?_
     ·exact fun x y hI hb => ⟨below_step hI.1 hb, below_step hI.2.1 hb, below_step hI.2.2 hb⟩
     ·exact .v (.v (.nil))
     ·refine .on rfl (fun a w hS hI hp => does_val (x_bin rfl (hS.get 0 rfl) (rfl) (b_eql _ _ _ _ _ _)) rfl) ?_
      refine .asg 0 rfl rfl rfl rfl ?_
      exact .nil
     clear hS
     intro at33 w34 hS hI hp
     have hBw34_w := hI.1
     have hBw34_w3 := hI.2.1
     have hBw34_w11 := hI.2.2
     have hv9 : sl _ 9 = .bool (decide (a0_0 = 1)) := hp 1 (by decide)
     have hBw34_w34 := Below.refl w34.heap.size w34
     have hS := hS.cons hv9
     clear hp hI hv9
     refine hK32 _ _ ?_
     (try clear hK32 K32)
     refine wp_cond_false ((hS.get 0 rfl).trans (bF (decide_eq_false d13_0))) ?_
     refine wp_seq_k (fun K35 hK35 => ?_)
     replace hS := (((hS.nil).cons (hS.get 3 rfl)).cons (hS.get 2 rfl)).cons (hS.get 1 rfl)
     refine reg_seq (N := 56) (bs := [(8, .int .i64 a0_0), (3, .int .i64 (a0_1.size : Int)), (1, .pointer (some ⟨g4, 0, none⟩))]) (I := fun x => Below w.heap.size w x ∧ Below w3.heap.size w3 x ∧ Below w11.heap.size w11 x ∧ Below w34.heap.size w34 x) (ps := [VB (decide (a0_0 = 6)), VB (decide (a0_0 = 6))]) (by kernel_rfl) ?_ ?_ rfl hS ⟨hBw34_w, hBw34_w3, hBw34_w11, hBw34_w34⟩ ?_ ?_
     ·exact fun x y hI hb => ⟨below_step hI.1 hb, below_step hI.2.1 hb, below_step hI.2.2.1 hb, below_step hI.2.2.2 hb⟩
     ·exact .v (.v (.nil))
     ·refine .on rfl (fun a w hS hI hp => does_val (x_bin rfl (hS.get 0 rfl) (rfl) (b_eql _ _ _ _ _ _)) rfl) ?_
      refine .asg 0 rfl rfl rfl rfl ?_
      exact .nil
     clear hS
     intro at36 w37 hS hI hp
     have hBw37_w := hI.1
     have hBw37_w3 := hI.2.1
     have hBw37_w11 := hI.2.2.1
     have hBw37_w34 := hI.2.2.2
     have hv9 : sl _ 9 = .bool (decide (a0_0 = 6)) := hp 1 (by decide)
     have hBw37_w37 := Below.refl w37.heap.size w37
     have hS := hS.cons hv9
     clear hp hI hv9
     refine hK35 _ _ ?_
     (try clear hK35 K35)
     refine wp_cond_false ((hS.get 0 rfl).trans (bF (decide_eq_false d13_1))) ?_
     replace hS := (((hS.nil).cons (hS.get 3 rfl)).cons (hS.get 2 rfl)).cons (hS.get 1 rfl)
     refine reg_seq (N := 56) (bs := [(8, .int .i64 a0_0), (3, .int .i64 (a0_1.size : Int)), (1, .pointer (some ⟨g4, 0, none⟩))]) (I := fun x => Below w.heap.size w x ∧ Below w3.heap.size w3 x ∧ Below w11.heap.size w11 x ∧ Below w37.heap.size w37 x) (ps := [VB (decide (a0_0 = 7)), VB (decide (a0_0 = 7))]) (by kernel_rfl) ?_ ?_ rfl hS ⟨hBw37_w, hBw37_w3, hBw37_w11, hBw37_w37⟩ ?_ ?_
     ·exact fun x y hI hb => ⟨below_step hI.1 hb, below_step hI.2.1 hb, below_step hI.2.2.1 hb, below_step hI.2.2.2 hb⟩
     ·exact .v (.v (.nil))
     ·refine .on rfl (fun a w hS hI hp => does_val (x_bin rfl (hS.get 0 rfl) (rfl) (b_eql _ _ _ _ _ _)) rfl) ?_
      refine .asg 0 rfl rfl rfl rfl ?_
      exact .nil
     clear hS
     intro at38 w39 hS hI hp
     have hBw39_w := hI.1
     have hBw39_w3 := hI.2.1
     have hBw39_w11 := hI.2.2.1
     have hBw39_w37 := hI.2.2.2
     have hv9 : sl _ 9 = .bool (decide (a0_0 = 7)) := hp 1 (by decide)
     have hBw39_w39 := Below.refl w39.heap.size w39
     have hS := hS.cons hv9
     clear hp hI hv9
     (try simp only [Exit.then, Exit.inBlock, reduceIte])
     exact ⟨by trivial, ((((hS.nil).cons ((hS.get 0 rfl).trans (congrArg (Value.bool) (by simp only [if_neg d13_0, if_neg d13_1])))).cons (hS.get 1 rfl)).cons (hS.get 2 rfl)).cons (hS.get 3 rfl), hBw39_w, hBw39_w3, hBw39_w11⟩
  rintro e41 at41 w40 ⟨rfl, hS, hBw40_w, hBw40_w3, hBw40_w11⟩
  have hBw40_w40 := Below.refl w40.heap.size w40
  (try simp only [Exit.then, Exit.inBlock, reduceIte])
  refine hK12 _ _ ?_
  (try clear hK12 K12)
  refine wp_cond_false ((hS.get 3 rfl).trans (bF (Bool.eq_false_iff.2 c1))) ?_
  refine wp_seq_k (fun K42 hK42 => ?_)
  refine reg_seq (N := 56) (bs := [(1, .pointer (some ⟨g4, 0, none⟩)), (3, .int .i64 (a0_1.size : Int)), (8, .int .i64 a0_0), (9, .bool (if a0_0 = 1 then decide (a0_0 = 1) else (if a0_0 = 6 then decide (a0_0 = 6) else decide (a0_0 = 7))))]) (I := fun x => Below w.heap.size w x ∧ Below w3.heap.size w3 x ∧ Below w40.heap.size w40 x) (ps := [VB (decide (a0_0 = 2)), VB (decide (a0_0 = 2))]) (by kernel_rfl) ?_ ?_ rfl hS ⟨hBw40_w, hBw40_w3, hBw40_w40⟩ ?_ ?_
  ·exact fun x y hI hb => ⟨below_step hI.1 hb, below_step hI.2.1 hb, below_step hI.2.2 hb⟩
  ·exact .v (.v (.nil))
  ·refine .on rfl (fun a w hS hI hp => does_val (x_bin rfl (hS.get 2 rfl) (rfl) (b_eql _ _ _ _ _ _)) rfl) ?_
   refine .asg 0 rfl rfl rfl rfl ?_
   exact .nil
  clear hS
  intro at43 w44 hS hI hp
  have hBw44_w := hI.1
  have hBw44_w3 := hI.2.1
  have hBw44_w40 := hI.2.2
  replace hS := (((hS.nil).cons (hS.get 2 rfl)).cons (hS.get 1 rfl)).cons (hS.get 0 rfl)
  have hv24 : sl _ 24 = .bool (decide (a0_0 = 2)) := hp 1 (by decide)
  have hBw44_w44 := Below.refl w44.heap.size w44
  have hS := hS.cons hv24
  clear hp hI hv24
  refine hK42 _ _ ?_
  (try clear hK42 K42)
  refine wp_cond_false ((hS.get 0 rfl).trans (bF (decide_eq_false c2))) ?_
  refine wp_seq_k (fun K45 hK45 => ?_)
  refine reg_seq (N := 56) (bs := [(24, .bool (decide (a0_0 = 2))), (1, .pointer (some ⟨g4, 0, none⟩)), (3, .int .i64 (a0_1.size : Int)), (8, .int .i64 a0_0)]) (I := fun x => Below w.heap.size w x ∧ Below w3.heap.size w3 x ∧ Below w44.heap.size w44 x) (ps := [VB (decide (a0_0 = 3)), VB (decide (a0_0 = 3))]) (by kernel_rfl) ?_ ?_ rfl hS ⟨hBw44_w, hBw44_w3, hBw44_w44⟩ ?_ ?_
  ·exact fun x y hI hb => ⟨below_step hI.1 hb, below_step hI.2.1 hb, below_step hI.2.2 hb⟩
  ·exact .v (.v (.nil))
  ·refine .on rfl (fun a w hS hI hp => does_val (x_bin rfl (hS.get 3 rfl) (rfl) (b_eql _ _ _ _ _ _)) rfl) ?_
   refine .asg 0 rfl rfl rfl rfl ?_
   exact .nil
  clear hS
  intro at46 w47 hS hI hp
  have hBw47_w := hI.1
  have hBw47_w3 := hI.2.1
  have hBw47_w44 := hI.2.2
  replace hS := (((hS.nil).cons (hS.get 3 rfl)).cons (hS.get 2 rfl)).cons (hS.get 1 rfl)
  have hv28 : sl _ 28 = .bool (decide (a0_0 = 3)) := hp 1 (by decide)
  have hBw47_w47 := Below.refl w47.heap.size w47
  have hS := hS.cons hv28
  clear hp hI hv28
  refine hK45 _ _ ?_
  (try clear hK45 K45)
  refine wp_cond_true ((hS.get 0 rfl).trans (bT (decide_eq_true c3))) ?_
  refine wp_seq_k (fun K48 hK48 => ?_)
  refine reg_seq (N := 56) (bs := [(28, .bool (decide (a0_0 = 3))), (1, .pointer (some ⟨g4, 0, none⟩)), (3, .int .i64 (a0_1.size : Int)), (8, .int .i64 a0_0)]) (I := fun x => Below w.heap.size w x ∧ Below w3.heap.size w3 x ∧ Below w47.heap.size w47 x) (ps := [VI (a0_1.size : Int), VB (decide ((a0_1.size : Int) ≥ 6)), VB (decide ((a0_1.size : Int) ≥ 6))]) (by kernel_rfl) ?_ ?_ rfl hS ⟨hBw47_w, hBw47_w3, hBw47_w47⟩ ?_ ?_
  ·exact fun x y hI hb => ⟨below_step hI.1 hb, below_step hI.2.1 hb, below_step hI.2.2 hb⟩
  ·exact .v (.v (.v (.nil)))
  ·refine .ms 2 rfl rfl rfl ?_
   refine .on rfl (fun a w hS hI hp => does_val (x_bin rfl (hp.V 0 rfl rfl) (rfl) (b_geq _ _ _ _ _ _)) rfl) ?_
   refine .asg 1 rfl rfl rfl rfl ?_
   exact .nil
  clear hS
  intro at49 w50 hS hI hp
  have hBw50_w := hI.1
  have hBw50_w3 := hI.2.1
  have hBw50_w47 := hI.2.2
  replace hS := hS.nil
  have hv2 : sl _ 2 = .bool (decide ((a0_1.size : Int) ≥ 6)) := hp 2 (by decide)
  have hBw50_w50 := Below.refl w50.heap.size w50
  have hS := hS.cons hv2
  clear hp hI hv2
  refine hK48 _ _ ?_
  (try clear hK48 K48)
  refine wp_ret ?_
  (try simp only [Exit.then, Exit.inBlock, Exit.jump, Exit.noGoto])
  exact bodyPost_ret (v := .bool (decide ((a0_1.size : Int) ≥ 6))) (results_single rfl (Vals.at (hS.get 0 rfl) .nil)) hS.nodef ⟨rfl, hBw50_w⟩
 rw [if_neg c3] at H
 by_cases c4 : a0_0 = 4
 ·rw [if_pos c4] at H
  obtain rfl := Option.some.inj H
  refine calls_of_wp (fn := Try.f19) (by kernel_rfl) rfl ?_
  have hS := St.enter #[.agg #[.int .i64 a0_0, .string a0_1]] 56 (by simp) [(0, .agg #[.int .i64 a0_0, .string a0_1])] (by simp)
  have HB0 := Below.refl w.heap.size w
  refine wp_seq_k (fun K1 hK1 => ?_)
  refine reg_seq (N := 56) (bs := [(0, .agg #[.int .i64 a0_0, .string a0_1])]) (I := fun x => Below w.heap.size w x) (ps := [IsB #[.int .i64 a0_0, .string a0_1] 26 w.heap.size, VB false]) (by kernel_rfl) ?_ ?_ rfl hS HB0 ?_ ?_
  ·exact fun x y hI hb => below_step hI hb
  ·exact .cons (Stays.b _ _ _) (.v (.nil))
  ·refine .on rfl (fun a w hS hI hp => does_var (x_box rfl (congrArg Value.cells (hS.get 0 rfl))) (hI).size) ?_
   refine .on rfl (fun a w hS hI hp => does_val (x_assign rfl (rfl)) rfl) ?_
   exact .nil
  clear hS
  intro at2 w3 hS hI hp
  have hBw3_w := hI
  replace hS := hS.nil
  obtain ⟨g4, hv1, hgeg4, hbxg4⟩ := (show IsB _ 26 _ (sl _ 1) _ from hp 0 (by decide))
  have hBw3_w3 := Below.refl w3.heap.size w3
  have hS := hS.cons hv1
  clear hp hI hv1
  refine hK1 _ _ ?_
  (try clear hK1 K1)
  refine wp_seq_k (fun K5 hK5 => ?_)
  refine reg_seq (N := 56) (bs := [(1, .pointer (some ⟨g4, 0, none⟩))]) (I := fun x => Below w.heap.size w x ∧ Below w3.heap.size w3 x) (ps := [VP g4 1, IsV (.string a0_1), VI (a0_1.size : Int), VI (a0_1.size : Int)]) (by kernel_rfl) ?_ ?_ rfl hS ⟨hBw3_w, hBw3_w3⟩ ?_ ?_
  ·exact fun x y hI hb => ⟨below_step hI.1 hb, below_step hI.2 hb⟩
  ·exact .v (.v (.v (.v (.nil))))
  ·refine .on rfl (fun a w hS hI hp => does_val (x_fieldE (b := 0) rfl (hS.get 0 rfl) Try.underlying26 rfl rfl (by kernel_rfl)) rfl) ?_
   refine .on rfl (fun a w hS hI hp => does_val (x_load1 (d := .string) rfl (hp.V 0 rfl rfl) (by kernel_rfl) rfl ((blk_cell (((hI.2).block g4 (blk_lt hbxg4)).trans hbxg4) 1).trans rfl)) rfl) ?_
   refine .on rfl (fun a w hS hI hp => does_val (x_lenS rfl (by kernel_rfl) (hp.V 1 rfl rfl)) rfl) ?_
   refine .asg 2 rfl rfl rfl rfl ?_
   exact .nil
  clear hS
  intro at6 w7 hS hI hp
  have hBw7_w := hI.1
  have hBw7_w3 := hI.2
  have hv3 : sl _ 3 = .int .i64 (a0_1.size : Int) := hp 3 (by decide)
  have hBw7_w7 := Below.refl w7.heap.size w7
  have hS := hS.cons hv3
  clear hp hI hv3
  refine hK5 _ _ ?_
  (try clear hK5 K5)
  refine wp_seq_k (fun K8 hK8 => ?_)
  refine wp_seq_k (fun K9 hK9 => ?_)
  refine reg_seq (N := 56) (bs := [(3, .int .i64 (a0_1.size : Int)), (1, .pointer (some ⟨g4, 0, none⟩))]) (I := fun x => Below w.heap.size w x ∧ Below w3.heap.size w3 x ∧ Below w7.heap.size w7 x) (ps := [VP g4 0, VI a0_0]) (by kernel_rfl) ?_ ?_ rfl hS ⟨hBw7_w, hBw7_w3, hBw7_w7⟩ ?_ ?_
  ·exact fun x y hI hb => ⟨below_step hI.1 hb, below_step hI.2.1 hb, below_step hI.2.2 hb⟩
  ·exact .v (.v (.nil))
  ·refine .on rfl (fun a w hS hI hp => does_val (x_fieldE (b := 0) rfl (hS.get 1 rfl) Try.underlying26 rfl rfl (by kernel_rfl)) rfl) ?_
   refine .on rfl (fun a w hS hI hp => does_val (x_load1 (d := .int .i64) rfl (hp.V 0 rfl rfl) (by kernel_rfl) rfl ((blk_cell (((hI.2.1).block g4 (blk_lt hbxg4)).trans hbxg4) 0).trans rfl)) rfl) ?_
   exact .nil
  clear hS
  intro at10 w11 hS hI hp
  have hBw11_w := hI.1
  have hBw11_w3 := hI.2.1
  have hBw11_w7 := hI.2.2
  have hv8 : sl _ 8 = .int .i64 a0_0 := hp 1 (by decide)
  have hBw11_w11 := Below.refl w11.heap.size w11
  have hS := hS.cons hv8
  clear hp hI hv8
  refine hK9 _ _ ?_
  (try clear hK9 K9)
  refine wp_block ?_
  refine wp_seq_k (fun K12 hK12 => ?_)
  refine wp_mono (Q := fun e a' w' => e = Exit.normal ∧ St 56 [(1, .pointer (some ⟨g4, 0, none⟩)), (3, .int .i64 (a0_1.size : Int)), (8, .int .i64 a0_0), (9, .bool (if a0_0 = 1 then decide (a0_0 = 1) else (if a0_0 = 6 then decide (a0_0 = 6) else decide (a0_0 = 7))))] a' ∧ Below w.heap.size w w' ∧ Below w3.heap.size w3 w' ∧ Below w11.heap.size w11 w') ?_ ?_
  ·by_cases d13_0 : a0_0 = 1
   ·refine wp_seq_k (fun K17 hK17 => ?_)
    refine reg_seq (N := 56) (bs := [(8, .int .i64 a0_0), (3, .int .i64 (a0_1.size : Int)), (1, .pointer (some ⟨g4, 0, none⟩))]) (I := fun x => Below w.heap.size w x ∧ Below w3.heap.size w3 x ∧ Below w11.heap.size w11 x) (ps := [VB (decide (a0_0 = 1)), VB (decide (a0_0 = 1))]) (by kernel_rfl) ?_ ?_ rfl hS ⟨hBw11_w, hBw11_w3, hBw11_w11⟩ ?_ ?_
    ·exact fun x y hI hb => ⟨below_step hI.1 hb, below_step hI.2.1 hb, below_step hI.2.2 hb⟩
    ·exact .v (.v (.nil))
    ·refine .on rfl (fun a w hS hI hp => does_val (x_bin rfl (hS.get 0 rfl) (rfl) (b_eql _ _ _ _ _ _)) rfl) ?_
     refine .asg 0 rfl rfl rfl rfl ?_
     exact .nil
    clear hS
    intro at18 w19 hS hI hp
    have hBw19_w := hI.1
    have hBw19_w3 := hI.2.1
    have hBw19_w11 := hI.2.2
    have hv9 : sl _ 9 = .bool (decide (a0_0 = 1)) := hp 1 (by decide)
    have hBw19_w19 := Below.refl w19.heap.size w19
    have hS := hS.cons hv9
    clear hp hI hv9
    refine hK17 _ _ ?_
    (try clear hK17 K17)
    refine wp_cond_true ((hS.get 0 rfl).trans (bT (decide_eq_true d13_0))) ?_
    refine wp_skip ?_
    (try simp only [Exit.then, Exit.inBlock, reduceIte])
    exact ⟨by trivial, ((((hS.nil).cons ((hS.get 0 rfl).trans (congrArg (Value.bool) (by simp only [if_pos d13_0])))).cons (hS.get 1 rfl)).cons (hS.get 2 rfl)).cons (hS.get 3 rfl), hBw19_w, hBw19_w3, hBw19_w11⟩
   ·by_cases d13_1 : a0_0 = 6
    ·refine wp_seq_k (fun K26 hK26 => ?_)
     refine reg_seq (N := 56) (bs := [(8, .int .i64 a0_0), (3, .int .i64 (a0_1.size : Int)), (1, .pointer (some ⟨g4, 0, none⟩))]) (I := fun x => Below w.heap.size w x ∧ Below w3.heap.size w3 x ∧ Below w11.heap.size w11 x) (ps := [VB (decide (a0_0 = 1)), VB (decide (a0_0 = 1))]) (by kernel_rfl) ?_ ?_ rfl hS ⟨hBw11_w, hBw11_w3, hBw11_w11⟩ ?_ ?_
     ·exact fun x y hI hb => ⟨below_step hI.1 hb, below_step hI.2.1 hb, below_step hI.2.2 hb⟩
     ·exact .v (.v (.nil))
     ·refine .on rfl (fun a w hS hI hp => does_val (x_bin rfl (hS.get 0 rfl) (rfl) (b_eql _ _ _ _ _ _)) rfl) ?_
      refine .asg 0 rfl rfl rfl rfl ?_
      exact .nil
     clear hS
     intro at27 w28 hS hI hp
     have hBw28_w := hI.1
     have hBw28_w3 := hI.2.1
     have hBw28_w11 := hI.2.2
     have hv9 : sl _ 9 = .bool (decide (a0_0 = 1)) := hp 1 (by decide)
     have hBw28_w28 := Below.refl w28.heap.size w28
     have hS := hS.cons hv9
     clear hp hI hv9
     refine hK26 _ _ ?_
     (try clear hK26 K26)
     refine wp_cond_false ((hS.get 0 rfl).trans (bF (decide_eq_false d13_0))) ?_
     refine wp_seq_k (fun K29 hK29 => ?_)
     replace hS := (((hS.nil).cons (hS.get 3 rfl)).cons (hS.get 2 rfl)).cons (hS.get 1 rfl)
     refine reg_seq (N := 56) (bs := [(8, .int .i64 a0_0), (3, .int .i64 (a0_1.size : Int)), (1, .pointer (some ⟨g4, 0, none⟩))]) (I := fun x => Below w.heap.size w x ∧ Below w3.heap.size w3 x ∧ Below w11.heap.size w11 x ∧ Below w28.heap.size w28 x) (ps := [VB (decide (a0_0 = 6)), VB (decide (a0_0 = 6))]) (by kernel_rfl) ?_ ?_ rfl hS ⟨hBw28_w, hBw28_w3, hBw28_w11, hBw28_w28⟩ ?_ ?_
     ·exact fun x y hI hb => ⟨below_step hI.1 hb, below_step hI.2.1 hb, below_step hI.2.2.1 hb, below_step hI.2.2.2 hb⟩
     ·exact .v (.v (.nil))
     ·refine .on rfl (fun a w hS hI hp => does_val (x_bin rfl (hS.get 0 rfl) (rfl) (b_eql _ _ _ _ _ _)) rfl) ?_
      refine .asg 0 rfl rfl rfl rfl ?_
      exact .nil
     clear hS
     intro at30 w31 hS hI hp
     have hBw31_w := hI.1
     have hBw31_w3 := hI.2.1
     have hBw31_w11 := hI.2.2.1
     have hBw31_w28 := hI.2.2.2
     have hv9 : sl _ 9 = .bool (decide (a0_0 = 6)) := hp 1 (by decide)
     have hBw31_w31 := Below.refl w31.heap.size w31
     have hS := hS.cons hv9
     clear hp hI hv9
     refine hK29 _ _ ?_
     (try clear hK29 K29)
     refine wp_cond_true ((hS.get 0 rfl).trans (bT (decide_eq_true d13_1))) ?_
     refine wp_skip ?_
     (try simp only [Exit.then, Exit.inBlock, reduceIte])
     exact ⟨by trivial, ((((hS.nil).cons ((hS.get 0 rfl).trans (congrArg (Value.bool) (by simp only [if_neg d13_0, if_pos d13_1])))).cons (hS.get 1 rfl)).cons (hS.get 2 rfl)).cons (hS.get 3 rfl), hBw31_w, hBw31_w3, hBw31_w11⟩
    ·refine wp_seq_k (fun K32 hK32 => ?_)
     refine reg_seq (N := 56) (bs := [(8, .int .i64 a0_0), (3, .int .i64 (a0_1.size : Int)), (1, .pointer (some ⟨g4, 0, none⟩))]) (I := fun x => Below w.heap.size w x ∧ Below w3.heap.size w3 x ∧ Below w11.heap.size w11 x) (ps := [VB (decide (a0_0 = 1)), VB (decide (a0_0 = 1))]) (by kernel_rfl) ?_ ?_ rfl hS ⟨hBw11_w, hBw11_w3, hBw11_w11⟩ ?_ ?_
     ·exact fun x y hI hb => ⟨below_step hI.1 hb, below_step hI.2.1 hb, below_step hI.2.2 hb⟩
     ·exact .v (.v (.nil))
     ·refine .on rfl (fun a w hS hI hp => does_val (x_bin rfl (hS.get 0 rfl) (rfl) (b_eql _ _ _ _ _ _)) rfl) ?_
      refine .asg 0 rfl rfl rfl rfl ?_
      exact .nil
     clear hS
     intro at33 w34 hS hI hp
     have hBw34_w := hI.1
     have hBw34_w3 := hI.2.1
     have hBw34_w11 := hI.2.2
     have hv9 : sl _ 9 = .bool (decide (a0_0 = 1)) := hp 1 (by decide)
     have hBw34_w34 := Below.refl w34.heap.size w34
     have hS := hS.cons hv9
     clear hp hI hv9
     refine hK32 _ _ ?_
     (try clear hK32 K32)
     refine wp_cond_false ((hS.get 0 rfl).trans (bF (decide_eq_false d13_0))) ?_
     refine wp_seq_k (fun K35 hK35 => ?_)
     replace hS := (((hS.nil).cons (hS.get 3 rfl)).cons (hS.get 2 rfl)).cons (hS.get 1 rfl)
     refine reg_seq (N := 56) (bs := [(8, .int .i64 a0_0), (3, .int .i64 (a0_1.size : Int)), (1, .pointer (some ⟨g4, 0, none⟩))]) (I := fun x => Below w.heap.size w x ∧ Below w3.heap.size w3 x ∧ Below w11.heap.size w11 x ∧ Below w34.heap.size w34 x) (ps := [VB (decide (a0_0 = 6)), VB (decide (a0_0 = 6))]) (by kernel_rfl) ?_ ?_ rfl hS ⟨hBw34_w, hBw34_w3, hBw34_w11, hBw34_w34⟩ ?_ ?_
     ·exact fun x y hI hb => ⟨below_step hI.1 hb, below_step hI.2.1 hb, below_step hI.2.2.1 hb, below_step hI.2.2.2 hb⟩
     ·exact .v (.v (.nil))
     ·refine .on rfl (fun a w hS hI hp => does_val (x_bin rfl (hS.get 0 rfl) (rfl) (b_eql _ _ _ _ _ _)) rfl) ?_
      refine .asg 0 rfl rfl rfl rfl ?_
      exact .nil
     clear hS
     intro at36 w37 hS hI hp
     have hBw37_w := hI.1
     have hBw37_w3 := hI.2.1
     have hBw37_w11 := hI.2.2.1
     have hBw37_w34 := hI.2.2.2
     have hv9 : sl _ 9 = .bool (decide (a0_0 = 6)) := hp 1 (by decide)
     have hBw37_w37 := Below.refl w37.heap.size w37
     have hS := hS.cons hv9
     clear hp hI hv9
     refine hK35 _ _ ?_
     (try clear hK35 K35)
     refine wp_cond_false ((hS.get 0 rfl).trans (bF (decide_eq_false d13_1))) ?_
     replace hS := (((hS.nil).cons (hS.get 3 rfl)).cons (hS.get 2 rfl)).cons (hS.get 1 rfl)
     refine reg_seq (N := 56) (bs := [(8, .int .i64 a0_0), (3, .int .i64 (a0_1.size : Int)), (1, .pointer (some ⟨g4, 0, none⟩))]) (I := fun x => Below w.heap.size w x ∧ Below w3.heap.size w3 x ∧ Below w11.heap.size w11 x ∧ Below w37.heap.size w37 x) (ps := [VB (decide (a0_0 = 7)), VB (decide (a0_0 = 7))]) (by kernel_rfl) ?_ ?_ rfl hS ⟨hBw37_w, hBw37_w3, hBw37_w11, hBw37_w37⟩ ?_ ?_
     ·exact fun x y hI hb => ⟨below_step hI.1 hb, below_step hI.2.1 hb, below_step hI.2.2.1 hb, below_step hI.2.2.2 hb⟩
     ·exact .v (.v (.nil))
     ·refine .on rfl (fun a w hS hI hp => does_val (x_bin rfl (hS.get 0 rfl) (rfl) (b_eql _ _ _ _ _ _)) rfl) ?_
      refine .asg 0 rfl rfl rfl rfl ?_
      exact .nil
     clear hS
     intro at38 w39 hS hI hp
     have hBw39_w := hI.1
     have hBw39_w3 := hI.2.1
     have hBw39_w11 := hI.2.2.1
     have hBw39_w37 := hI.2.2.2
     have hv9 : sl _ 9 = .bool (decide (a0_0 = 7)) := hp 1 (by decide)
     have hBw39_w39 := Below.refl w39.heap.size w39
     have hS := hS.cons hv9
     clear hp hI hv9
     (try simp only [Exit.then, Exit.inBlock, reduceIte])
     exact ⟨by trivial, ((((hS.nil).cons ((hS.get 0 rfl).trans (congrArg (Value.bool) (by simp only [if_neg d13_0, if_neg d13_1])))).cons (hS.get 1 rfl)).cons (hS.get 2 rfl)).cons (hS.get 3 rfl), hBw39_w, hBw39_w3, hBw39_w11⟩
  rintro e41 at41 w40 ⟨rfl, hS, hBw40_w, hBw40_w3, hBw40_w11⟩
  have hBw40_w40 := Below.refl w40.heap.size w40
  (try simp only [Exit.then, Exit.inBlock, reduceIte])
  refine hK12 _ _ ?_
  (try clear hK12 K12)
  refine wp_cond_false ((hS.get 3 rfl).trans (bF (Bool.eq_false_iff.2 c1))) ?_
  refine wp_seq_k (fun K42 hK42 => ?_)
  refine reg_seq (N := 56) (bs := [(1, .pointer (some ⟨g4, 0, none⟩)), (3, .int .i64 (a0_1.size : Int)), (8, .int .i64 a0_0), (9, .bool (if a0_0 = 1 then decide (a0_0 = 1) else (if a0_0 = 6 then decide (a0_0 = 6) else decide (a0_0 = 7))))]) (I := fun x => Below w.heap.size w x ∧ Below w3.heap.size w3 x ∧ Below w40.heap.size w40 x) (ps := [VB (decide (a0_0 = 2)), VB (decide (a0_0 = 2))]) (by kernel_rfl) ?_ ?_ rfl hS ⟨hBw40_w, hBw40_w3, hBw40_w40⟩ ?_ ?_
  ·exact fun x y hI hb => ⟨below_step hI.1 hb, below_step hI.2.1 hb, below_step hI.2.2 hb⟩
  ·exact .v (.v (.nil))
  ·refine .on rfl (fun a w hS hI hp => does_val (x_bin rfl (hS.get 2 rfl) (rfl) (b_eql _ _ _ _ _ _)) rfl) ?_
   refine .asg 0 rfl rfl rfl rfl ?_
   exact .nil
  clear hS
  intro at43 w44 hS hI hp
  have hBw44_w := hI.1
  have hBw44_w3 := hI.2.1
  have hBw44_w40 := hI.2.2
  replace hS := (((hS.nil).cons (hS.get 2 rfl)).cons (hS.get 1 rfl)).cons (hS.get 0 rfl)
  have hv24 : sl _ 24 = .bool (decide (a0_0 = 2)) := hp 1 (by decide)
  have hBw44_w44 := Below.refl w44.heap.size w44
  have hS := hS.cons hv24
  clear hp hI hv24
  refine hK42 _ _ ?_
  (try clear hK42 K42)
  refine wp_cond_false ((hS.get 0 rfl).trans (bF (decide_eq_false c2))) ?_
  refine wp_seq_k (fun K45 hK45 => ?_)
  refine reg_seq (N := 56) (bs := [(24, .bool (decide (a0_0 = 2))), (1, .pointer (some ⟨g4, 0, none⟩)), (3, .int .i64 (a0_1.size : Int)), (8, .int .i64 a0_0)]) (I := fun x => Below w.heap.size w x ∧ Below w3.heap.size w3 x ∧ Below w44.heap.size w44 x) (ps := [VB (decide (a0_0 = 3)), VB (decide (a0_0 = 3))]) (by kernel_rfl) ?_ ?_ rfl hS ⟨hBw44_w, hBw44_w3, hBw44_w44⟩ ?_ ?_
  ·exact fun x y hI hb => ⟨below_step hI.1 hb, below_step hI.2.1 hb, below_step hI.2.2 hb⟩
  ·exact .v (.v (.nil))
  ·refine .on rfl (fun a w hS hI hp => does_val (x_bin rfl (hS.get 3 rfl) (rfl) (b_eql _ _ _ _ _ _)) rfl) ?_
   refine .asg 0 rfl rfl rfl rfl ?_
   exact .nil
  clear hS
  intro at46 w47 hS hI hp
  have hBw47_w := hI.1
  have hBw47_w3 := hI.2.1
  have hBw47_w44 := hI.2.2
  replace hS := (((hS.nil).cons (hS.get 3 rfl)).cons (hS.get 2 rfl)).cons (hS.get 1 rfl)
  have hv28 : sl _ 28 = .bool (decide (a0_0 = 3)) := hp 1 (by decide)
  have hBw47_w47 := Below.refl w47.heap.size w47
  have hS := hS.cons hv28
  clear hp hI hv28
  refine hK45 _ _ ?_
  (try clear hK45 K45)
  refine wp_cond_false ((hS.get 0 rfl).trans (bF (decide_eq_false c3))) ?_
  refine wp_seq_k (fun K48 hK48 => ?_)
  refine reg_seq (N := 56) (bs := [(28, .bool (decide (a0_0 = 3))), (1, .pointer (some ⟨g4, 0, none⟩)), (3, .int .i64 (a0_1.size : Int)), (8, .int .i64 a0_0)]) (I := fun x => Below w.heap.size w x ∧ Below w3.heap.size w3 x ∧ Below w47.heap.size w47 x) (ps := [VB (decide (a0_0 = 4)), VB (decide (a0_0 = 4))]) (by kernel_rfl) ?_ ?_ rfl hS ⟨hBw47_w, hBw47_w3, hBw47_w47⟩ ?_ ?_
  ·exact fun x y hI hb => ⟨below_step hI.1 hb, below_step hI.2.1 hb, below_step hI.2.2 hb⟩
  ·exact .v (.v (.nil))
  ·refine .on rfl (fun a w hS hI hp => does_val (x_bin rfl (hS.get 3 rfl) (rfl) (b_eql _ _ _ _ _ _)) rfl) ?_
   refine .asg 0 rfl rfl rfl rfl ?_
   exact .nil
  clear hS
  intro at49 w50 hS hI hp
  have hBw50_w := hI.1
  have hBw50_w3 := hI.2.1
  have hBw50_w47 := hI.2.2
  replace hS := (((hS.nil).cons (hS.get 3 rfl)).cons (hS.get 2 rfl)).cons (hS.get 1 rfl)
  have hv32 : sl _ 32 = .bool (decide (a0_0 = 4)) := hp 1 (by decide)
  have hBw50_w50 := Below.refl w50.heap.size w50
  have hS := hS.cons hv32
  clear hp hI hv32
  refine hK48 _ _ ?_
  (try clear hK48 K48)
  refine wp_cond_true ((hS.get 0 rfl).trans (bT (decide_eq_true c4))) ?_
  refine wp_seq_k (fun K51 hK51 => ?_)
  refine reg_seq (N := 56) (bs := [(32, .bool (decide (a0_0 = 4))), (1, .pointer (some ⟨g4, 0, none⟩)), (3, .int .i64 (a0_1.size : Int)), (8, .int .i64 a0_0)]) (I := fun x => Below w.heap.size w x ∧ Below w3.heap.size w3 x ∧ Below w50.heap.size w50 x) (ps := [VI (a0_1.size : Int), VB (decide ((a0_1.size : Int) = 6)), VB (decide ((a0_1.size : Int) = 6))]) (by kernel_rfl) ?_ ?_ rfl hS ⟨hBw50_w, hBw50_w3, hBw50_w50⟩ ?_ ?_
  ·exact fun x y hI hb => ⟨below_step hI.1 hb, below_step hI.2.1 hb, below_step hI.2.2 hb⟩
  ·exact .v (.v (.v (.nil)))
  ·refine .ms 2 rfl rfl rfl ?_
   refine .on rfl (fun a w hS hI hp => does_val (x_bin rfl (hp.V 0 rfl rfl) (rfl) (b_eql _ _ _ _ _ _)) rfl) ?_
   refine .asg 1 rfl rfl rfl rfl ?_
   exact .nil
  clear hS
  intro at52 w53 hS hI hp
  have hBw53_w := hI.1
  have hBw53_w3 := hI.2.1
  have hBw53_w50 := hI.2.2
  replace hS := hS.nil
  have hv2 : sl _ 2 = .bool (decide ((a0_1.size : Int) = 6)) := hp 2 (by decide)
  have hBw53_w53 := Below.refl w53.heap.size w53
  have hS := hS.cons hv2
  clear hp hI hv2
  refine hK51 _ _ ?_
  (try clear hK51 K51)
  refine wp_ret ?_
  (try simp only [Exit.then, Exit.inBlock, Exit.jump, Exit.noGoto])
  exact bodyPost_ret (v := .bool (decide ((a0_1.size : Int) = 6))) (results_single rfl (Vals.at (hS.get 0 rfl) .nil)) hS.nodef ⟨rfl, hBw53_w⟩
 rw [if_neg c4] at H
 by_cases c5 : a0_0 = 5
 ·rw [if_pos c5] at H
  obtain rfl := Option.some.inj H
  refine calls_of_wp (fn := Try.f19) (by kernel_rfl) rfl ?_
  have hS := St.enter #[.agg #[.int .i64 a0_0, .string a0_1]] 56 (by simp) [(0, .agg #[.int .i64 a0_0, .string a0_1])] (by simp)
  have HB0 := Below.refl w.heap.size w
  refine wp_seq_k (fun K1 hK1 => ?_)
  refine reg_seq (N := 56) (bs := [(0, .agg #[.int .i64 a0_0, .string a0_1])]) (I := fun x => Below w.heap.size w x) (ps := [IsB #[.int .i64 a0_0, .string a0_1] 26 w.heap.size, VB false]) (by kernel_rfl) ?_ ?_ rfl hS HB0 ?_ ?_
  ·exact fun x y hI hb => below_step hI hb
  ·exact .cons (Stays.b _ _ _) (.v (.nil))
  ·refine .on rfl (fun a w hS hI hp => does_var (x_box rfl (congrArg Value.cells (hS.get 0 rfl))) (hI).size) ?_
   refine .on rfl (fun a w hS hI hp => does_val (x_assign rfl (rfl)) rfl) ?_
   exact .nil
  clear hS
  intro at2 w3 hS hI hp
  have hBw3_w := hI
  replace hS := hS.nil
  obtain ⟨g4, hv1, hgeg4, hbxg4⟩ := (show IsB _ 26 _ (sl _ 1) _ from hp 0 (by decide))
  have hBw3_w3 := Below.refl w3.heap.size w3
  have hS := hS.cons hv1
  clear hp hI hv1
  refine hK1 _ _ ?_
  (try clear hK1 K1)
  refine wp_seq_k (fun K5 hK5 => ?_)
  refine reg_seq (N := 56) (bs := [(1, .pointer (some ⟨g4, 0, none⟩))]) (I := fun x => Below w.heap.size w x ∧ Below w3.heap.size w3 x) (ps := [VP g4 1, IsV (.string a0_1), VI (a0_1.size : Int), VI (a0_1.size : Int)]) (by kernel_rfl) ?_ ?_ rfl hS ⟨hBw3_w, hBw3_w3⟩ ?_ ?_
  ·exact fun x y hI hb => ⟨below_step hI.1 hb, below_step hI.2 hb⟩
  ·exact .v (.v (.v (.v (.nil))))
  ·refine .on rfl (fun a w hS hI hp => does_val (x_fieldE (b := 0) rfl (hS.get 0 rfl) Try.underlying26 rfl rfl (by kernel_rfl)) rfl) ?_
   refine .on rfl (fun a w hS hI hp => does_val (x_load1 (d := .string) rfl (hp.V 0 rfl rfl) (by kernel_rfl) rfl ((blk_cell (((hI.2).block g4 (blk_lt hbxg4)).trans hbxg4) 1).trans rfl)) rfl) ?_
   refine .on rfl (fun a w hS hI hp => does_val (x_lenS rfl (by kernel_rfl) (hp.V 1 rfl rfl)) rfl) ?_
   refine .asg 2 rfl rfl rfl rfl ?_
   exact .nil
  clear hS
  intro at6 w7 hS hI hp
  have hBw7_w := hI.1
  have hBw7_w3 := hI.2
  have hv3 : sl _ 3 = .int .i64 (a0_1.size : Int) := hp 3 (by decide)
  have hBw7_w7 := Below.refl w7.heap.size w7
  have hS := hS.cons hv3
  clear hp hI hv3
  refine hK5 _ _ ?_
  (try clear hK5 K5)
  refine wp_seq_k (fun K8 hK8 => ?_)
  refine wp_seq_k (fun K9 hK9 => ?_)
  refine reg_seq (N := 56) (bs := [(3, .int .i64 (a0_1.size : Int)), (1, .pointer (some ⟨g4, 0, none⟩))]) (I := fun x => Below w.heap.size w x ∧ Below w3.heap.size w3 x ∧ Below w7.heap.size w7 x) (ps := [VP g4 0, VI a0_0]) (by kernel_rfl) ?_ ?_ rfl hS ⟨hBw7_w, hBw7_w3, hBw7_w7⟩ ?_ ?_
  ·exact fun x y hI hb => ⟨below_step hI.1 hb, below_step hI.2.1 hb, below_step hI.2.2 hb⟩
  ·exact .v (.v (.nil))
  ·refine .on rfl (fun a w hS hI hp => does_val (x_fieldE (b := 0) rfl (hS.get 1 rfl) Try.underlying26 rfl rfl (by kernel_rfl)) rfl) ?_
   refine .on rfl (fun a w hS hI hp => does_val (x_load1 (d := .int .i64) rfl (hp.V 0 rfl rfl) (by kernel_rfl) rfl ((blk_cell (((hI.2.1).block g4 (blk_lt hbxg4)).trans hbxg4) 0).trans rfl)) rfl) ?_
   exact .nil
  clear hS
  intro at10 w11 hS hI hp
  have hBw11_w := hI.1
  have hBw11_w3 := hI.2.1
  have hBw11_w7 := hI.2.2
  have hv8 : sl _ 8 = .int .i64 a0_0 := hp 1 (by decide)
  have hBw11_w11 := Below.refl w11.heap.size w11
  have hS := hS.cons hv8
  clear hp hI hv8
  refine hK9 _ _ ?_
  (try clear hK9 K9)
  refine wp_block ?_
  refine wp_seq_k (fun K12 hK12 => ?_)
  refine wp_mono (Q := fun e a' w' => e = Exit.normal ∧ St 56 [(1, .pointer (some ⟨g4, 0, none⟩)), (3, .int .i64 (a0_1.size : Int)), (8, .int .i64 a0_0), (9, .bool (if a0_0 = 1 then decide (a0_0 = 1) else (if a0_0 = 6 then decide (a0_0 = 6) else decide (a0_0 = 7))))] a' ∧ Below w.heap.size w w' ∧ Below w3.heap.size w3 w' ∧ Below w11.heap.size w11 w') ?_ ?_
  ·by_cases d13_0 : a0_0 = 1
   ·refine wp_seq_k (fun K17 hK17 => ?_)
    refine reg_seq (N := 56) (bs := [(8, .int .i64 a0_0), (3, .int .i64 (a0_1.size : Int)), (1, .pointer (some ⟨g4, 0, none⟩))]) (I := fun x => Below w.heap.size w x ∧ Below w3.heap.size w3 x ∧ Below w11.heap.size w11 x) (ps := [VB (decide (a0_0 = 1)), VB (decide (a0_0 = 1))]) (by kernel_rfl) ?_ ?_ rfl hS ⟨hBw11_w, hBw11_w3, hBw11_w11⟩ ?_ ?_
    ·exact fun x y hI hb => ⟨below_step hI.1 hb, below_step hI.2.1 hb, below_step hI.2.2 hb⟩
    ·exact .v (.v (.nil))
    ·refine .on rfl (fun a w hS hI hp => does_val (x_bin rfl (hS.get 0 rfl) (rfl) (b_eql _ _ _ _ _ _)) rfl) ?_
     refine .asg 0 rfl rfl rfl rfl ?_
     exact .nil
    clear hS
    intro at18 w19 hS hI hp
    have hBw19_w := hI.1
    have hBw19_w3 := hI.2.1
    have hBw19_w11 := hI.2.2
    have hv9 : sl _ 9 = .bool (decide (a0_0 = 1)) := hp 1 (by decide)
    have hBw19_w19 := Below.refl w19.heap.size w19
    have hS := hS.cons hv9
    clear hp hI hv9
    refine hK17 _ _ ?_
    (try clear hK17 K17)
    refine wp_cond_true ((hS.get 0 rfl).trans (bT (decide_eq_true d13_0))) ?_
    refine wp_skip ?_
    (try simp only [Exit.then, Exit.inBlock, reduceIte])
    exact ⟨by trivial, ((((hS.nil).cons ((hS.get 0 rfl).trans (congrArg (Value.bool) (by simp only [if_pos d13_0])))).cons (hS.get 1 rfl)).cons (hS.get 2 rfl)).cons (hS.get 3 rfl), hBw19_w, hBw19_w3, hBw19_w11⟩
   ·by_cases d13_1 : a0_0 = 6
    ·refine wp_seq_k (fun K26 hK26 => ?_)
     refine reg_seq (N := 56) (bs := [(8, .int .i64 a0_0), (3, .int .i64 (a0_1.size : Int)), (1, .pointer (some ⟨g4, 0, none⟩))]) (I := fun x => Below w.heap.size w x ∧ Below w3.heap.size w3 x ∧ Below w11.heap.size w11 x) (ps := [VB (decide (a0_0 = 1)), VB (decide (a0_0 = 1))]) (by kernel_rfl) ?_ ?_ rfl hS ⟨hBw11_w, hBw11_w3, hBw11_w11⟩ ?_ ?_
     ·exact fun x y hI hb => ⟨below_step hI.1 hb, below_step hI.2.1 hb, below_step hI.2.2 hb⟩
     ·exact .v (.v (.nil))
     ·refine .on rfl (fun a w hS hI hp => does_val (x_bin rfl (hS.get 0 rfl) (rfl) (b_eql _ _ _ _ _ _)) rfl) ?_
      refine .asg 0 rfl rfl rfl rfl ?_
      exact .nil
     clear hS
     intro at27 w28 hS hI hp
     have hBw28_w := hI.1
     have hBw28_w3 := hI.2.1
     have hBw28_w11 := hI.2.2
     have hv9 : sl _ 9 = .bool (decide (a0_0 = 1)) := hp 1 (by decide)
     have hBw28_w28 := Below.refl w28.heap.size w28
     have hS := hS.cons hv9
     clear hp hI hv9
     refine hK26 _ _ ?_
     (try clear hK26 K26)
     refine wp_cond_false ((hS.get 0 rfl).trans (bF (decide_eq_false d13_0))) ?_
     refine wp_seq_k (fun K29 hK29 => ?_)
     replace hS := (((hS.nil).cons (hS.get 3 rfl)).cons (hS.get 2 rfl)).cons (hS.get 1 rfl)
     refine reg_seq (N := 56) (bs := [(8, .int .i64 a0_0), (3, .int .i64 (a0_1.size : Int)), (1, .pointer (some ⟨g4, 0, none⟩))]) (I := fun x => Below w.heap.size w x ∧ Below w3.heap.size w3 x ∧ Below w11.heap.size w11 x ∧ Below w28.heap.size w28 x) (ps := [VB (decide (a0_0 = 6)), VB (decide (a0_0 = 6))]) (by kernel_rfl) ?_ ?_ rfl hS ⟨hBw28_w, hBw28_w3, hBw28_w11, hBw28_w28⟩ ?_ ?_
     ·exact fun x y hI hb => ⟨below_step hI.1 hb, below_step hI.2.1 hb, below_step hI.2.2.1 hb, below_step hI.2.2.2 hb⟩
     ·exact .v (.v (.nil))
     ·refine .on rfl (fun a w hS hI hp => does_val (x_bin rfl (hS.get 0 rfl) (rfl) (b_eql _ _ _ _ _ _)) rfl) ?_
      refine .asg 0 rfl rfl rfl rfl ?_
      exact .nil
     clear hS
     intro at30 w31 hS hI hp
     have hBw31_w := hI.1
     have hBw31_w3 := hI.2.1
     have hBw31_w11 := hI.2.2.1
     have hBw31_w28 := hI.2.2.2
     have hv9 : sl _ 9 = .bool (decide (a0_0 = 6)) := hp 1 (by decide)
     have hBw31_w31 := Below.refl w31.heap.size w31
     have hS := hS.cons hv9
     clear hp hI hv9
     refine hK29 _ _ ?_
     (try clear hK29 K29)
     refine wp_cond_true ((hS.get 0 rfl).trans (bT (decide_eq_true d13_1))) ?_
     refine wp_skip ?_
     (try simp only [Exit.then, Exit.inBlock, reduceIte])
     exact ⟨by trivial, ((((hS.nil).cons ((hS.get 0 rfl).trans (congrArg (Value.bool) (by simp only [if_neg d13_0, if_pos d13_1])))).cons (hS.get 1 rfl)).cons (hS.get 2 rfl)).cons (hS.get 3 rfl), hBw31_w, hBw31_w3, hBw31_w11⟩
    ·refine wp_seq_k (fun K32 hK32 => ?_)
     refine reg_seq (N := 56) (bs := [(8, .int .i64 a0_0), (3, .int .i64 (a0_1.size : Int)), (1, .pointer (some ⟨g4, 0, none⟩))]) (I := fun x => Below w.heap.size w x ∧ Below w3.heap.size w3 x ∧ Below w11.heap.size w11 x) (ps := [VB (decide (a0_0 = 1)), VB (decide (a0_0 = 1))]) (by kernel_rfl) ?_ ?_ rfl hS ⟨hBw11_w, hBw11_w3, hBw11_w11⟩ ?_ ?_
     ·exact fun x y hI hb => ⟨below_step hI.1 hb, below_step hI.2.1 hb, below_step hI.2.2 hb⟩
     ·exact .v (.v (.nil))
     ·refine .on rfl (fun a w hS hI hp => does_val (x_bin rfl (hS.get 0 rfl) (rfl) (b_eql _ _ _ _ _ _)) rfl) ?_
      refine .asg 0 rfl rfl rfl rfl ?_
      exact .nil
     clear hS
     intro at33 w34 hS hI hp
     have hBw34_w := hI.1
     have hBw34_w3 := hI.2.1
     have hBw34_w11 := hI.2.2
     have hv9 : sl _ 9 = .bool (decide (a0_0 = 1)) := hp 1 (by decide)
     have hBw34_w34 := Below.refl w34.heap.size w34
     have hS := hS.cons hv9
     clear hp hI hv9
     refine hK32 _ _ ?_
     (try clear hK32 K32)
     refine wp_cond_false ((hS.get 0 rfl).trans (bF (decide_eq_false d13_0))) ?_
     refine wp_seq_k (fun K35 hK35 => ?_)
     replace hS := (((hS.nil).cons (hS.get 3 rfl)).cons (hS.get 2 rfl)).cons (hS.get 1 rfl)
     refine reg_seq (N := 56) (bs := [(8, .int .i64 a0_0), (3, .int .i64 (a0_1.size : Int)), (1, .pointer (some ⟨g4, 0, none⟩))]) (I := fun x => Below w.heap.size w x ∧ Below w3.heap.size w3 x ∧ Below w11.heap.size w11 x ∧ Below w34.heap.size w34 x) (ps := [VB (decide (a0_0 = 6)), VB (decide (a0_0 = 6))]) (by kernel_rfl) ?_ ?_ rfl hS ⟨hBw34_w, hBw34_w3, hBw34_w11, hBw34_w34⟩ ?_ ?_
     ·exact fun x y hI hb => ⟨below_step hI.1 hb, below_step hI.2.1 hb, below_step hI.2.2.1 hb, below_step hI.2.2.2 hb⟩
     ·exact .v (.v (.nil))
     ·refine .on rfl (fun a w hS hI hp => does_val (x_bin rfl (hS.get 0 rfl) (rfl) (b_eql _ _ _ _ _ _)) rfl) ?_
      refine .asg 0 rfl rfl rfl rfl ?_
      exact .nil
     clear hS
     intro at36 w37 hS hI hp
     have hBw37_w := hI.1
     have hBw37_w3 := hI.2.1
     have hBw37_w11 := hI.2.2.1
     have hBw37_w34 := hI.2.2.2
     have hv9 : sl _ 9 = .bool (decide (a0_0 = 6)) := hp 1 (by decide)
     have hBw37_w37 := Below.refl w37.heap.size w37
     have hS := hS.cons hv9
     clear hp hI hv9
     refine hK35 _ _ ?_
     (try clear hK35 K35)
     refine wp_cond_false ((hS.get 0 rfl).trans (bF (decide_eq_false d13_1))) ?_
     replace hS := (((hS.nil).cons (hS.get 3 rfl)).cons (hS.get 2 rfl)).cons (hS.get 1 rfl)
     refine reg_seq (N := 56) (bs := [(8, .int .i64 a0_0), (3, .int .i64 (a0_1.size : Int)), (1, .pointer (some ⟨g4, 0, none⟩))]) (I := fun x => Below w.heap.size w x ∧ Below w3.heap.size w3 x ∧ Below w11.heap.size w11 x ∧ Below w37.heap.size w37 x) (ps := [VB (decide (a0_0 = 7)), VB (decide (a0_0 = 7))]) (by kernel_rfl) ?_ ?_ rfl hS ⟨hBw37_w, hBw37_w3, hBw37_w11, hBw37_w37⟩ ?_ ?_
     ·exact fun x y hI hb => ⟨below_step hI.1 hb, below_step hI.2.1 hb, below_step hI.2.2.1 hb, below_step hI.2.2.2 hb⟩
     ·exact .v (.v (.nil))
     ·refine .on rfl (fun a w hS hI hp => does_val (x_bin rfl (hS.get 0 rfl) (rfl) (b_eql _ _ _ _ _ _)) rfl) ?_
      refine .asg 0 rfl rfl rfl rfl ?_
      exact .nil
     clear hS
     intro at38 w39 hS hI hp
     have hBw39_w := hI.1
     have hBw39_w3 := hI.2.1
     have hBw39_w11 := hI.2.2.1
     have hBw39_w37 := hI.2.2.2
     have hv9 : sl _ 9 = .bool (decide (a0_0 = 7)) := hp 1 (by decide)
     have hBw39_w39 := Below.refl w39.heap.size w39
     have hS := hS.cons hv9
     clear hp hI hv9
     (try simp only [Exit.then, Exit.inBlock, reduceIte])
     exact ⟨by trivial, ((((hS.nil).cons ((hS.get 0 rfl).trans (congrArg (Value.bool) (by simp only [if_neg d13_0, if_neg d13_1])))).cons (hS.get 1 rfl)).cons (hS.get 2 rfl)).cons (hS.get 3 rfl), hBw39_w, hBw39_w3, hBw39_w11⟩
  rintro e41 at41 w40 ⟨rfl, hS, hBw40_w, hBw40_w3, hBw40_w11⟩
  have hBw40_w40 := Below.refl w40.heap.size w40
  (try simp only [Exit.then, Exit.inBlock, reduceIte])
  refine hK12 _ _ ?_
  (try clear hK12 K12)
  refine wp_cond_false ((hS.get 3 rfl).trans (bF (Bool.eq_false_iff.2 c1))) ?_
  refine wp_seq_k (fun K42 hK42 => ?_)
  refine reg_seq (N := 56) (bs := [(1, .pointer (some ⟨g4, 0, none⟩)), (3, .int .i64 (a0_1.size : Int)), (8, .int .i64 a0_0), (9, .bool (if a0_0 = 1 then decide (a0_0 = 1) else (if a0_0 = 6 then decide (a0_0 = 6) else decide (a0_0 = 7))))]) (I := fun x => Below w.heap.size w x ∧ Below w3.heap.size w3 x ∧ Below w40.heap.size w40 x) (ps := [VB (decide (a0_0 = 2)), VB (decide (a0_0 = 2))]) (by kernel_rfl) ?_ ?_ rfl hS ⟨hBw40_w, hBw40_w3, hBw40_w40⟩ ?_ ?_
  ·exact fun x y hI hb => ⟨below_step hI.1 hb, below_step hI.2.1 hb, below_step hI.2.2 hb⟩
  ·exact .v (.v (.nil))
  ·refine .on rfl (fun a w hS hI hp => does_val (x_bin rfl (hS.get 2 rfl) (rfl) (b_eql _ _ _ _ _ _)) rfl) ?_
   refine .asg 0 rfl rfl rfl rfl ?_
   exact .nil
  clear hS
  intro at43 w44 hS hI hp
  have hBw44_w := hI.1
  have hBw44_w3 := hI.2.1
  have hBw44_w40 := hI.2.2
  replace hS := (((hS.nil).cons (hS.get 2 rfl)).cons (hS.get 1 rfl)).cons (hS.get 0 rfl)
  have hv24 : sl _ 24 = .bool (decide (a0_0 = 2)) := hp 1 (by decide)
  have hBw44_w44 := Below.refl w44.heap.size w44
  have hS := hS.cons hv24
  clear hp hI hv24
  refine hK42 _ _ ?_
  (try clear hK42 K42)
  refine wp_cond_false ((hS.get 0 rfl).trans (bF (decide_eq_false c2))) ?_
  refine wp_seq_k (fun K45 hK45 => ?_)
  refine reg_seq (N := 56) (bs := [(24, .bool (decide (a0_0 = 2))), (1, .pointer (some ⟨g4, 0, none⟩)), (3, .int .i64 (a0_1.size : Int)), (8, .int .i64 a0_0)]) (I := fun x => Below w.heap.size w x ∧ Below w3.heap.size w3 x ∧ Below w44.heap.size w44 x) (ps := [VB (decide (a0_0 = 3)), VB (decide (a0_0 = 3))]) (by kernel_rfl) ?_ ?_ rfl hS ⟨hBw44_w, hBw44_w3, hBw44_w44⟩ ?_ ?_
  ·exact fun x y hI hb => ⟨below_step hI.1 hb, below_step hI.2.1 hb, below_step hI.2.2 hb⟩
  ·exact .v (.v (.nil))
  ·refine .on rfl (fun a w hS hI hp => does_val (x_bin rfl (hS.get 3 rfl) (rfl) (b_eql _ _ _ _ _ _)) rfl) ?_
   refine .asg 0 rfl rfl rfl rfl ?_
   exact .nil
  clear hS
  intro at46 w47 hS hI hp
  have hBw47_w := hI.1
  have hBw47_w3 := hI.2.1
  have hBw47_w44 := hI.2.2
  replace hS := (((hS.nil).cons (hS.get 3 rfl)).cons (hS.get 2 rfl)).cons (hS.get 1 rfl)
  have hv28 : sl _ 28 = .bool (decide (a0_0 = 3)) := hp 1 (by decide)
  have hBw47_w47 := Below.refl w47.heap.size w47
  have hS := hS.cons hv28
  clear hp hI hv28
  refine hK45 _ _ ?_
  (try clear hK45 K45)
  refine wp_cond_false ((hS.get 0 rfl).trans (bF (decide_eq_false c3))) ?_
  refine wp_seq_k (fun K48 hK48 => ?_)
  refine reg_seq (N := 56) (bs := [(28, .bool (decide (a0_0 = 3))), (1, .pointer (some ⟨g4, 0, none⟩)), (3, .int .i64 (a0_1.size : Int)), (8, .int .i64 a0_0)]) (I := fun x => Below w.heap.size w x ∧ Below w3.heap.size w3 x ∧ Below w47.heap.size w47 x) (ps := [VB (decide (a0_0 = 4)), VB (decide (a0_0 = 4))]) (by kernel_rfl) ?_ ?_ rfl hS ⟨hBw47_w, hBw47_w3, hBw47_w47⟩ ?_ ?_
  ·exact fun x y hI hb => ⟨below_step hI.1 hb, below_step hI.2.1 hb, below_step hI.2.2 hb⟩
  ·exact .v (.v (.nil))
  ·refine .on rfl (fun a w hS hI hp => does_val (x_bin rfl (hS.get 3 rfl) (rfl) (b_eql _ _ _ _ _ _)) rfl) ?_
   refine .asg 0 rfl rfl rfl rfl ?_
   exact .nil
  clear hS
  intro at49 w50 hS hI hp
  have hBw50_w := hI.1
  have hBw50_w3 := hI.2.1
  have hBw50_w47 := hI.2.2
  replace hS := (((hS.nil).cons (hS.get 3 rfl)).cons (hS.get 2 rfl)).cons (hS.get 1 rfl)
  have hv32 : sl _ 32 = .bool (decide (a0_0 = 4)) := hp 1 (by decide)
  have hBw50_w50 := Below.refl w50.heap.size w50
  have hS := hS.cons hv32
  clear hp hI hv32
  refine hK48 _ _ ?_
  (try clear hK48 K48)
  refine wp_cond_false ((hS.get 0 rfl).trans (bF (decide_eq_false c4))) ?_
  refine wp_seq_k (fun K51 hK51 => ?_)
  refine reg_seq (N := 56) (bs := [(32, .bool (decide (a0_0 = 4))), (1, .pointer (some ⟨g4, 0, none⟩)), (3, .int .i64 (a0_1.size : Int)), (8, .int .i64 a0_0)]) (I := fun x => Below w.heap.size w x ∧ Below w3.heap.size w3 x ∧ Below w50.heap.size w50 x) (ps := [VB (decide (a0_0 = 5)), VB (decide (a0_0 = 5))]) (by kernel_rfl) ?_ ?_ rfl hS ⟨hBw50_w, hBw50_w3, hBw50_w50⟩ ?_ ?_
  ·exact fun x y hI hb => ⟨below_step hI.1 hb, below_step hI.2.1 hb, below_step hI.2.2 hb⟩
  ·exact .v (.v (.nil))
  ·refine .on rfl (fun a w hS hI hp => does_val (x_bin rfl (hS.get 3 rfl) (rfl) (b_eql _ _ _ _ _ _)) rfl) ?_
   refine .asg 0 rfl rfl rfl rfl ?_
   exact .nil
  clear hS
  intro at52 w53 hS hI hp
  have hBw53_w := hI.1
  have hBw53_w3 := hI.2.1
  have hBw53_w50 := hI.2.2
  replace hS := (((hS.nil).cons (hS.get 3 rfl)).cons (hS.get 2 rfl)).cons (hS.get 1 rfl)
  have hv36 : sl _ 36 = .bool (decide (a0_0 = 5)) := hp 1 (by decide)
  have hBw53_w53 := Below.refl w53.heap.size w53
  have hS := hS.cons hv36
  clear hp hI hv36
  refine hK51 _ _ ?_
  (try clear hK51 K51)
  refine wp_cond_true ((hS.get 0 rfl).trans (bT (decide_eq_true c5))) ?_
  refine wp_seq_k (fun K54 hK54 => ?_)
  refine reg_seq (N := 56) (bs := [(36, .bool (decide (a0_0 = 5))), (1, .pointer (some ⟨g4, 0, none⟩)), (3, .int .i64 (a0_1.size : Int)), (8, .int .i64 a0_0)]) (I := fun x => Below w.heap.size w x ∧ Below w3.heap.size w3 x ∧ Below w53.heap.size w53 x) (ps := [VI (a0_1.size : Int), VB (decide ((a0_1.size : Int) = 8)), VB (decide ((a0_1.size : Int) = 8))]) (by kernel_rfl) ?_ ?_ rfl hS ⟨hBw53_w, hBw53_w3, hBw53_w53⟩ ?_ ?_
  ·exact fun x y hI hb => ⟨below_step hI.1 hb, below_step hI.2.1 hb, below_step hI.2.2 hb⟩
  ·exact .v (.v (.v (.nil)))
  ·refine .ms 2 rfl rfl rfl ?_
   refine .on rfl (fun a w hS hI hp => does_val (x_bin rfl (hp.V 0 rfl rfl) (rfl) (b_eql _ _ _ _ _ _)) rfl) ?_
   refine .asg 1 rfl rfl rfl rfl ?_
   exact .nil
  clear hS
  intro at55 w56 hS hI hp
  have hBw56_w := hI.1
  have hBw56_w3 := hI.2.1
  have hBw56_w53 := hI.2.2
  replace hS := hS.nil
  have hv2 : sl _ 2 = .bool (decide ((a0_1.size : Int) = 8)) := hp 2 (by decide)
  have hBw56_w56 := Below.refl w56.heap.size w56
  have hS := hS.cons hv2
  clear hp hI hv2
  refine hK54 _ _ ?_
  (try clear hK54 K54)
  refine wp_ret ?_
  (try simp only [Exit.then, Exit.inBlock, Exit.jump, Exit.noGoto])
  exact bodyPost_ret (v := .bool (decide ((a0_1.size : Int) = 8))) (results_single rfl (Vals.at (hS.get 0 rfl) .nil)) hS.nodef ⟨rfl, hBw56_w⟩
 rw [if_neg c5] at H
 by_cases c6 : a0_0 = 8
 ·rw [if_pos c6] at H
  by_cases c7 : (Int.tmod (a0_1.size : Int) 8) = 0
  ·rw [if_pos c7] at H
   obtain rfl := Option.some.inj H
   refine calls_of_wp (fn := Try.f19) (by kernel_rfl) rfl ?_
   have hS := St.enter #[.agg #[.int .i64 a0_0, .string a0_1]] 56 (by simp) [(0, .agg #[.int .i64 a0_0, .string a0_1])] (by simp)
   have HB0 := Below.refl w.heap.size w
   refine wp_seq_k (fun K1 hK1 => ?_)
   refine reg_seq (N := 56) (bs := [(0, .agg #[.int .i64 a0_0, .string a0_1])]) (I := fun x => Below w.heap.size w x) (ps := [IsB #[.int .i64 a0_0, .string a0_1] 26 w.heap.size, VB false]) (by kernel_rfl) ?_ ?_ rfl hS HB0 ?_ ?_
   ·exact fun x y hI hb => below_step hI hb
   ·exact .cons (Stays.b _ _ _) (.v (.nil))
   ·refine .on rfl (fun a w hS hI hp => does_var (x_box rfl (congrArg Value.cells (hS.get 0 rfl))) (hI).size) ?_
    refine .on rfl (fun a w hS hI hp => does_val (x_assign rfl (rfl)) rfl) ?_
    exact .nil
   clear hS
   intro at2 w3 hS hI hp
   have hBw3_w := hI
   replace hS := hS.nil
   obtain ⟨g4, hv1, hgeg4, hbxg4⟩ := (show IsB _ 26 _ (sl _ 1) _ from hp 0 (by decide))
   have hBw3_w3 := Below.refl w3.heap.size w3
   have hS := hS.cons hv1
   clear hp hI hv1
   refine hK1 _ _ ?_
   (try clear hK1 K1)
   refine wp_seq_k (fun K5 hK5 => ?_)
   refine reg_seq (N := 56) (bs := [(1, .pointer (some ⟨g4, 0, none⟩))]) (I := fun x => Below w.heap.size w x ∧ Below w3.heap.size w3 x) (ps := [VP g4 1, IsV (.string a0_1), VI (a0_1.size : Int), VI (a0_1.size : Int)]) (by kernel_rfl) ?_ ?_ rfl hS ⟨hBw3_w, hBw3_w3⟩ ?_ ?_
   ·exact fun x y hI hb => ⟨below_step hI.1 hb, below_step hI.2 hb⟩
   ·exact .v (.v (.v (.v (.nil))))
   ·refine .on rfl (fun a w hS hI hp => does_val (x_fieldE (b := 0) rfl (hS.get 0 rfl) Try.underlying26 rfl rfl (by kernel_rfl)) rfl) ?_
    refine .on rfl (fun a w hS hI hp => does_val (x_load1 (d := .string) rfl (hp.V 0 rfl rfl) (by kernel_rfl) rfl ((blk_cell (((hI.2).block g4 (blk_lt hbxg4)).trans hbxg4) 1).trans rfl)) rfl) ?_
    refine .on rfl (fun a w hS hI hp => does_val (x_lenS rfl (by kernel_rfl) (hp.V 1 rfl rfl)) rfl) ?_
    refine .asg 2 rfl rfl rfl rfl ?_
    exact .nil
   clear hS
   intro at6 w7 hS hI hp
   have hBw7_w := hI.1
   have hBw7_w3 := hI.2
   have hv3 : sl _ 3 = .int .i64 (a0_1.size : Int) := hp 3 (by decide)
   have hBw7_w7 := Below.refl w7.heap.size w7
   have hS := hS.cons hv3
   clear hp hI hv3
   refine hK5 _ _ ?_
   (try clear hK5 K5)
   refine wp_seq_k (fun K8 hK8 => ?_)
   refine wp_seq_k (fun K9 hK9 => ?_)
   refine reg_seq (N := 56) (bs := [(3, .int .i64 (a0_1.size : Int)), (1, .pointer (some ⟨g4, 0, none⟩))]) (I := fun x => Below w.heap.size w x ∧ Below w3.heap.size w3 x ∧ Below w7.heap.size w7 x) (ps := [VP g4 0, VI a0_0]) (by kernel_rfl) ?_ ?_ rfl hS ⟨hBw7_w, hBw7_w3, hBw7_w7⟩ ?_ ?_
   ·exact fun x y hI hb => ⟨below_step hI.1 hb, below_step hI.2.1 hb, below_step hI.2.2 hb⟩
   ·exact .v (.v (.nil))
   ·refine .on rfl (fun a w hS hI hp => does_val (x_fieldE (b := 0) rfl (hS.get 1 rfl) Try.underlying26 rfl rfl (by kernel_rfl)) rfl) ?_
    refine .on rfl (fun a w hS hI hp => does_val (x_load1 (d := .int .i64) rfl (hp.V 0 rfl rfl) (by kernel_rfl) rfl ((blk_cell (((hI.2.1).block g4 (blk_lt hbxg4)).trans hbxg4) 0).trans rfl)) rfl) ?_
    exact .nil
   clear hS
   intro at10 w11 hS hI hp
   have hBw11_w := hI.1
   have hBw11_w3 := hI.2.1
   have hBw11_w7 := hI.2.2
   have hv8 : sl _ 8 = .int .i64 a0_0 := hp 1 (by decide)
   have hBw11_w11 := Below.refl w11.heap.size w11
   have hS := hS.cons hv8
   clear hp hI hv8
   refine hK9 _ _ ?_
   (try clear hK9 K9)
   refine wp_block ?_
   refine wp_seq_k (fun K12 hK12 => ?_)
   refine wp_mono (Q := fun e a' w' => e = Exit.normal ∧ St 56 [(1, .pointer (some ⟨g4, 0, none⟩)), (3, .int .i64 (a0_1.size : Int)), (8, .int .i64 a0_0), (9, .bool (if a0_0 = 1 then decide (a0_0 = 1) else (if a0_0 = 6 then decide (a0_0 = 6) else decide (a0_0 = 7))))] a' ∧ Below w.heap.size w w' ∧ Below w3.heap.size w3 w' ∧ Below w11.heap.size w11 w') ?_ ?_
   ·by_cases d13_0 : a0_0 = 1
    ·refine wp_seq_k (fun K17 hK17 => ?_)
     refine reg_seq (N := 56) (bs := [(8, .int .i64 a0_0), (3, .int .i64 (a0_1.size : Int)), (1, .pointer (some ⟨g4, 0, none⟩))]) (I := fun x => Below w.heap.size w x ∧ Below w3.heap.size w3 x ∧ Below w11.heap.size w11 x) (ps := [VB (decide (a0_0 = 1)), VB (decide (a0_0 = 1))]) (by kernel_rfl) ?_ ?_ rfl hS ⟨hBw11_w, hBw11_w3, hBw11_w11⟩ ?_ ?_
     ·exact fun x y hI hb => ⟨below_step hI.1 hb, below_step hI.2.1 hb, below_step hI.2.2 hb⟩
     ·exact .v (.v (.nil))
     ·refine .on rfl (fun a w hS hI hp => does_val (x_bin rfl (hS.get 0 rfl) (rfl) (b_eql _ _ _ _ _ _)) rfl) ?_
      refine .asg 0 rfl rfl rfl rfl ?_
      exact .nil
     clear hS
     intro at18 w19 hS hI hp
     have hBw19_w := hI.1
     have hBw19_w3 := hI.2.1
     have hBw19_w11 := hI.2.2
     have hv9 : sl _ 9 = .bool (decide (a0_0 = 1)) := hp 1 (by decide)
     have hBw19_w19 := Below.refl w19.heap.size w19
     have hS := hS.cons hv9
     clear hp hI hv9
     refine hK17 _ _ ?_
     (try clear hK17 K17)
     refine wp_cond_true ((hS.get 0 rfl).trans (bT (decide_eq_true d13_0))) ?_
     refine wp_skip ?_
     (try simp only [Exit.then, Exit.inBlock, reduceIte])
     exact ⟨by trivial, ((((hS.nil).cons ((hS.get 0 rfl).trans (congrArg (Value.bool) (by simp only [if_pos d13_0])))).cons (hS.get 1 rfl)).cons (hS.get 2 rfl)).cons (hS.get 3 rfl), hBw19_w, hBw19_w3, hBw19_w11⟩
    ·by_cases d13_1 : a0_0 = 6
     ·refine wp_seq_k (fun K26 hK26 => ?_)
      refine reg_seq (N := 56) (bs := [(8, .int .i64 a0_0), (3, .int .i64 (a0_1.size : Int)), (1, .pointer (some ⟨g4, 0, none⟩))]) (I := fun x => Below w.heap.size w x ∧ Below w3.heap.size w3 x ∧ Below w11.heap.size w11 x) (ps := [VB (decide (a0_0 = 1)), VB (decide (a0_0 = 1))]) (by kernel_rfl) ?_ ?_ rfl hS ⟨hBw11_w, hBw11_w3, hBw11_w11⟩ ?_ ?_
      ·exact fun x y hI hb => ⟨below_step hI.1 hb, below_step hI.2.1 hb, below_step hI.2.2 hb⟩
      ·exact .v (.v (.nil))
      ·refine .on rfl (fun a w hS hI hp => does_val (x_bin rfl (hS.get 0 rfl) (rfl) (b_eql _ _ _ _ _ _)) rfl) ?_
       refine .asg 0 rfl rfl rfl rfl ?_
       exact .nil
      clear hS
      intro at27 w28 hS hI hp
      have hBw28_w := hI.1
      have hBw28_w3 := hI.2.1
      have hBw28_w11 := hI.2.2
      have hv9 : sl _ 9 = .bool (decide (a0_0 = 1)) := hp 1 (by decide)
      have hBw28_w28 := Below.refl w28.heap.size w28
      have hS := hS.cons hv9
      clear hp hI hv9
      refine hK26 _ _ ?_
      (try clear hK26 K26)
      refine wp_cond_false ((hS.get 0 rfl).trans (bF (decide_eq_false d13_0))) ?_
      refine wp_seq_k (fun K29 hK29 => ?_)
      replace hS := (((hS.nil).cons (hS.get 3 rfl)).cons (hS.get 2 rfl)).cons (hS.get 1 rfl)
      refine reg_seq (N := 56) (bs := [(8, .int .i64 a0_0), (3, .int .i64 (a0_1.size : Int)), (1, .pointer (some ⟨g4, 0, none⟩))]) (I := fun x => Below w.heap.size w x ∧ Below w3.heap.size w3 x ∧ Below w11.heap.size w11 x ∧ Below w28.heap.size w28 x) (ps := [VB (decide (a0_0 = 6)), VB (decide (a0_0 = 6))]) (by kernel_rfl) ?_ ?_ rfl hS ⟨hBw28_w, hBw28_w3, hBw28_w11, hBw28_w28⟩ ?_ ?_
      ·exact fun x y hI hb => ⟨below_step hI.1 hb, below_step hI.2.1 hb, below_step hI.2.2.1 hb, below_step hI.2.2.2 hb⟩
      ·exact .v (.v (.nil))
      ·refine .on rfl (fun a w hS hI hp => does_val (x_bin rfl (hS.get 0 rfl) (rfl) (b_eql _ _ _ _ _ _)) rfl) ?_
       refine .asg 0 rfl rfl rfl rfl ?_
       exact .nil
      clear hS
      intro at30 w31 hS hI hp
      have hBw31_w := hI.1
      have hBw31_w3 := hI.2.1
      have hBw31_w11 := hI.2.2.1
      have hBw31_w28 := hI.2.2.2
      have hv9 : sl _ 9 = .bool (decide (a0_0 = 6)) := hp 1 (by decide)
      have hBw31_w31 := Below.refl w31.heap.size w31
      have hS := hS.cons hv9
      clear hp hI hv9
      refine hK29 _ _ ?_
      (try clear hK29 K29)
      refine wp_cond_true ((hS.get 0 rfl).trans (bT (decide_eq_true d13_1))) ?_
      refine wp_skip ?_
      (try simp only [Exit.then, Exit.inBlock, reduceIte])
      exact ⟨by trivial, ((((hS.nil).cons ((hS.get 0 rfl).trans (congrArg (Value.bool) (by simp only [if_neg d13_0, if_pos d13_1])))).cons (hS.get 1 rfl)).cons (hS.get 2 rfl)).cons (hS.get 3 rfl), hBw31_w, hBw31_w3, hBw31_w11⟩
     ·refine wp_seq_k (fun K32 hK32 => ?_)
      refine reg_seq (N := 56) (bs := [(8, .int .i64 a0_0), (3, .int .i64 (a0_1.size : Int)), (1, .pointer (some ⟨g4, 0, none⟩))]) (I := fun x => Below w.heap.size w x ∧ Below w3.heap.size w3 x ∧ Below w11.heap.size w11 x) (ps := [VB (decide (a0_0 = 1)), VB (decide (a0_0 = 1))]) (by kernel_rfl) ?_ ?_ rfl hS ⟨hBw11_w, hBw11_w3, hBw11_w11⟩ ?_ ?_
      ·exact fun x y hI hb => ⟨below_step hI.1 hb, below_step hI.2.1 hb, below_step hI.2.2 hb⟩
      ·exact .v (.v (.nil))
      ·refine .on rfl (fun a w hS hI hp => does_val (x_bin rfl (hS.get 0 rfl) (rfl) (b_eql _ _ _ _ _ _)) rfl) ?_
       refine .asg 0 rfl rfl rfl rfl ?_
       exact .nil
      clear hS
      intro at33 w34 hS hI hp
      have hBw34_w := hI.1
      have hBw34_w3 := hI.2.1
      have hBw34_w11 := hI.2.2
      have hv9 : sl _ 9 = .bool (decide (a0_0 = 1)) := hp 1 (by decide)
      have hBw34_w34 := Below.refl w34.heap.size w34
      have hS := hS.cons hv9
      clear hp hI hv9
      refine hK32 _ _ ?_
      (try clear hK32 K32)
      refine wp_cond_false ((hS.get 0 rfl).trans (bF (decide_eq_false d13_0))) ?_
      refine wp_seq_k (fun K35 hK35 => ?_)
      replace hS := (((hS.nil).cons (hS.get 3 rfl)).cons (hS.get 2 rfl)).cons (hS.get 1 rfl)
      refine reg_seq (N := 56) (bs := [(8, .int .i64 a0_0), (3, .int .i64 (a0_1.size : Int)), (1, .pointer (some ⟨g4, 0, none⟩))]) (I := fun x => Below w.heap.size w x ∧ Below w3.heap.size w3 x ∧ Below w11.heap.size w11 x ∧ Below w34.heap.size w34 x) (ps := [VB (decide (a0_0 = 6)), VB (decide (a0_0 = 6))]) (by kernel_rfl) ?_ ?_ rfl hS ⟨hBw34_w, hBw34_w3, hBw34_w11, hBw34_w34⟩ ?_ ?_
      ·exact fun x y hI hb => ⟨below_step hI.1 hb, below_step hI.2.1 hb, below_step hI.2.2.1 hb, below_step hI.2.2.2 hb⟩
      ·exact .v (.v (.nil))
      ·refine .on rfl (fun a w hS hI hp => does_val (x_bin rfl (hS.get 0 rfl) (rfl) (b_eql _ _ _ _ _ _)) rfl) ?_
       refine .asg 0 rfl rfl rfl rfl ?_
       exact .nil
      clear hS
      intro at36 w37 hS hI hp
      have hBw37_w := hI.1
      have hBw37_w3 := hI.2.1
      have hBw37_w11 := hI.2.2.1
      have hBw37_w34 := hI.2.2.2
      have hv9 : sl _ 9 = .bool (decide (a0_0 = 6)) := hp 1 (by decide)
      have hBw37_w37 := Below.refl w37.heap.size w37
      have hS := hS.cons hv9
      clear hp hI hv9
      refine hK35 _ _ ?_
      (try clear hK35 K35)
      refine wp_cond_false ((hS.get 0 rfl).trans (bF (decide_eq_false d13_1))) ?_
      replace hS := (((hS.nil).cons (hS.get 3 rfl)).cons (hS.get 2 rfl)).cons (hS.get 1 rfl)
      refine reg_seq (N := 56) (bs := [(8, .int .i64 a0_0), (3, .int .i64 (a0_1.size : Int)), (1, .pointer (some ⟨g4, 0, none⟩))]) (I := fun x => Below w.heap.size w x ∧ Below w3.heap.size w3 x ∧ Below w11.heap.size w11 x ∧ Below w37.heap.size w37 x) (ps := [VB (decide (a0_0 = 7)), VB (decide (a0_0 = 7))]) (by kernel_rfl) ?_ ?_ rfl hS ⟨hBw37_w, hBw37_w3, hBw37_w11, hBw37_w37⟩ ?_ ?_
      ·exact fun x y hI hb => ⟨below_step hI.1 hb, below_step hI.2.1 hb, below_step hI.2.2.1 hb, below_step hI.2.2.2 hb⟩
      ·exact .v (.v (.nil))
      ·refine .on rfl (fun a w hS hI hp => does_val (x_bin rfl (hS.get 0 rfl) (rfl) (b_eql _ _ _ _ _ _)) rfl) ?_
       refine .asg 0 rfl rfl rfl rfl ?_
       exact .nil
      clear hS
      intro at38 w39 hS hI hp
      have hBw39_w := hI.1
      have hBw39_w3 := hI.2.1
      have hBw39_w11 := hI.2.2.1
      have hBw39_w37 := hI.2.2.2
      have hv9 : sl _ 9 = .bool (decide (a0_0 = 7)) := hp 1 (by decide)
      have hBw39_w39 := Below.refl w39.heap.size w39
      have hS := hS.cons hv9
      clear hp hI hv9
      (try simp only [Exit.then, Exit.inBlock, reduceIte])
      exact ⟨by trivial, ((((hS.nil).cons ((hS.get 0 rfl).trans (congrArg (Value.bool) (by simp only [if_neg d13_0, if_neg d13_1])))).cons (hS.get 1 rfl)).cons (hS.get 2 rfl)).cons (hS.get 3 rfl), hBw39_w, hBw39_w3, hBw39_w11⟩
   rintro e41 at41 w40 ⟨rfl, hS, hBw40_w, hBw40_w3, hBw40_w11⟩
   have hBw40_w40 := Below.refl w40.heap.size w40
   (try simp only [Exit.then, Exit.inBlock, reduceIte])
   refine hK12 _ _ ?_
   (try clear hK12 K12)
   refine wp_cond_false ((hS.get 3 rfl).trans (bF (Bool.eq_false_iff.2 c1))) ?_
   refine wp_seq_k (fun K42 hK42 => ?_)
   refine reg_seq (N := 56) (bs := [(1, .pointer (some ⟨g4, 0, none⟩)), (3, .int .i64 (a0_1.size : Int)), (8, .int .i64 a0_0), (9, .bool (if a0_0 = 1 then decide (a0_0 = 1) else (if a0_0 = 6 then decide (a0_0 = 6) else decide (a0_0 = 7))))]) (I := fun x => Below w.heap.size w x ∧ Below w3.heap.size w3 x ∧ Below w40.heap.size w40 x) (ps := [VB (decide (a0_0 = 2)), VB (decide (a0_0 = 2))]) (by kernel_rfl) ?_ ?_ rfl hS ⟨hBw40_w, hBw40_w3, hBw40_w40⟩ ?_ ?_
   ·exact fun x y hI hb => ⟨below_step hI.1 hb, below_step hI.2.1 hb, below_step hI.2.2 hb⟩
   ·exact .v (.v (.nil))
   ·refine .on rfl (fun a w hS hI hp => does_val (x_bin rfl (hS.get 2 rfl) (rfl) (b_eql _ _ _ _ _ _)) rfl) ?_
    refine .asg 0 rfl rfl rfl rfl ?_
    exact .nil
   clear hS
   intro at43 w44 hS hI hp
   have hBw44_w := hI.1
   have hBw44_w3 := hI.2.1
   have hBw44_w40 := hI.2.2
   replace hS := (((hS.nil).cons (hS.get 2 rfl)).cons (hS.get 1 rfl)).cons (hS.get 0 rfl)
   have hv24 : sl _ 24 = .bool (decide (a0_0 = 2)) := hp 1 (by decide)
   have hBw44_w44 := Below.refl w44.heap.size w44
   have hS := hS.cons hv24
   clear hp hI hv24
   refine hK42 _ _ ?_
   (try clear hK42 K42)
   refine wp_cond_false ((hS.get 0 rfl).trans (bF (decide_eq_false c2))) ?_
   refine wp_seq_k (fun K45 hK45 => ?_)
   refine reg_seq (N := 56) (bs := [(24, .bool (decide (a0_0 = 2))), (1, .pointer (some ⟨g4, 0, none⟩)), (3, .int .i64 (a0_1.size : Int)), (8, .int .i64 a0_0)]) (I := fun x => Below w.heap.size w x ∧ Below w3.heap.size w3 x ∧ Below w44.heap.size w44 x) (ps := [VB (decide (a0_0 = 3)), VB (decide (a0_0 = 3))]) (by kernel_rfl) ?_ ?_ rfl hS ⟨hBw44_w, hBw44_w3, hBw44_w44⟩ ?_ ?_
   ·exact fun x y hI hb => ⟨below_step hI.1 hb, below_step hI.2.1 hb, below_step hI.2.2 hb⟩
   ·exact .v (.v (.nil))
   ·refine .on rfl (fun a w hS hI hp => does_val (x_bin rfl (hS.get 3 rfl) (rfl) (b_eql _ _ _ _ _ _)) rfl) ?_
    refine .asg 0 rfl rfl rfl rfl ?_
    exact .nil
   clear hS
   intro at46 w47 hS hI hp
   have hBw47_w := hI.1
   have hBw47_w3 := hI.2.1
   have hBw47_w44 := hI.2.2
   replace hS := (((hS.nil).cons (hS.get 3 rfl)).cons (hS.get 2 rfl)).cons (hS.get 1 rfl)
   have hv28 : sl _ 28 = .bool (decide (a0_0 = 3)) := hp 1 (by decide)
   have hBw47_w47 := Below.refl w47.heap.size w47
   have hS := hS.cons hv28
   clear hp hI hv28
   refine hK45 _ _ ?_
   (try clear hK45 K45)
   refine wp_cond_false ((hS.get 0 rfl).trans (bF (decide_eq_false c3))) ?_
   refine wp_seq_k (fun K48 hK48 => ?_)
   refine reg_seq (N := 56) (bs := [(28, .bool (decide (a0_0 = 3))), (1, .pointer (some ⟨g4, 0, none⟩)), (3, .int .i64 (a0_1.size : Int)), (8, .int .i64 a0_0)]) (I := fun x => Below w.heap.size w x ∧ Below w3.heap.size w3 x ∧ Below w47.heap.size w47 x) (ps := [VB (decide (a0_0 = 4)), VB (decide (a0_0 = 4))]) (by kernel_rfl) ?_ ?_ rfl hS ⟨hBw47_w, hBw47_w3, hBw47_w47⟩ ?_ ?_
   ·exact fun x y hI hb => ⟨below_step hI.1 hb, below_step hI.2.1 hb, below_step hI.2.2 hb⟩
   ·exact .v (.v (.nil))
   ·refine .on rfl (fun a w hS hI hp => does_val (x_bin rfl (hS.get 3 rfl) (rfl) (b_eql _ _ _ _ _ _)) rfl) ?_
    refine .asg 0 rfl rfl rfl rfl ?_
    exact .nil
   clear hS
   intro at49 w50 hS hI hp
   have hBw50_w := hI.1
   have hBw50_w3 := hI.2.1
   have hBw50_w47 := hI.2.2
   replace hS := (((hS.nil).cons (hS.get 3 rfl)).cons (hS.get 2 rfl)).cons (hS.get 1 rfl)
   have hv32 : sl _ 32 = .bool (decide (a0_0 = 4)) := hp 1 (by decide)
   have hBw50_w50 := Below.refl w50.heap.size w50
   have hS := hS.cons hv32
   clear hp hI hv32
   refine hK48 _ _ ?_
   (try clear hK48 K48)
   refine wp_cond_false ((hS.get 0 rfl).trans (bF (decide_eq_false c4))) ?_
   refine wp_seq_k (fun K51 hK51 => ?_)
   refine reg_seq (N := 56) (bs := [(32, .bool (decide (a0_0 = 4))), (1, .pointer (some ⟨g4, 0, none⟩)), (3, .int .i64 (a0_1.size : Int)), (8, .int .i64 a0_0)]) (I := fun x => Below w.heap.size w x ∧ Below w3.heap.size w3 x ∧ Below w50.heap.size w50 x) (ps := [VB (decide (a0_0 = 5)), VB (decide (a0_0 = 5))]) (by kernel_rfl) ?_ ?_ rfl hS ⟨hBw50_w, hBw50_w3, hBw50_w50⟩ ?_ ?_
   ·exact fun x y hI hb => ⟨below_step hI.1 hb, below_step hI.2.1 hb, below_step hI.2.2 hb⟩
   ·exact .v (.v (.nil))
   ·refine .on rfl (fun a w hS hI hp => does_val (x_bin rfl (hS.get 3 rfl) (rfl) (b_eql _ _ _ _ _ _)) rfl) ?_
    refine .asg 0 rfl rfl rfl rfl ?_
    exact .nil
   clear hS
   intro at52 w53 hS hI hp
   have hBw53_w := hI.1
   have hBw53_w3 := hI.2.1
   have hBw53_w50 := hI.2.2
   replace hS := (((hS.nil).cons (hS.get 3 rfl)).cons (hS.get 2 rfl)).cons (hS.get 1 rfl)
   have hv36 : sl _ 36 = .bool (decide (a0_0 = 5)) := hp 1 (by decide)
   have hBw53_w53 := Below.refl w53.heap.size w53
   have hS := hS.cons hv36
   clear hp hI hv36
   refine hK51 _ _ ?_
   (try clear hK51 K51)
   refine wp_cond_false ((hS.get 0 rfl).trans (bF (decide_eq_false c5))) ?_
   refine wp_seq_k (fun K54 hK54 => ?_)
   refine reg_seq (N := 56) (bs := [(36, .bool (decide (a0_0 = 5))), (1, .pointer (some ⟨g4, 0, none⟩)), (3, .int .i64 (a0_1.size : Int)), (8, .int .i64 a0_0)]) (I := fun x => Below w.heap.size w x ∧ Below w3.heap.size w3 x ∧ Below w53.heap.size w53 x) (ps := [VB (decide (a0_0 = 8)), VB (decide (a0_0 = 8))]) (by kernel_rfl) ?_ ?_ rfl hS ⟨hBw53_w, hBw53_w3, hBw53_w53⟩ ?_ ?_
   ·exact fun x y hI hb => ⟨below_step hI.1 hb, below_step hI.2.1 hb, below_step hI.2.2 hb⟩
   ·exact .v (.v (.nil))
   ·refine .on rfl (fun a w hS hI hp => does_val (x_bin rfl (hS.get 3 rfl) (rfl) (b_eql _ _ _ _ _ _)) rfl) ?_
    refine .asg 0 rfl rfl rfl rfl ?_
    exact .nil
   clear hS
   intro at55 w56 hS hI hp
   have hBw56_w := hI.1
   have hBw56_w3 := hI.2.1
   have hBw56_w53 := hI.2.2
   replace hS := (((hS.nil).cons (hS.get 3 rfl)).cons (hS.get 2 rfl)).cons (hS.get 1 rfl)
   have hv40 : sl _ 40 = .bool (decide (a0_0 = 8)) := hp 1 (by decide)
   have hBw56_w56 := Below.refl w56.heap.size w56
   have hS := hS.cons hv40
   clear hp hI hv40
   refine hK54 _ _ ?_
   (try clear hK54 K54)
   refine wp_cond_true ((hS.get 0 rfl).trans (bT (decide_eq_true c6))) ?_
   refine wp_seq_k (fun K57 hK57 => ?_)
   refine reg_seq (N := 56) (bs := [(40, .bool (decide (a0_0 = 8))), (1, .pointer (some ⟨g4, 0, none⟩)), (3, .int .i64 (a0_1.size : Int)), (8, .int .i64 a0_0)]) (I := fun x => Below w.heap.size w x ∧ Below w3.heap.size w3 x ∧ Below w56.heap.size w56 x) (ps := [VI (a0_1.size : Int), VI (Int.tmod (a0_1.size : Int) 8), VB (decide ((Int.tmod (a0_1.size : Int) 8) = 0)), VB (decide ((Int.tmod (a0_1.size : Int) 8) = 0)), VI (a0_1.size : Int), VB (decide ((a0_1.size : Int) ≤ 128)), VB (decide ((a0_1.size : Int) ≤ 128)), VB (decide ((a0_1.size : Int) ≤ 128))]) (by kernel_rfl) ?_ ?_ rfl hS ⟨hBw56_w, hBw56_w3, hBw56_w56⟩ ?_ ?_
   ·exact fun x y hI hb => ⟨below_step hI.1 hb, below_step hI.2.1 hb, below_step hI.2.2 hb⟩
   ·exact .v (.v (.v (.v (.v (.v (.v (.v (.nil))))))))
   ·refine .ms 2 rfl rfl rfl ?_
    refine .on rfl (fun a w hS hI hp => does_val (x_bin rfl (hp.V 0 rfl rfl) (rfl) (b_rem _ _ _ _ _ _ (by decide))) rfl) ?_
    refine .on rfl (fun a w hS hI hp => does_val (x_bin rfl (hp.V 1 rfl rfl) (rfl) (b_eql _ _ _ _ _ _)) rfl) ?_
    refine .mv 2 rfl rfl rfl rfl ?_
    refine .oy 3 45 rfl rfl rfl rfl rfl ((decide_eq_true c7)) (fun a w hS hI hp => does_val (x_move rfl (hS.get 2 rfl)) rfl) ?_
    refine .oy 3 45 rfl rfl rfl rfl rfl ((decide_eq_true c7)) (fun a w hS hI hp => does_val (x_bin rfl (hp.V 4 rfl rfl) (rfl) (b_leq _ _ _ _ _ _)) rfl) ?_
    refine .pt 3 5 rfl rfl rfl rfl ((decide_eq_true c7)) rfl rfl ?_
    refine .asg 6 rfl rfl rfl rfl ?_
    exact .nil
   clear hS
   intro at58 w59 hS hI hp
   have hBw59_w := hI.1
   have hBw59_w3 := hI.2.1
   have hBw59_w56 := hI.2.2
   replace hS := hS.nil
   have hv2 : sl _ 2 = .bool (decide ((a0_1.size : Int) ≤ 128)) := hp 7 (by decide)
   have hBw59_w59 := Below.refl w59.heap.size w59
   have hS := hS.cons hv2
   clear hp hI hv2
   refine hK57 _ _ ?_
   (try clear hK57 K57)
   refine wp_ret ?_
   (try simp only [Exit.then, Exit.inBlock, Exit.jump, Exit.noGoto])
   exact bodyPost_ret (v := .bool (decide ((a0_1.size : Int) ≤ 128))) (results_single rfl (Vals.at (hS.get 0 rfl) .nil)) hS.nodef ⟨rfl, hBw59_w⟩
  rw [if_neg c7] at H
  obtain rfl := Option.some.inj H
  refine calls_of_wp (fn := Try.f19) (by kernel_rfl) rfl ?_
  have hS := St.enter #[.agg #[.int .i64 a0_0, .string a0_1]] 56 (by simp) [(0, .agg #[.int .i64 a0_0, .string a0_1])] (by simp)
  have HB0 := Below.refl w.heap.size w
  refine wp_seq_k (fun K1 hK1 => ?_)
  refine reg_seq (N := 56) (bs := [(0, .agg #[.int .i64 a0_0, .string a0_1])]) (I := fun x => Below w.heap.size w x) (ps := [IsB #[.int .i64 a0_0, .string a0_1] 26 w.heap.size, VB false]) (by kernel_rfl) ?_ ?_ rfl hS HB0 ?_ ?_
  ·exact fun x y hI hb => below_step hI hb
  ·exact .cons (Stays.b _ _ _) (.v (.nil))
  ·refine .on rfl (fun a w hS hI hp => does_var (x_box rfl (congrArg Value.cells (hS.get 0 rfl))) (hI).size) ?_
   refine .on rfl (fun a w hS hI hp => does_val (x_assign rfl (rfl)) rfl) ?_
   exact .nil
  clear hS
  intro at2 w3 hS hI hp
  have hBw3_w := hI
  replace hS := hS.nil
  obtain ⟨g4, hv1, hgeg4, hbxg4⟩ := (show IsB _ 26 _ (sl _ 1) _ from hp 0 (by decide))
  have hBw3_w3 := Below.refl w3.heap.size w3
  have hS := hS.cons hv1
  clear hp hI hv1
  refine hK1 _ _ ?_
  (try clear hK1 K1)
  refine wp_seq_k (fun K5 hK5 => ?_)
  refine reg_seq (N := 56) (bs := [(1, .pointer (some ⟨g4, 0, none⟩))]) (I := fun x => Below w.heap.size w x ∧ Below w3.heap.size w3 x) (ps := [VP g4 1, IsV (.string a0_1), VI (a0_1.size : Int), VI (a0_1.size : Int)]) (by kernel_rfl) ?_ ?_ rfl hS ⟨hBw3_w, hBw3_w3⟩ ?_ ?_
  ·exact fun x y hI hb => ⟨below_step hI.1 hb, below_step hI.2 hb⟩
  ·exact .v (.v (.v (.v (.nil))))
  ·refine .on rfl (fun a w hS hI hp => does_val (x_fieldE (b := 0) rfl (hS.get 0 rfl) Try.underlying26 rfl rfl (by kernel_rfl)) rfl) ?_
   refine .on rfl (fun a w hS hI hp => does_val (x_load1 (d := .string) rfl (hp.V 0 rfl rfl) (by kernel_rfl) rfl ((blk_cell (((hI.2).block g4 (blk_lt hbxg4)).trans hbxg4) 1).trans rfl)) rfl) ?_
   refine .on rfl (fun a w hS hI hp => does_val (x_lenS rfl (by kernel_rfl) (hp.V 1 rfl rfl)) rfl) ?_
   refine .asg 2 rfl rfl rfl rfl ?_
   exact .nil
  clear hS
  intro at6 w7 hS hI hp
  have hBw7_w := hI.1
  have hBw7_w3 := hI.2
  have hv3 : sl _ 3 = .int .i64 (a0_1.size : Int) := hp 3 (by decide)
  have hBw7_w7 := Below.refl w7.heap.size w7
  have hS := hS.cons hv3
  clear hp hI hv3
  refine hK5 _ _ ?_
  (try clear hK5 K5)
  refine wp_seq_k (fun K8 hK8 => ?_)
  refine wp_seq_k (fun K9 hK9 => ?_)
  refine reg_seq (N := 56) (bs := [(3, .int .i64 (a0_1.size : Int)), (1, .pointer (some ⟨g4, 0, none⟩))]) (I := fun x => Below w.heap.size w x ∧ Below w3.heap.size w3 x ∧ Below w7.heap.size w7 x) (ps := [VP g4 0, VI a0_0]) (by kernel_rfl) ?_ ?_ rfl hS ⟨hBw7_w, hBw7_w3, hBw7_w7⟩ ?_ ?_
  ·exact fun x y hI hb => ⟨below_step hI.1 hb, below_step hI.2.1 hb, below_step hI.2.2 hb⟩
  ·exact .v (.v (.nil))
  ·refine .on rfl (fun a w hS hI hp => does_val (x_fieldE (b := 0) rfl (hS.get 1 rfl) Try.underlying26 rfl rfl (by kernel_rfl)) rfl) ?_
   refine .on rfl (fun a w hS hI hp => does_val (x_load1 (d := .int .i64) rfl (hp.V 0 rfl rfl) (by kernel_rfl) rfl ((blk_cell (((hI.2.1).block g4 (blk_lt hbxg4)).trans hbxg4) 0).trans rfl)) rfl) ?_
   exact .nil
  clear hS
  intro at10 w11 hS hI hp
  have hBw11_w := hI.1
  have hBw11_w3 := hI.2.1
  have hBw11_w7 := hI.2.2
  have hv8 : sl _ 8 = .int .i64 a0_0 := hp 1 (by decide)
  have hBw11_w11 := Below.refl w11.heap.size w11
  have hS := hS.cons hv8
  clear hp hI hv8
  refine hK9 _ _ ?_
  (try clear hK9 K9)
  refine wp_block ?_
  refine wp_seq_k (fun K12 hK12 => ?_)
  refine wp_mono (Q := fun e a' w' => e = Exit.normal ∧ St 56 [(1, .pointer (some ⟨g4, 0, none⟩)), (3, .int .i64 (a0_1.size : Int)), (8, .int .i64 a0_0), (9, .bool (if a0_0 = 1 then decide (a0_0 = 1) else (if a0_0 = 6 then decide (a0_0 = 6) else decide (a0_0 = 7))))] a' ∧ Below w.heap.size w w' ∧ Below w3.heap.size w3 w' ∧ Below w11.heap.size w11 w') ?_ ?_
  ·by_cases d13_0 : a0_0 = 1
   ·refine wp_seq_k (fun K17 hK17 => ?_)
    refine reg_seq (N := 56) (bs := [(8, .int .i64 a0_0), (3, .int .i64 (a0_1.size : Int)), (1, .pointer (some ⟨g4, 0, none⟩))]) (I := fun x => Below w.heap.size w x ∧ Below w3.heap.size w3 x ∧ Below w11.heap.size w11 x) (ps := [VB (decide (a0_0 = 1)), VB (decide (a0_0 = 1))]) (by kernel_rfl) ?_ ?_ rfl hS ⟨hBw11_w, hBw11_w3, hBw11_w11⟩ ?_ ?_
    ·exact fun x y hI hb => ⟨below_step hI.1 hb, below_step hI.2.1 hb, below_step hI.2.2 hb⟩
    ·exact .v (.v (.nil))
    ·refine .on rfl (fun a w hS hI hp => does_val (x_bin rfl (hS.get 0 rfl) (rfl) (b_eql _ _ _ _ _ _)) rfl) ?_
     refine .asg 0 rfl rfl rfl rfl ?_
     exact .nil
    clear hS
    intro at18 w19 hS hI hp
    have hBw19_w := hI.1
    have hBw19_w3 := hI.2.1
    have hBw19_w11 := hI.2.2
    have hv9 : sl _ 9 = .bool (decide (a0_0 = 1)) := hp 1 (by decide)
    have hBw19_w19 := Below.refl w19.heap.size w19
    have hS := hS.cons hv9
    clear hp hI hv9
    refine hK17 _ _ ?_
    (try clear hK17 K17)
    refine wp_cond_true ((hS.get 0 rfl).trans (bT (decide_eq_true d13_0))) ?_
    refine wp_skip ?_
    (try simp only [Exit.then, Exit.inBlock, reduceIte])
    exact ⟨by trivial, ((((hS.nil).cons ((hS.get 0 rfl).trans (congrArg (Value.bool) (by simp only [if_pos d13_0])))).cons (hS.get 1 rfl)).cons (hS.get 2 rfl)).cons (hS.get 3 rfl), hBw19_w, hBw19_w3, hBw19_w11⟩
   ·by_cases d13_1 : a0_0 = 6
    ·refine wp_seq_k (fun K26 hK26 => ?_)
     refine reg_seq (N := 56) (bs := [(8, .int .i64 a0_0), (3, .int .i64 (a0_1.size : Int)), (1, .pointer (some ⟨g4, 0, none⟩))]) (I := fun x => Below w.heap.size w x ∧ Below w3.heap.size w3 x ∧ Below w11.heap.size w11 x) (ps := [VB (decide (a0_0 = 1)), VB (decide (a0_0 = 1))]) (by kernel_rfl) ?_ ?_ rfl hS ⟨hBw11_w, hBw11_w3, hBw11_w11⟩ ?_ ?_
     ·exact fun x y hI hb => ⟨below_step hI.1 hb, below_step hI.2.1 hb, below_step hI.2.2 hb⟩
     ·exact .v (.v (.nil))
     ·refine .on rfl (fun a w hS hI hp => does_val (x_bin rfl (hS.get 0 rfl) (rfl) (b_eql _ _ _ _ _ _)) rfl) ?_
      refine .asg 0 rfl rfl rfl rfl ?_
      exact .nil
     clear hS
     intro at27 w28 hS hI hp
     have hBw28_w := hI.1
     have hBw28_w3 := hI.2.1
     have hBw28_w11 := hI.2.2
     have hv9 : sl _ 9 = .bool (decide (a0_0 = 1)) := hp 1 (by decide)
     have hBw28_w28 := Below.refl w28.heap.size w28
     have hS := hS.cons hv9
     clear hp hI hv9
     refine hK26 _ _ ?_
     (try clear hK26 K26)
     refine wp_cond_false ((hS.get 0 rfl).trans (bF (decide_eq_false d13_0))) ?_
     refine wp_seq_k (fun K29 hK29 => ?_)
     replace hS := (((hS.nil).cons (hS.get 3 rfl)).cons (hS.get 2 rfl)).cons (hS.get 1 rfl)
     refine reg_seq (N := 56) (bs := [(8, .int .i64 a0_0), (3, .int .i64 (a0_1.size : Int)), (1, .pointer (some ⟨g4, 0, none⟩))]) (I := fun x => Below w.heap.size w x ∧ Below w3.heap.size w3 x ∧ Below w11.heap.size w11 x ∧ Below w28.heap.size w28 x) (ps := [VB (decide (a0_0 = 6)), VB (decide (a0_0 = 6))]) (by kernel_rfl) ?_ ?_ rfl hS ⟨hBw28_w, hBw28_w3, hBw28_w11, hBw28_w28⟩ ?_ ?_
     ·exact fun x y hI hb => ⟨below_step hI.1 hb, below_step hI.2.1 hb, below_step hI.2.2.1 hb, below_step hI.2.2.2 hb⟩
     ·exact .v (.v (.nil))
     ·refine .on rfl (fun a w hS hI hp => does_val (x_bin rfl (hS.get 0 rfl) (rfl) (b_eql _ _ _ _ _ _)) rfl) ?_
      refine .asg 0 rfl rfl rfl rfl ?_
      exact .nil
     clear hS
     intro at30 w31 hS hI hp
     have hBw31_w := hI.1
     have hBw31_w3 := hI.2.1
     have hBw31_w11 := hI.2.2.1
     have hBw31_w28 := hI.2.2.2
     have hv9 : sl _ 9 = .bool (decide (a0_0 = 6)) := hp 1 (by decide)
     have hBw31_w31 := Below.refl w31.heap.size w31
     have hS := hS.cons hv9
     clear hp hI hv9
     refine hK29 _ _ ?_
     (try clear hK29 K29)
     refine wp_cond_true ((hS.get 0 rfl).trans (bT (decide_eq_true d13_1))) ?_
     refine wp_skip ?_
     (try simp only [Exit.then, Exit.inBlock, reduceIte])
     exact ⟨by trivial, ((((hS.nil).cons ((hS.get 0 rfl).trans (congrArg (Value.bool) (by simp only [if_neg d13_0, if_pos d13_1])))).cons (hS.get 1 rfl)).cons (hS.get 2 rfl)).cons (hS.get 3 rfl), hBw31_w, hBw31_w3, hBw31_w11⟩
    ·refine wp_seq_k (fun K32 hK32 => ?_)
     refine reg_seq (N := 56) (bs := [(8, .int .i64 a0_0), (3, .int .i64 (a0_1.size : Int)), (1, .pointer (some ⟨g4, 0, none⟩))]) (I := fun x => Below w.heap.size w x ∧ Below w3.heap.size w3 x ∧ Below w11.heap.size w11 x) (ps := [VB (decide (a0_0 = 1)), VB (decide (a0_0 = 1))]) (by kernel_rfl) ?_ ?_ rfl hS ⟨hBw11_w, hBw11_w3, hBw11_w11⟩ ?_ ?_
     ·exact fun x y hI hb => ⟨below_step hI.1 hb, below_step hI.2.1 hb, below_step hI.2.2 hb⟩
     ·exact .v (.v (.nil))
     ·refine .on rfl (fun a w hS hI hp => does_val (x_bin rfl (hS.get 0 rfl) (rfl) (b_eql _ _ _ _ _ _)) rfl) ?_
      refine .asg 0 rfl rfl rfl rfl ?_
      exact .nil
     clear hS
     intro at33 w34 hS hI hp
     have hBw34_w := hI.1
     have hBw34_w3 := hI.2.1
     have hBw34_w11 := hI.2.2
     have hv9 : sl _ 9 = .bool (decide (a0_0 = 1)) := hp 1 (by decide)
     have hBw34_w34 := Below.refl w34.heap.size w34
     have hS := hS.cons hv9
     clear hp hI hv9
     refine hK32 _ _ ?_
     (try clear hK32 K32)
     refine wp_cond_false ((hS.get 0 rfl).trans (bF (decide_eq_false d13_0))) ?_
     refine wp_seq_k (fun K35 hK35 => ?_)
     replace hS := (((hS.nil).cons (hS.get 3 rfl)).cons (hS.get 2 rfl)).cons (hS.get 1 rfl)
     refine reg_seq (N := 56) (bs := [(8, .int .i64 a0_0), (3, .int .i64 (a0_1.size : Int)), (1, .pointer (some ⟨g4, 0, none⟩))]) (I := fun x => Below w.heap.size w x ∧ Below w3.heap.size w3 x ∧ Below w11.heap.size w11 x ∧ Below w34.heap.size w34 x) (ps := [VB (decide (a0_0 = 6)), VB (decide (a0_0 = 6))]) (by kernel_rfl) ?_ ?_ rfl hS ⟨hBw34_w, hBw34_w3, hBw34_w11, hBw34_w34⟩ ?_ ?_
     ·exact fun x y hI hb => ⟨below_step hI.1 hb, below_step hI.2.1 hb, below_step hI.2.2.1 hb, below_step hI.2.2.2 hb⟩
     ·exact .v (.v (.nil))
     ·refine .on rfl (fun a w hS hI hp => does_val (x_bin rfl (hS.get 0 rfl) (rfl) (b_eql _ _ _ _ _ _)) rfl) ?_
      refine .asg 0 rfl rfl rfl rfl ?_
      exact .nil
     clear hS
     intro at36 w37 hS hI hp
     have hBw37_w := hI.1
     have hBw37_w3 := hI.2.1
     have hBw37_w11 := hI.2.2.1
     have hBw37_w34 := hI.2.2.2
     have hv9 : sl _ 9 = .bool (decide (a0_0 = 6)) := hp 1 (by decide)
     have hBw37_w37 := Below.refl w37.heap.size w37
     have hS := hS.cons hv9
     clear hp hI hv9
     refine hK35 _ _ ?_
     (try clear hK35 K35)
     refine wp_cond_false ((hS.get 0 rfl).trans (bF (decide_eq_false d13_1))) ?_
     replace hS := (((hS.nil).cons (hS.get 3 rfl)).cons (hS.get 2 rfl)).cons (hS.get 1 rfl)
     refine reg_seq (N := 56) (bs := [(8, .int .i64 a0_0), (3, .int .i64 (a0_1.size : Int)), (1, .pointer (some ⟨g4, 0, none⟩))]) (I := fun x => Below w.heap.size w x ∧ Below w3.heap.size w3 x ∧ Below w11.heap.size w11 x ∧ Below w37.heap.size w37 x) (ps := [VB (decide (a0_0 = 7)), VB (decide (a0_0 = 7))]) (by kernel_rfl) ?_ ?_ rfl hS ⟨hBw37_w, hBw37_w3, hBw37_w11, hBw37_w37⟩ ?_ ?_
     ·exact fun x y hI hb => ⟨below_step hI.1 hb, below_step hI.2.1 hb, below_step hI.2.2.1 hb, below_step hI.2.2.2 hb⟩
     ·exact .v (.v (.nil))
     ·refine .on rfl (fun a w hS hI hp => does_val (x_bin rfl (hS.get 0 rfl) (rfl) (b_eql _ _ _ _ _ _)) rfl) ?_
      refine .asg 0 rfl rfl rfl rfl ?_
      exact .nil
     clear hS
     intro at38 w39 hS hI hp
     have hBw39_w := hI.1
     have hBw39_w3 := hI.2.1
     have hBw39_w11 := hI.2.2.1
     have hBw39_w37 := hI.2.2.2
     have hv9 : sl _ 9 = .bool (decide (a0_0 = 7)) := hp 1 (by decide)
     have hBw39_w39 := Below.refl w39.heap.size w39
     have hS := hS.cons hv9
     clear hp hI hv9
     (try simp only [Exit.then, Exit.inBlock, reduceIte])
     exact ⟨by trivial, ((((hS.nil).cons ((hS.get 0 rfl).trans (congrArg (Value.bool) (by simp only [if_neg d13_0, if_neg d13_1])))).cons (hS.get 1 rfl)).cons (hS.get 2 rfl)).cons (hS.get 3 rfl), hBw39_w, hBw39_w3, hBw39_w11⟩
  rintro e41 at41 w40 ⟨rfl, hS, hBw40_w, hBw40_w3, hBw40_w11⟩
  have hBw40_w40 := Below.refl w40.heap.size w40
  (try simp only [Exit.then, Exit.inBlock, reduceIte])
  refine hK12 _ _ ?_
  (try clear hK12 K12)
  refine wp_cond_false ((hS.get 3 rfl).trans (bF (Bool.eq_false_iff.2 c1))) ?_
  refine wp_seq_k (fun K42 hK42 => ?_)
  refine reg_seq (N := 56) (bs := [(1, .pointer (some ⟨g4, 0, none⟩)), (3, .int .i64 (a0_1.size : Int)), (8, .int .i64 a0_0), (9, .bool (if a0_0 = 1 then decide (a0_0 = 1) else (if a0_0 = 6 then decide (a0_0 = 6) else decide (a0_0 = 7))))]) (I := fun x => Below w.heap.size w x ∧ Below w3.heap.size w3 x ∧ Below w40.heap.size w40 x) (ps := [VB (decide (a0_0 = 2)), VB (decide (a0_0 = 2))]) (by kernel_rfl) ?_ ?_ rfl hS ⟨hBw40_w, hBw40_w3, hBw40_w40⟩ ?_ ?_
  ·exact fun x y hI hb => ⟨below_step hI.1 hb, below_step hI.2.1 hb, below_step hI.2.2 hb⟩
  ·exact .v (.v (.nil))
  ·refine .on rfl (fun a w hS hI hp => does_val (x_bin rfl (hS.get 2 rfl) (rfl) (b_eql _ _ _ _ _ _)) rfl) ?_
   refine .asg 0 rfl rfl rfl rfl ?_
   exact .nil
  clear hS
  intro at43 w44 hS hI hp
  have hBw44_w := hI.1
  have hBw44_w3 := hI.2.1
  have hBw44_w40 := hI.2.2
  replace hS := (((hS.nil).cons (hS.get 2 rfl)).cons (hS.get 1 rfl)).cons (hS.get 0 rfl)
  have hv24 : sl _ 24 = .bool (decide (a0_0 = 2)) := hp 1 (by decide)
  have hBw44_w44 := Below.refl w44.heap.size w44
  have hS := hS.cons hv24
  clear hp hI hv24
  refine hK42 _ _ ?_
  (try clear hK42 K42)
  refine wp_cond_false ((hS.get 0 rfl).trans (bF (decide_eq_false c2))) ?_
  refine wp_seq_k (fun K45 hK45 => ?_)
  refine reg_seq (N := 56) (bs := [(24, .bool (decide (a0_0 = 2))), (1, .pointer (some ⟨g4, 0, none⟩)), (3, .int .i64 (a0_1.size : Int)), (8, .int .i64 a0_0)]) (I := fun x => Below w.heap.size w x ∧ Below w3.heap.size w3 x ∧ Below w44.heap.size w44 x) (ps := [VB (decide (a0_0 = 3)), VB (decide (a0_0 = 3))]) (by kernel_rfl) ?_ ?_ rfl hS ⟨hBw44_w, hBw44_w3, hBw44_w44⟩ ?_ ?_
  ·exact fun x y hI hb => ⟨below_step hI.1 hb, below_step hI.2.1 hb, below_step hI.2.2 hb⟩
  ·exact .v (.v (.nil))
  ·refine .on rfl (fun a w hS hI hp => does_val (x_bin rfl (hS.get 3 rfl) (rfl) (b_eql _ _ _ _ _ _)) rfl) ?_
   refine .asg 0 rfl rfl rfl rfl ?_
   exact .nil
  clear hS
  intro at46 w47 hS hI hp
  have hBw47_w := hI.1
  have hBw47_w3 := hI.2.1
  have hBw47_w44 := hI.2.2
  replace hS := (((hS.nil).cons (hS.get 3 rfl)).cons (hS.get 2 rfl)).cons (hS.get 1 rfl)
  have hv28 : sl _ 28 = .bool (decide (a0_0 = 3)) := hp 1 (by decide)
  have hBw47_w47 := Below.refl w47.heap.size w47
  have hS := hS.cons hv28
  clear hp hI hv28
  refine hK45 _ _ ?_
  (try clear hK45 K45)
  refine wp_cond_false ((hS.get 0 rfl).trans (bF (decide_eq_false c3))) ?_
  refine wp_seq_k (fun K48 hK48 => ?_)
  refine reg_seq (N := 56) (bs := [(28, .bool (decide (a0_0 = 3))), (1, .pointer (some ⟨g4, 0, none⟩)), (3, .int .i64 (a0_1.size : Int)), (8, .int .i64 a0_0)]) (I := fun x => Below w.heap.size w x ∧ Below w3.heap.size w3 x ∧ Below w47.heap.size w47 x) (ps := [VB (decide (a0_0 = 4)), VB (decide (a0_0 = 4))]) (by kernel_rfl) ?_ ?_ rfl hS ⟨hBw47_w, hBw47_w3, hBw47_w47⟩ ?_ ?_
  ·exact fun x y hI hb => ⟨below_step hI.1 hb, below_step hI.2.1 hb, below_step hI.2.2 hb⟩
  ·exact .v (.v (.nil))
  ·refine .on rfl (fun a w hS hI hp => does_val (x_bin rfl (hS.get 3 rfl) (rfl) (b_eql _ _ _ _ _ _)) rfl) ?_
   refine .asg 0 rfl rfl rfl rfl ?_
   exact .nil
  clear hS
  intro at49 w50 hS hI hp
  have hBw50_w := hI.1
  have hBw50_w3 := hI.2.1
  have hBw50_w47 := hI.2.2
  replace hS := (((hS.nil).cons (hS.get 3 rfl)).cons (hS.get 2 rfl)).cons (hS.get 1 rfl)
  have hv32 : sl _ 32 = .bool (decide (a0_0 = 4)) := hp 1 (by decide)
  have hBw50_w50 := Below.refl w50.heap.size w50
  have hS := hS.cons hv32
  clear hp hI hv32
  refine hK48 _ _ ?_
  (try clear hK48 K48)
  refine wp_cond_false ((hS.get 0 rfl).trans (bF (decide_eq_false c4))) ?_
  refine wp_seq_k (fun K51 hK51 => ?_)
  refine reg_seq (N := 56) (bs := [(32, .bool (decide (a0_0 = 4))), (1, .pointer (some ⟨g4, 0, none⟩)), (3, .int .i64 (a0_1.size : Int)), (8, .int .i64 a0_0)]) (I := fun x => Below w.heap.size w x ∧ Below w3.heap.size w3 x ∧ Below w50.heap.size w50 x) (ps := [VB (decide (a0_0 = 5)), VB (decide (a0_0 = 5))]) (by kernel_rfl) ?_ ?_ rfl hS ⟨hBw50_w, hBw50_w3, hBw50_w50⟩ ?_ ?_
  ·exact fun x y hI hb => ⟨below_step hI.1 hb, below_step hI.2.1 hb, below_step hI.2.2 hb⟩
  ·exact .v (.v (.nil))
  ·refine .on rfl (fun a w hS hI hp => does_val (x_bin rfl (hS.get 3 rfl) (rfl) (b_eql _ _ _ _ _ _)) rfl) ?_
   refine .asg 0 rfl rfl rfl rfl ?_
   exact .nil
  clear hS
  intro at52 w53 hS hI hp
  have hBw53_w := hI.1
  have hBw53_w3 := hI.2.1
  have hBw53_w50 := hI.2.2
  replace hS := (((hS.nil).cons (hS.get 3 rfl)).cons (hS.get 2 rfl)).cons (hS.get 1 rfl)
  have hv36 : sl _ 36 = .bool (decide (a0_0 = 5)) := hp 1 (by decide)
  have hBw53_w53 := Below.refl w53.heap.size w53
  have hS := hS.cons hv36
  clear hp hI hv36
  refine hK51 _ _ ?_
  (try clear hK51 K51)
  refine wp_cond_false ((hS.get 0 rfl).trans (bF (decide_eq_false c5))) ?_
  refine wp_seq_k (fun K54 hK54 => ?_)
  refine reg_seq (N := 56) (bs := [(36, .bool (decide (a0_0 = 5))), (1, .pointer (some ⟨g4, 0, none⟩)), (3, .int .i64 (a0_1.size : Int)), (8, .int .i64 a0_0)]) (I := fun x => Below w.heap.size w x ∧ Below w3.heap.size w3 x ∧ Below w53.heap.size w53 x) (ps := [VB (decide (a0_0 = 8)), VB (decide (a0_0 = 8))]) (by kernel_rfl) ?_ ?_ rfl hS ⟨hBw53_w, hBw53_w3, hBw53_w53⟩ ?_ ?_
  ·exact fun x y hI hb => ⟨below_step hI.1 hb, below_step hI.2.1 hb, below_step hI.2.2 hb⟩
  ·exact .v (.v (.nil))
  ·refine .on rfl (fun a w hS hI hp => does_val (x_bin rfl (hS.get 3 rfl) (rfl) (b_eql _ _ _ _ _ _)) rfl) ?_
   refine .asg 0 rfl rfl rfl rfl ?_
   exact .nil
  clear hS
  intro at55 w56 hS hI hp
  have hBw56_w := hI.1
  have hBw56_w3 := hI.2.1
  have hBw56_w53 := hI.2.2
  replace hS := (((hS.nil).cons (hS.get 3 rfl)).cons (hS.get 2 rfl)).cons (hS.get 1 rfl)
  have hv40 : sl _ 40 = .bool (decide (a0_0 = 8)) := hp 1 (by decide)
  have hBw56_w56 := Below.refl w56.heap.size w56
  have hS := hS.cons hv40
  clear hp hI hv40
  refine hK54 _ _ ?_
  (try clear hK54 K54)
  refine wp_cond_true ((hS.get 0 rfl).trans (bT (decide_eq_true c6))) ?_
  refine wp_seq_k (fun K57 hK57 => ?_)
  refine reg_seq (N := 56) (bs := [(40, .bool (decide (a0_0 = 8))), (1, .pointer (some ⟨g4, 0, none⟩)), (3, .int .i64 (a0_1.size : Int)), (8, .int .i64 a0_0)]) (I := fun x => Below w.heap.size w x ∧ Below w3.heap.size w3 x ∧ Below w56.heap.size w56 x) (ps := [VI (a0_1.size : Int), VI (Int.tmod (a0_1.size : Int) 8), VB (decide ((Int.tmod (a0_1.size : Int) 8) = 0)), VB (decide ((Int.tmod (a0_1.size : Int) 8) = 0)), VU, VU, VB false, VB false]) (by kernel_rfl) ?_ ?_ rfl hS ⟨hBw56_w, hBw56_w3, hBw56_w56⟩ ?_ ?_
  ·exact fun x y hI hb => ⟨below_step hI.1 hb, below_step hI.2.1 hb, below_step hI.2.2 hb⟩
  ·exact .v (.v (.v (.v (.v (.v (.v (.v (.nil))))))))
  ·refine .ms 2 rfl rfl rfl ?_
   refine .on rfl (fun a w hS hI hp => does_val (x_bin rfl (hp.V 0 rfl rfl) (rfl) (b_rem _ _ _ _ _ _ (by decide))) rfl) ?_
   refine .on rfl (fun a w hS hI hp => does_val (x_bin rfl (hp.V 1 rfl rfl) (rfl) (b_eql _ _ _ _ _ _)) rfl) ?_
   refine .mv 2 rfl rfl rfl rfl ?_
   iterate 2 refine .sn 3 45 rfl rfl rfl rfl rfl ((decide_eq_false c7)) ?_
   refine .pf 3 rfl rfl rfl rfl ((decide_eq_false c7)) (fun _ => rfl) ?_
   refine .asg 6 rfl rfl rfl rfl ?_
   exact .nil
  clear hS
  intro at58 w59 hS hI hp
  have hBw59_w := hI.1
  have hBw59_w3 := hI.2.1
  have hBw59_w56 := hI.2.2
  replace hS := hS.nil
  have hv2 : sl _ 2 = .bool false := hp 7 (by decide)
  have hBw59_w59 := Below.refl w59.heap.size w59
  have hS := hS.cons hv2
  clear hp hI hv2
  refine hK57 _ _ ?_
  (try clear hK57 K57)
  refine wp_ret ?_
  (try simp only [Exit.then, Exit.inBlock, Exit.jump, Exit.noGoto])
  exact bodyPost_ret (v := .bool false) (results_single rfl (Vals.at (hS.get 0 rfl) .nil)) hS.nodef ⟨rfl, hBw59_w⟩
 rw [if_neg c6] at H
 by_cases c7 : a0_0 = 9
 ·rw [if_pos c7] at H
  obtain rfl := Option.some.inj H
  refine calls_of_wp (fn := Try.f19) (by kernel_rfl) rfl ?_
  have hS := St.enter #[.agg #[.int .i64 a0_0, .string a0_1]] 56 (by simp) [(0, .agg #[.int .i64 a0_0, .string a0_1])] (by simp)
  have HB0 := Below.refl w.heap.size w
  refine wp_seq_k (fun K1 hK1 => ?_)
  refine reg_seq (N := 56) (bs := [(0, .agg #[.int .i64 a0_0, .string a0_1])]) (I := fun x => Below w.heap.size w x) (ps := [IsB #[.int .i64 a0_0, .string a0_1] 26 w.heap.size, VB false]) (by kernel_rfl) ?_ ?_ rfl hS HB0 ?_ ?_
  ·exact fun x y hI hb => below_step hI hb
  ·exact .cons (Stays.b _ _ _) (.v (.nil))
  ·refine .on rfl (fun a w hS hI hp => does_var (x_box rfl (congrArg Value.cells (hS.get 0 rfl))) (hI).size) ?_
   refine .on rfl (fun a w hS hI hp => does_val (x_assign rfl (rfl)) rfl) ?_
   exact .nil
  clear hS
  intro at2 w3 hS hI hp
  have hBw3_w := hI
  replace hS := hS.nil
  obtain ⟨g4, hv1, hgeg4, hbxg4⟩ := (show IsB _ 26 _ (sl _ 1) _ from hp 0 (by decide))
  have hBw3_w3 := Below.refl w3.heap.size w3
  have hS := hS.cons hv1
  clear hp hI hv1
  refine hK1 _ _ ?_
  (try clear hK1 K1)
  refine wp_seq_k (fun K5 hK5 => ?_)
  refine reg_seq (N := 56) (bs := [(1, .pointer (some ⟨g4, 0, none⟩))]) (I := fun x => Below w.heap.size w x ∧ Below w3.heap.size w3 x) (ps := [VP g4 1, IsV (.string a0_1), VI (a0_1.size : Int), VI (a0_1.size : Int)]) (by kernel_rfl) ?_ ?_ rfl hS ⟨hBw3_w, hBw3_w3⟩ ?_ ?_
  ·exact fun x y hI hb => ⟨below_step hI.1 hb, below_step hI.2 hb⟩
  ·exact .v (.v (.v (.v (.nil))))
  ·refine .on rfl (fun a w hS hI hp => does_val (x_fieldE (b := 0) rfl (hS.get 0 rfl) Try.underlying26 rfl rfl (by kernel_rfl)) rfl) ?_
   refine .on rfl (fun a w hS hI hp => does_val (x_load1 (d := .string) rfl (hp.V 0 rfl rfl) (by kernel_rfl) rfl ((blk_cell (((hI.2).block g4 (blk_lt hbxg4)).trans hbxg4) 1).trans rfl)) rfl) ?_
   refine .on rfl (fun a w hS hI hp => does_val (x_lenS rfl (by kernel_rfl) (hp.V 1 rfl rfl)) rfl) ?_
   refine .asg 2 rfl rfl rfl rfl ?_
   exact .nil
  clear hS
  intro at6 w7 hS hI hp
  have hBw7_w := hI.1
  have hBw7_w3 := hI.2
  have hv3 : sl _ 3 = .int .i64 (a0_1.size : Int) := hp 3 (by decide)
  have hBw7_w7 := Below.refl w7.heap.size w7
  have hS := hS.cons hv3
  clear hp hI hv3
  refine hK5 _ _ ?_
  (try clear hK5 K5)
  refine wp_seq_k (fun K8 hK8 => ?_)
  refine wp_seq_k (fun K9 hK9 => ?_)
  refine reg_seq (N := 56) (bs := [(3, .int .i64 (a0_1.size : Int)), (1, .pointer (some ⟨g4, 0, none⟩))]) (I := fun x => Below w.heap.size w x ∧ Below w3.heap.size w3 x ∧ Below w7.heap.size w7 x) (ps := [VP g4 0, VI a0_0]) (by kernel_rfl) ?_ ?_ rfl hS ⟨hBw7_w, hBw7_w3, hBw7_w7⟩ ?_ ?_
  ·exact fun x y hI hb => ⟨below_step hI.1 hb, below_step hI.2.1 hb, below_step hI.2.2 hb⟩
  ·exact .v (.v (.nil))
  ·refine .on rfl (fun a w hS hI hp => does_val (x_fieldE (b := 0) rfl (hS.get 1 rfl) Try.underlying26 rfl rfl (by kernel_rfl)) rfl) ?_
   refine .on rfl (fun a w hS hI hp => does_val (x_load1 (d := .int .i64) rfl (hp.V 0 rfl rfl) (by kernel_rfl) rfl ((blk_cell (((hI.2.1).block g4 (blk_lt hbxg4)).trans hbxg4) 0).trans rfl)) rfl) ?_
   exact .nil
  clear hS
  intro at10 w11 hS hI hp
  have hBw11_w := hI.1
  have hBw11_w3 := hI.2.1
  have hBw11_w7 := hI.2.2
  have hv8 : sl _ 8 = .int .i64 a0_0 := hp 1 (by decide)
  have hBw11_w11 := Below.refl w11.heap.size w11
  have hS := hS.cons hv8
  clear hp hI hv8
  refine hK9 _ _ ?_
  (try clear hK9 K9)
  refine wp_block ?_
  refine wp_seq_k (fun K12 hK12 => ?_)
  refine wp_mono (Q := fun e a' w' => e = Exit.normal ∧ St 56 [(1, .pointer (some ⟨g4, 0, none⟩)), (3, .int .i64 (a0_1.size : Int)), (8, .int .i64 a0_0), (9, .bool (if a0_0 = 1 then decide (a0_0 = 1) else (if a0_0 = 6 then decide (a0_0 = 6) else decide (a0_0 = 7))))] a' ∧ Below w.heap.size w w' ∧ Below w3.heap.size w3 w' ∧ Below w11.heap.size w11 w') ?_ ?_
  ·by_cases d13_0 : a0_0 = 1
   ·refine wp_seq_k (fun K17 hK17 => ?_)
    refine reg_seq (N := 56) (bs := [(8, .int .i64 a0_0), (3, .int .i64 (a0_1.size : Int)), (1, .pointer (some ⟨g4, 0, none⟩))]) (I := fun x => Below w.heap.size w x ∧ Below w3.heap.size w3 x ∧ Below w11.heap.size w11 x) (ps := [VB (decide (a0_0 = 1)), VB (decide (a0_0 = 1))]) (by kernel_rfl) ?_ ?_ rfl hS ⟨hBw11_w, hBw11_w3, hBw11_w11⟩ ?_ ?_
    ·exact fun x y hI hb => ⟨below_step hI.1 hb, below_step hI.2.1 hb, below_step hI.2.2 hb⟩
    ·exact .v (.v (.nil))
    ·refine .on rfl (fun a w hS hI hp => does_val (x_bin rfl (hS.get 0 rfl) (rfl) (b_eql _ _ _ _ _ _)) rfl) ?_
     refine .asg 0 rfl rfl rfl rfl ?_
     exact .nil
    clear hS
    intro at18 w19 hS hI hp
    have hBw19_w := hI.1
    have hBw19_w3 := hI.2.1
    have hBw19_w11 := hI.2.2
    have hv9 : sl _ 9 = .bool (decide (a0_0 = 1)) := hp 1 (by decide)
    have hBw19_w19 := Below.refl w19.heap.size w19
    have hS := hS.cons hv9
    clear hp hI hv9
    refine hK17 _ _ ?_
    (try clear hK17 K17)
    refine wp_cond_true ((hS.get 0 rfl).trans (bT (decide_eq_true d13_0))) ?_
    refine wp_skip ?_
    (try simp only [Exit.then, Exit.inBlock, reduceIte])
    exact ⟨by trivial, ((((hS.nil).cons ((hS.get 0 rfl).trans (congrArg (Value.bool) (by simp only [if_pos d13_0])))).cons (hS.get 1 rfl)).cons (hS.get 2 rfl)).cons (hS.get 3 rfl), hBw19_w, hBw19_w3, hBw19_w11⟩
   ·by_cases d13_1 : a0_0 = 6
    ·refine wp_seq_k (fun K26 hK26 => ?_)
     refine reg_seq (N := 56) (bs := [(8, .int .i64 a0_0), (3, .int .i64 (a0_1.size : Int)), (1, .pointer (some ⟨g4, 0, none⟩))]) (I := fun x => Below w.heap.size w x ∧ Below w3.heap.size w3 x ∧ Below w11.heap.size w11 x) (ps := [VB (decide (a0_0 = 1)), VB (decide (a0_0 = 1))]) (by kernel_rfl) ?_ ?_ rfl hS ⟨hBw11_w, hBw11_w3, hBw11_w11⟩ ?_ ?_
     ·exact fun x y hI hb => ⟨below_step hI.1 hb, below_step hI.2.1 hb, below_step hI.2.2 hb⟩
     ·exact .v (.v (.nil))
     ·refine .on rfl (fun a w hS hI hp => does_val (x_bin rfl (hS.get 0 rfl) (rfl) (b_eql _ _ _ _ _ _)) rfl) ?_
      refine .asg 0 rfl rfl rfl rfl ?_
      exact .nil
     clear hS
     intro at27 w28 hS hI hp
     have hBw28_w := hI.1
     have hBw28_w3 := hI.2.1
     have hBw28_w11 := hI.2.2
     have hv9 : sl _ 9 = .bool (decide (a0_0 = 1)) := hp 1 (by decide)
     have hBw28_w28 := Below.refl w28.heap.size w28
     have hS := hS.cons hv9
     clear hp hI hv9
     refine hK26 _ _ ?_
     (try clear hK26 K26)
     refine wp_cond_false ((hS.get 0 rfl).trans (bF (decide_eq_false d13_0))) ?_
     refine wp_seq_k (fun K29 hK29 => ?_)
     replace hS := (((hS.nil).cons (hS.get 3 rfl)).cons (hS.get 2 rfl)).cons (hS.get 1 rfl)
     refine reg_seq (N := 56) (bs := [(8, .int .i64 a0_0), (3, .int .i64 (a0_1.size : Int)), (1, .pointer (some ⟨g4, 0, none⟩))]) (I := fun x => Below w.heap.size w x ∧ Below w3.heap.size w3 x ∧ Below w11.heap.size w11 x ∧ Below w28.heap.size w28 x) (ps := [VB (decide (a0_0 = 6)), VB (decide (a0_0 = 6))]) (by kernel_rfl) ?_ ?_ rfl hS ⟨hBw28_w, hBw28_w3, hBw28_w11, hBw28_w28⟩ ?_ ?_
     ·exact fun x y hI hb => ⟨below_step hI.1 hb, below_step hI.2.1 hb, below_step hI.2.2.1 hb, below_step hI.2.2.2 hb⟩
     ·exact .v (.v (.nil))
     ·refine .on rfl (fun a w hS hI hp => does_val (x_bin rfl (hS.get 0 rfl) (rfl) (b_eql _ _ _ _ _ _)) rfl) ?_
      refine .asg 0 rfl rfl rfl rfl ?_
      exact .nil
     clear hS
     intro at30 w31 hS hI hp
     have hBw31_w := hI.1
     have hBw31_w3 := hI.2.1
     have hBw31_w11 := hI.2.2.1
     have hBw31_w28 := hI.2.2.2
     have hv9 : sl _ 9 = .bool (decide (a0_0 = 6)) := hp 1 (by decide)
     have hBw31_w31 := Below.refl w31.heap.size w31
     have hS := hS.cons hv9
     clear hp hI hv9
     refine hK29 _ _ ?_
     (try clear hK29 K29)
     refine wp_cond_true ((hS.get 0 rfl).trans (bT (decide_eq_true d13_1))) ?_
     refine wp_skip ?_
     (try simp only [Exit.then, Exit.inBlock, reduceIte])
     exact ⟨by trivial, ((((hS.nil).cons ((hS.get 0 rfl).trans (congrArg (Value.bool) (by simp only [if_neg d13_0, if_pos d13_1])))).cons (hS.get 1 rfl)).cons (hS.get 2 rfl)).cons (hS.get 3 rfl), hBw31_w, hBw31_w3, hBw31_w11⟩
    ·refine wp_seq_k (fun K32 hK32 => ?_)
     refine reg_seq (N := 56) (bs := [(8, .int .i64 a0_0), (3, .int .i64 (a0_1.size : Int)), (1, .pointer (some ⟨g4, 0, none⟩))]) (I := fun x => Below w.heap.size w x ∧ Below w3.heap.size w3 x ∧ Below w11.heap.size w11 x) (ps := [VB (decide (a0_0 = 1)), VB (decide (a0_0 = 1))]) (by kernel_rfl) ?_ ?_ rfl hS ⟨hBw11_w, hBw11_w3, hBw11_w11⟩ ?_ ?_
     ·exact fun x y hI hb => ⟨below_step hI.1 hb, below_step hI.2.1 hb, below_step hI.2.2 hb⟩
     ·exact .v (.v (.nil))
     ·refine .on rfl (fun a w hS hI hp => does_val (x_bin rfl (hS.get 0 rfl) (rfl) (b_eql _ _ _ _ _ _)) rfl) ?_
      refine .asg 0 rfl rfl rfl rfl ?_
      exact .nil
     clear hS
     intro at33 w34 hS hI hp
     have hBw34_w := hI.1
     have hBw34_w3 := hI.2.1
     have hBw34_w11 := hI.2.2
     have hv9 : sl _ 9 = .bool (decide (a0_0 = 1)) := hp 1 (by decide)
     have hBw34_w34 := Below.refl w34.heap.size w34
     have hS := hS.cons hv9
     clear hp hI hv9
     refine hK32 _ _ ?_
     (try clear hK32 K32)
     refine wp_cond_false ((hS.get 0 rfl).trans (bF (decide_eq_false d13_0))) ?_
     refine wp_seq_k (fun K35 hK35 => ?_)
     replace hS := (((hS.nil).cons (hS.get 3 rfl)).cons (hS.get 2 rfl)).cons (hS.get 1 rfl)
     refine reg_seq (N := 56) (bs := [(8, .int .i64 a0_0), (3, .int .i64 (a0_1.size : Int)), (1, .pointer (some ⟨g4, 0, none⟩))]) (I := fun x => Below w.heap.size w x ∧ Below w3.heap.size w3 x ∧ Below w11.heap.size w11 x ∧ Below w34.heap.size w34 x) (ps := [VB (decide (a0_0 = 6)), VB (decide (a0_0 = 6))]) (by kernel_rfl) ?_ ?_ rfl hS ⟨hBw34_w, hBw34_w3, hBw34_w11, hBw34_w34⟩ ?_ ?_
     ·exact fun x y hI hb => ⟨below_step hI.1 hb, below_step hI.2.1 hb, below_step hI.2.2.1 hb, below_step hI.2.2.2 hb⟩
     ·exact .v (.v (.nil))
     ·refine .on rfl (fun a w hS hI hp => does_val (x_bin rfl (hS.get 0 rfl) (rfl) (b_eql _ _ _ _ _ _)) rfl) ?_
      refine .asg 0 rfl rfl rfl rfl ?_
      exact .nil
     clear hS
     intro at36 w37 hS hI hp
     have hBw37_w := hI.1
     have hBw37_w3 := hI.2.1
     have hBw37_w11 := hI.2.2.1
     have hBw37_w34 := hI.2.2.2
     have hv9 : sl _ 9 = .bool (decide (a0_0 = 6)) := hp 1 (by decide)
     have hBw37_w37 := Below.refl w37.heap.size w37
     have hS := hS.cons hv9
     clear hp hI hv9
     refine hK35 _ _ ?_
     (try clear hK35 K35)
     refine wp_cond_false ((hS.get 0 rfl).trans (bF (decide_eq_false d13_1))) ?_
     replace hS := (((hS.nil).cons (hS.get 3 rfl)).cons (hS.get 2 rfl)).cons (hS.get 1 rfl)
     refine reg_seq (N := 56) (bs := [(8, .int .i64 a0_0), (3, .int .i64 (a0_1.size : Int)), (1, .pointer (some ⟨g4, 0, none⟩))]) (I := fun x => Below w.heap.size w x ∧ Below w3.heap.size w3 x ∧ Below w11.heap.size w11 x ∧ Below w37.heap.size w37 x) (ps := [VB (decide (a0_0 = 7)), VB (decide (a0_0 = 7))]) (by kernel_rfl) ?_ ?_ rfl hS ⟨hBw37_w, hBw37_w3, hBw37_w11, hBw37_w37⟩ ?_ ?_
     ·exact fun x y hI hb => ⟨below_step hI.1 hb, below_step hI.2.1 hb, below_step hI.2.2.1 hb, below_step hI.2.2.2 hb⟩
     ·exact .v (.v (.nil))
     ·refine .on rfl (fun a w hS hI hp => does_val (x_bin rfl (hS.get 0 rfl) (rfl) (b_eql _ _ _ _ _ _)) rfl) ?_
      refine .asg 0 rfl rfl rfl rfl ?_
      exact .nil
     clear hS
     intro at38 w39 hS hI hp
     have hBw39_w := hI.1
     have hBw39_w3 := hI.2.1
     have hBw39_w11 := hI.2.2.1
     have hBw39_w37 := hI.2.2.2
     have hv9 : sl _ 9 = .bool (decide (a0_0 = 7)) := hp 1 (by decide)
     have hBw39_w39 := Below.refl w39.heap.size w39
     have hS := hS.cons hv9
     clear hp hI hv9
     (try simp only [Exit.then, Exit.inBlock, reduceIte])
     exact ⟨by trivial, ((((hS.nil).cons ((hS.get 0 rfl).trans (congrArg (Value.bool) (by simp only [if_neg d13_0, if_neg d13_1])))).cons (hS.get 1 rfl)).cons (hS.get 2 rfl)).cons (hS.get 3 rfl), hBw39_w, hBw39_w3, hBw39_w11⟩
  rintro e41 at41 w40 ⟨rfl, hS, hBw40_w, hBw40_w3, hBw40_w11⟩
  have hBw40_w40 := Below.refl w40.heap.size w40
  (try simp only [Exit.then, Exit.inBlock, reduceIte])
  refine hK12 _ _ ?_
  (try clear hK12 K12)
  refine wp_cond_false ((hS.get 3 rfl).trans (bF (Bool.eq_false_iff.2 c1))) ?_
  refine wp_seq_k (fun K42 hK42 => ?_)
  refine reg_seq (N := 56) (bs := [(1, .pointer (some ⟨g4, 0, none⟩)), (3, .int .i64 (a0_1.size : Int)), (8, .int .i64 a0_0), (9, .bool (if a0_0 = 1 then decide (a0_0 = 1) else (if a0_0 = 6 then decide (a0_0 = 6) else decide (a0_0 = 7))))]) (I := fun x => Below w.heap.size w x ∧ Below w3.heap.size w3 x ∧ Below w40.heap.size w40 x) (ps := [VB (decide (a0_0 = 2)), VB (decide (a0_0 = 2))]) (by kernel_rfl) ?_ ?_ rfl hS ⟨hBw40_w, hBw40_w3, hBw40_w40⟩ ?_ ?_
  ·exact fun x y hI hb => ⟨below_step hI.1 hb, below_step hI.2.1 hb, below_step hI.2.2 hb⟩
  ·exact .v (.v (.nil))
  ·refine .on rfl (fun a w hS hI hp => does_val (x_bin rfl (hS.get 2 rfl) (rfl) (b_eql _ _ _ _ _ _)) rfl) ?_
   refine .asg 0 rfl rfl rfl rfl ?_
   exact .nil
  clear hS
  intro at43 w44 hS hI hp
  have hBw44_w := hI.1
  have hBw44_w3 := hI.2.1
  have hBw44_w40 := hI.2.2
  replace hS := (((hS.nil).cons (hS.get 2 rfl)).cons (hS.get 1 rfl)).cons (hS.get 0 rfl)
  have hv24 : sl _ 24 = .bool (decide (a0_0 = 2)) := hp 1 (by decide)
  have hBw44_w44 := Below.refl w44.heap.size w44
  have hS := hS.cons hv24
  clear hp hI hv24
  refine hK42 _ _ ?_
  (try clear hK42 K42)
  refine wp_cond_false ((hS.get 0 rfl).trans (bF (decide_eq_false c2))) ?_
  refine wp_seq_k (fun K45 hK45 => ?_)
  refine reg_seq (N := 56) (bs := [(24, .bool (decide (a0_0 = 2))), (1, .pointer (some ⟨g4, 0, none⟩)), (3, .int .i64 (a0_1.size : Int)), (8, .int .i64 a0_0)]) (I := fun x => Below w.heap.size w x ∧ Below w3.heap.size w3 x ∧ Below w44.heap.size w44 x) (ps := [VB (decide (a0_0 = 3)), VB (decide (a0_0 = 3))]) (by kernel_rfl) ?_ ?_ rfl hS ⟨hBw44_w, hBw44_w3, hBw44_w44⟩ ?_ ?_
  ·exact fun x y hI hb => ⟨below_step hI.1 hb, below_step hI.2.1 hb, below_step hI.2.2 hb⟩
  ·exact .v (.v (.nil))
  ·refine .on rfl (fun a w hS hI hp => does_val (x_bin rfl (hS.get 3 rfl) (rfl) (b_eql _ _ _ _ _ _)) rfl) ?_
   refine .asg 0 rfl rfl rfl rfl ?_
   exact .nil
  clear hS
  intro at46 w47 hS hI hp
  have hBw47_w := hI.1
  have hBw47_w3 := hI.2.1
  have hBw47_w44 := hI.2.2
  replace hS := (((hS.nil).cons (hS.get 3 rfl)).cons (hS.get 2 rfl)).cons (hS.get 1 rfl)
  have hv28 : sl _ 28 = .bool (decide (a0_0 = 3)) := hp 1 (by decide)
  have hBw47_w47 := Below.refl w47.heap.size w47
  have hS := hS.cons hv28
  clear hp hI hv28
  refine hK45 _ _ ?_
  (try clear hK45 K45)
  refine wp_cond_false ((hS.get 0 rfl).trans (bF (decide_eq_false c3))) ?_
  refine wp_seq_k (fun K48 hK48 => ?_)
  refine reg_seq (N := 56) (bs := [(28, .bool (decide (a0_0 = 3))), (1, .pointer (some ⟨g4, 0, none⟩)), (3, .int .i64 (a0_1.size : Int)), (8, .int .i64 a0_0)]) (I := fun x => Below w.heap.size w x ∧ Below w3.heap.size w3 x ∧ Below w47.heap.size w47 x) (ps := [VB (decide (a0_0 = 4)), VB (decide (a0_0 = 4))]) (by kernel_rfl) ?_ ?_ rfl hS ⟨hBw47_w, hBw47_w3, hBw47_w47⟩ ?_ ?_
  ·exact fun x y hI hb => ⟨below_step hI.1 hb, below_step hI.2.1 hb, below_step hI.2.2 hb⟩
  ·exact .v (.v (.nil))
  ·refine .on rfl (fun a w hS hI hp => does_val (x_bin rfl (hS.get 3 rfl) (rfl) (b_eql _ _ _ _ _ _)) rfl) ?_
   refine .asg 0 rfl rfl rfl rfl ?_
   exact .nil
  clear hS
  intro at49 w50 hS hI hp
  have hBw50_w := hI.1
  have hBw50_w3 := hI.2.1
  have hBw50_w47 := hI.2.2
  replace hS := (((hS.nil).cons (hS.get 3 rfl)).cons (hS.get 2 rfl)).cons (hS.get 1 rfl)
  have hv32 : sl _ 32 = .bool (decide (a0_0 = 4)) := hp 1 (by decide)
  have hBw50_w50 := Below.refl w50.heap.size w50
  have hS := hS.cons hv32
  clear hp hI hv32
  refine hK48 _ _ ?_
  (try clear hK48 K48)
  refine wp_cond_false ((hS.get 0 rfl).trans (bF (decide_eq_false c4))) ?_
  refine wp_seq_k (fun K51 hK51 => ?_)
  refine reg_seq (N := 56) (bs := [(32, .bool (decide (a0_0 = 4))), (1, .pointer (some ⟨g4, 0, none⟩)), (3, .int .i64 (a0_1.size : Int)), (8, .int .i64 a0_0)]) (I := fun x => Below w.heap.size w x ∧ Below w3.heap.size w3 x ∧ Below w50.heap.size w50 x) (ps := [VB (decide (a0_0 = 5)), VB (decide (a0_0 = 5))]) (by kernel_rfl) ?_ ?_ rfl hS ⟨hBw50_w, hBw50_w3, hBw50_w50⟩ ?_ ?_
  ·exact fun x y hI hb => ⟨below_step hI.1 hb, below_step hI.2.1 hb, below_step hI.2.2 hb⟩
  ·exact .v (.v (.nil))
  ·refine .on rfl (fun a w hS hI hp => does_val (x_bin rfl (hS.get 3 rfl) (rfl) (b_eql _ _ _ _ _ _)) rfl) ?_
   refine .asg 0 rfl rfl rfl rfl ?_
   exact .nil
  clear hS
  intro at52 w53 hS hI hp
  have hBw53_w := hI.1
  have hBw53_w3 := hI.2.1
  have hBw53_w50 := hI.2.2
  replace hS := (((hS.nil).cons (hS.get 3 rfl)).cons (hS.get 2 rfl)).cons (hS.get 1 rfl)
  have hv36 : sl _ 36 = .bool (decide (a0_0 = 5)) := hp 1 (by decide)
  have hBw53_w53 := Below.refl w53.heap.size w53
  have hS := hS.cons hv36
  clear hp hI hv36
  refine hK51 _ _ ?_
  (try clear hK51 K51)
  refine wp_cond_false ((hS.get 0 rfl).trans (bF (decide_eq_false c5))) ?_
  refine wp_seq_k (fun K54 hK54 => ?_)
  refine reg_seq (N := 56) (bs := [(36, .bool (decide (a0_0 = 5))), (1, .pointer (some ⟨g4, 0, none⟩)), (3, .int .i64 (a0_1.size : Int)), (8, .int .i64 a0_0)]) (I := fun x => Below w.heap.size w x ∧ Below w3.heap.size w3 x ∧ Below w53.heap.size w53 x) (ps := [VB (decide (a0_0 = 8)), VB (decide (a0_0 = 8))]) (by kernel_rfl) ?_ ?_ rfl hS ⟨hBw53_w, hBw53_w3, hBw53_w53⟩ ?_ ?_
  ·exact fun x y hI hb => ⟨below_step hI.1 hb, below_step hI.2.1 hb, below_step hI.2.2 hb⟩
  ·exact .v (.v (.nil))
  ·refine .on rfl (fun a w hS hI hp => does_val (x_bin rfl (hS.get 3 rfl) (rfl) (b_eql _ _ _ _ _ _)) rfl) ?_
   refine .asg 0 rfl rfl rfl rfl ?_
   exact .nil
  clear hS
  intro at55 w56 hS hI hp
  have hBw56_w := hI.1
  have hBw56_w3 := hI.2.1
  have hBw56_w53 := hI.2.2
  replace hS := (((hS.nil).cons (hS.get 3 rfl)).cons (hS.get 2 rfl)).cons (hS.get 1 rfl)
  have hv40 : sl _ 40 = .bool (decide (a0_0 = 8)) := hp 1 (by decide)
  have hBw56_w56 := Below.refl w56.heap.size w56
  have hS := hS.cons hv40
  clear hp hI hv40
  refine hK54 _ _ ?_
  (try clear hK54 K54)
  refine wp_cond_false ((hS.get 0 rfl).trans (bF (decide_eq_false c6))) ?_
  refine wp_seq_k (fun K57 hK57 => ?_)
  refine reg_seq (N := 56) (bs := [(40, .bool (decide (a0_0 = 8))), (1, .pointer (some ⟨g4, 0, none⟩)), (3, .int .i64 (a0_1.size : Int)), (8, .int .i64 a0_0)]) (I := fun x => Below w.heap.size w x ∧ Below w3.heap.size w3 x ∧ Below w56.heap.size w56 x) (ps := [VB (decide (a0_0 = 9)), VB (decide (a0_0 = 9))]) (by kernel_rfl) ?_ ?_ rfl hS ⟨hBw56_w, hBw56_w3, hBw56_w56⟩ ?_ ?_
  ·exact fun x y hI hb => ⟨below_step hI.1 hb, below_step hI.2.1 hb, below_step hI.2.2 hb⟩
  ·exact .v (.v (.nil))
  ·refine .on rfl (fun a w hS hI hp => does_val (x_bin rfl (hS.get 3 rfl) (rfl) (b_eql _ _ _ _ _ _)) rfl) ?_
   refine .asg 0 rfl rfl rfl rfl ?_
   exact .nil
  clear hS
  intro at58 w59 hS hI hp
  have hBw59_w := hI.1
  have hBw59_w3 := hI.2.1
  have hBw59_w56 := hI.2.2
  replace hS := ((hS.nil).cons (hS.get 2 rfl)).cons (hS.get 1 rfl)
  have hv49 : sl _ 49 = .bool (decide (a0_0 = 9)) := hp 1 (by decide)
  have hBw59_w59 := Below.refl w59.heap.size w59
  have hS := hS.cons hv49
  clear hp hI hv49
  refine hK57 _ _ ?_
  (try clear hK57 K57)
  refine wp_cond_true ((hS.get 0 rfl).trans (bT (decide_eq_true c7))) ?_
  refine wp_seq_k (fun K60 hK60 => ?_)
  refine reg_seq (N := 56) (bs := [(49, .bool (decide (a0_0 = 9))), (1, .pointer (some ⟨g4, 0, none⟩)), (3, .int .i64 (a0_1.size : Int))]) (I := fun x => Below w.heap.size w x ∧ Below w3.heap.size w3 x ∧ Below w59.heap.size w59 x) (ps := [VI (a0_1.size : Int), VB (decide ((a0_1.size : Int) ≥ 16)), VB (decide ((a0_1.size : Int) ≥ 16))]) (by kernel_rfl) ?_ ?_ rfl hS ⟨hBw59_w, hBw59_w3, hBw59_w59⟩ ?_ ?_
  ·exact fun x y hI hb => ⟨below_step hI.1 hb, below_step hI.2.1 hb, below_step hI.2.2 hb⟩
  ·exact .v (.v (.v (.nil)))
  ·refine .ms 2 rfl rfl rfl ?_
   refine .on rfl (fun a w hS hI hp => does_val (x_bin rfl (hp.V 0 rfl rfl) (rfl) (b_geq _ _ _ _ _ _)) rfl) ?_
   refine .asg 1 rfl rfl rfl rfl ?_
   exact .nil
  clear hS
  intro at61 w62 hS hI hp
  have hBw62_w := hI.1
  have hBw62_w3 := hI.2.1
  have hBw62_w59 := hI.2.2
  replace hS := hS.nil
  have hv2 : sl _ 2 = .bool (decide ((a0_1.size : Int) ≥ 16)) := hp 2 (by decide)
  have hBw62_w62 := Below.refl w62.heap.size w62
  have hS := hS.cons hv2
  clear hp hI hv2
  refine hK60 _ _ ?_
  (try clear hK60 K60)
  refine wp_ret ?_
  (try simp only [Exit.then, Exit.inBlock, Exit.jump, Exit.noGoto])
  exact bodyPost_ret (v := .bool (decide ((a0_1.size : Int) ≥ 16))) (results_single rfl (Vals.at (hS.get 0 rfl) .nil)) hS.nodef ⟨rfl, hBw62_w⟩
 rw [if_neg c7] at H
 obtain rfl := Option.some.inj H
 refine calls_of_wp (fn := Try.f19) (by kernel_rfl) rfl ?_
 have hS := St.enter #[.agg #[.int .i64 a0_0, .string a0_1]] 56 (by simp) [(0, .agg #[.int .i64 a0_0, .string a0_1])] (by simp)
 have HB0 := Below.refl w.heap.size w
 refine wp_seq_k (fun K1 hK1 => ?_)
 refine reg_seq (N := 56) (bs := [(0, .agg #[.int .i64 a0_0, .string a0_1])]) (I := fun x => Below w.heap.size w x) (ps := [IsB #[.int .i64 a0_0, .string a0_1] 26 w.heap.size, VB false]) (by kernel_rfl) ?_ ?_ rfl hS HB0 ?_ ?_
 ·exact fun x y hI hb => below_step hI hb
 ·exact .cons (Stays.b _ _ _) (.v (.nil))
 ·refine .on rfl (fun a w hS hI hp => does_var (x_box rfl (congrArg Value.cells (hS.get 0 rfl))) (hI).size) ?_
  refine .on rfl (fun a w hS hI hp => does_val (x_assign rfl (rfl)) rfl) ?_
  exact .nil
 clear hS
 intro at2 w3 hS hI hp
 have hBw3_w := hI
 replace hS := hS.nil
 obtain ⟨g4, hv1, hgeg4, hbxg4⟩ := (show IsB _ 26 _ (sl _ 1) _ from hp 0 (by decide))
 have hBw3_w3 := Below.refl w3.heap.size w3
 have hS := hS.cons hv1
 clear hp hI hv1
 refine hK1 _ _ ?_
 (try clear hK1 K1)
 refine wp_seq_k (fun K5 hK5 => ?_)
 refine reg_seq (N := 56) (bs := [(1, .pointer (some ⟨g4, 0, none⟩))]) (I := fun x => Below w.heap.size w x ∧ Below w3.heap.size w3 x) (ps := [VP g4 1, IsV (.string a0_1), VI (a0_1.size : Int), VI (a0_1.size : Int)]) (by kernel_rfl) ?_ ?_ rfl hS ⟨hBw3_w, hBw3_w3⟩ ?_ ?_
 ·exact fun x y hI hb => ⟨below_step hI.1 hb, below_step hI.2 hb⟩
 ·exact .v (.v (.v (.v (.nil))))
 ·refine .on rfl (fun a w hS hI hp => does_val (x_fieldE (b := 0) rfl (hS.get 0 rfl) Try.underlying26 rfl rfl (by kernel_rfl)) rfl) ?_
  refine .on rfl (fun a w hS hI hp => does_val (x_load1 (d := .string) rfl (hp.V 0 rfl rfl) (by kernel_rfl) rfl ((blk_cell (((hI.2).block g4 (blk_lt hbxg4)).trans hbxg4) 1).trans rfl)) rfl) ?_
  refine .on rfl (fun a w hS hI hp => does_val (x_lenS rfl (by kernel_rfl) (hp.V 1 rfl rfl)) rfl) ?_
  refine .asg 2 rfl rfl rfl rfl ?_
  exact .nil
 clear hS
 intro at6 w7 hS hI hp
 have hBw7_w := hI.1
 have hBw7_w3 := hI.2
 have hv3 : sl _ 3 = .int .i64 (a0_1.size : Int) := hp 3 (by decide)
 have hBw7_w7 := Below.refl w7.heap.size w7
 have hS := hS.cons hv3
 clear hp hI hv3
 refine hK5 _ _ ?_
 (try clear hK5 K5)
 refine wp_seq_k (fun K8 hK8 => ?_)
 refine wp_seq_k (fun K9 hK9 => ?_)
 refine reg_seq (N := 56) (bs := [(3, .int .i64 (a0_1.size : Int)), (1, .pointer (some ⟨g4, 0, none⟩))]) (I := fun x => Below w.heap.size w x ∧ Below w3.heap.size w3 x ∧ Below w7.heap.size w7 x) (ps := [VP g4 0, VI a0_0]) (by kernel_rfl) ?_ ?_ rfl hS ⟨hBw7_w, hBw7_w3, hBw7_w7⟩ ?_ ?_
 ·exact fun x y hI hb => ⟨below_step hI.1 hb, below_step hI.2.1 hb, below_step hI.2.2 hb⟩
 ·exact .v (.v (.nil))
 ·refine .on rfl (fun a w hS hI hp => does_val (x_fieldE (b := 0) rfl (hS.get 1 rfl) Try.underlying26 rfl rfl (by kernel_rfl)) rfl) ?_
  refine .on rfl (fun a w hS hI hp => does_val (x_load1 (d := .int .i64) rfl (hp.V 0 rfl rfl) (by kernel_rfl) rfl ((blk_cell (((hI.2.1).block g4 (blk_lt hbxg4)).trans hbxg4) 0).trans rfl)) rfl) ?_
  exact .nil
 clear hS
 intro at10 w11 hS hI hp
 have hBw11_w := hI.1
 have hBw11_w3 := hI.2.1
 have hBw11_w7 := hI.2.2
 have hv8 : sl _ 8 = .int .i64 a0_0 := hp 1 (by decide)
 have hBw11_w11 := Below.refl w11.heap.size w11
 have hS := hS.cons hv8
 clear hp hI hv8
 refine hK9 _ _ ?_
 (try clear hK9 K9)
 refine wp_block ?_
 refine wp_seq_k (fun K12 hK12 => ?_)
 refine wp_mono (Q := fun e a' w' => e = Exit.normal ∧ St 56 [(1, .pointer (some ⟨g4, 0, none⟩)), (3, .int .i64 (a0_1.size : Int)), (8, .int .i64 a0_0), (9, .bool (if a0_0 = 1 then decide (a0_0 = 1) else (if a0_0 = 6 then decide (a0_0 = 6) else decide (a0_0 = 7))))] a' ∧ Below w.heap.size w w' ∧ Below w3.heap.size w3 w' ∧ Below w11.heap.size w11 w') ?_ ?_
 ·by_cases d13_0 : a0_0 = 1
  ·refine wp_seq_k (fun K17 hK17 => ?_)
   refine reg_seq (N := 56) (bs := [(8, .int .i64 a0_0), (3, .int .i64 (a0_1.size : Int)), (1, .pointer (some ⟨g4, 0, none⟩))]) (I := fun x => Below w.heap.size w x ∧ Below w3.heap.size w3 x ∧ Below w11.heap.size w11 x) (ps := [VB (decide (a0_0 = 1)), VB (decide (a0_0 = 1))]) (by kernel_rfl) ?_ ?_ rfl hS ⟨hBw11_w, hBw11_w3, hBw11_w11⟩ ?_ ?_
   ·exact fun x y hI hb => ⟨below_step hI.1 hb, below_step hI.2.1 hb, below_step hI.2.2 hb⟩
   ·exact .v (.v (.nil))
   ·refine .on rfl (fun a w hS hI hp => does_val (x_bin rfl (hS.get 0 rfl) (rfl) (b_eql _ _ _ _ _ _)) rfl) ?_
    refine .asg 0 rfl rfl rfl rfl ?_
    exact .nil
   clear hS
   intro at18 w19 hS hI hp
   have hBw19_w := hI.1
   have hBw19_w3 := hI.2.1
   have hBw19_w11 := hI.2.2
   have hv9 : sl _ 9 = .bool (decide (a0_0 = 1)) := hp 1 (by decide)
   have hBw19_w19 := Below.refl w19.heap.size w19
   have hS := hS.cons hv9
   clear hp hI hv9
   refine hK17 _ _ ?_
   (try clear hK17 K17)
   refine wp_cond_true ((hS.get 0 rfl).trans (bT (decide_eq_true d13_0))) ?_
   refine wp_skip ?_
   (try simp only [Exit.then, Exit.inBlock, reduceIte])
   exact ⟨by trivial, ((((hS.nil).cons ((hS.get 0 rfl).trans (congrArg (Value.bool) (by simp only [if_pos d13_0])))).cons (hS.get 1 rfl)).cons (hS.get 2 rfl)).cons (hS.get 3 rfl), hBw19_w, hBw19_w3, hBw19_w11⟩
  ·by_cases d13_1 : a0_0 = 6
   ·refine wp_seq_k (fun K26 hK26 => ?_)
    refine reg_seq (N := 56) (bs := [(8, .int .i64 a0_0), (3, .int .i64 (a0_1.size : Int)), (1, .pointer (some ⟨g4, 0, none⟩))]) (I := fun x => Below w.heap.size w x ∧ Below w3.heap.size w3 x ∧ Below w11.heap.size w11 x) (ps := [VB (decide (a0_0 = 1)), VB (decide (a0_0 = 1))]) (by kernel_rfl) ?_ ?_ rfl hS ⟨hBw11_w, hBw11_w3, hBw11_w11⟩ ?_ ?_
    ·exact fun x y hI hb => ⟨below_step hI.1 hb, below_step hI.2.1 hb, below_step hI.2.2 hb⟩
    ·exact .v (.v (.nil))
    ·refine .on rfl (fun a w hS hI hp => does_val (x_bin rfl (hS.get 0 rfl) (rfl) (b_eql _ _ _ _ _ _)) rfl) ?_
     refine .asg 0 rfl rfl rfl rfl ?_
     exact .nil
    clear hS
    intro at27 w28 hS hI hp
    have hBw28_w := hI.1
    have hBw28_w3 := hI.2.1
    have hBw28_w11 := hI.2.2
    have hv9 : sl _ 9 = .bool (decide (a0_0 = 1)) := hp 1 (by decide)
    have hBw28_w28 := Below.refl w28.heap.size w28
    have hS := hS.cons hv9
    clear hp hI hv9
    refine hK26 _ _ ?_
    (try clear hK26 K26)
    refine wp_cond_false ((hS.get 0 rfl).trans (bF (decide_eq_false d13_0))) ?_
    refine wp_seq_k (fun K29 hK29 => ?_)
    replace hS := (((hS.nil).cons (hS.get 3 rfl)).cons (hS.get 2 rfl)).cons (hS.get 1 rfl)
    refine reg_seq (N := 56) (bs := [(8, .int .i64 a0_0), (3, .int .i64 (a0_1.size : Int)), (1, .pointer (some ⟨g4, 0, none⟩))]) (I := fun x => Below w.heap.size w x ∧ Below w3.heap.size w3 x ∧ Below w11.heap.size w11 x ∧ Below w28.heap.size w28 x) (ps := [VB (decide (a0_0 = 6)), VB (decide (a0_0 = 6))]) (by kernel_rfl) ?_ ?_ rfl hS ⟨hBw28_w, hBw28_w3, hBw28_w11, hBw28_w28⟩ ?_ ?_
    ·exact fun x y hI hb => ⟨below_step hI.1 hb, below_step hI.2.1 hb, below_step hI.2.2.1 hb, below_step hI.2.2.2 hb⟩
    ·exact .v (.v (.nil))
    ·refine .on rfl (fun a w hS hI hp => does_val (x_bin rfl (hS.get 0 rfl) (rfl) (b_eql _ _ _ _ _ _)) rfl) ?_
     refine .asg 0 rfl rfl rfl rfl ?_
     exact .nil
    clear hS
    intro at30 w31 hS hI hp
    have hBw31_w := hI.1
    have hBw31_w3 := hI.2.1
    have hBw31_w11 := hI.2.2.1
    have hBw31_w28 := hI.2.2.2
    have hv9 : sl _ 9 = .bool (decide (a0_0 = 6)) := hp 1 (by decide)
    have hBw31_w31 := Below.refl w31.heap.size w31
    have hS := hS.cons hv9
    clear hp hI hv9
    refine hK29 _ _ ?_
    (try clear hK29 K29)
    refine wp_cond_true ((hS.get 0 rfl).trans (bT (decide_eq_true d13_1))) ?_
    refine wp_skip ?_
    (try simp only [Exit.then, Exit.inBlock, reduceIte])
    exact ⟨by trivial, ((((hS.nil).cons ((hS.get 0 rfl).trans (congrArg (Value.bool) (by simp only [if_neg d13_0, if_pos d13_1])))).cons (hS.get 1 rfl)).cons (hS.get 2 rfl)).cons (hS.get 3 rfl), hBw31_w, hBw31_w3, hBw31_w11⟩
   ·refine wp_seq_k (fun K32 hK32 => ?_)
    refine reg_seq (N := 56) (bs := [(8, .int .i64 a0_0), (3, .int .i64 (a0_1.size : Int)), (1, .pointer (some ⟨g4, 0, none⟩))]) (I := fun x => Below w.heap.size w x ∧ Below w3.heap.size w3 x ∧ Below w11.heap.size w11 x) (ps := [VB (decide (a0_0 = 1)), VB (decide (a0_0 = 1))]) (by kernel_rfl) ?_ ?_ rfl hS ⟨hBw11_w, hBw11_w3, hBw11_w11⟩ ?_ ?_
    ·exact fun x y hI hb => ⟨below_step hI.1 hb, below_step hI.2.1 hb, below_step hI.2.2 hb⟩
    ·exact .v (.v (.nil))
    ·refine .on rfl (fun a w hS hI hp => does_val (x_bin rfl (hS.get 0 rfl) (rfl) (b_eql _ _ _ _ _ _)) rfl) ?_
     refine .asg 0 rfl rfl rfl rfl ?_
     exact .nil
    clear hS
    intro at33 w34 hS hI hp
    have hBw34_w := hI.1
    have hBw34_w3 := hI.2.1
    have hBw34_w11 := hI.2.2
    have hv9 : sl _ 9 = .bool (decide (a0_0 = 1)) := hp 1 (by decide)
    have hBw34_w34 := Below.refl w34.heap.size w34
    have hS := hS.cons hv9
    clear hp hI hv9
    refine hK32 _ _ ?_
    (try clear hK32 K32)
    refine wp_cond_false ((hS.get 0 rfl).trans (bF (decide_eq_false d13_0))) ?_
    refine wp_seq_k (fun K35 hK35 => ?_)
    replace hS := (((hS.nil).cons (hS.get 3 rfl)).cons (hS.get 2 rfl)).cons (hS.get 1 rfl)
    refine reg_seq (N := 56) (bs := [(8, .int .i64 a0_0), (3, .int .i64 (a0_1.size : Int)), (1, .pointer (some ⟨g4, 0, none⟩))]) (I := fun x => Below w.heap.size w x ∧ Below w3.heap.size w3 x ∧ Below w11.heap.size w11 x ∧ Below w34.heap.size w34 x) (ps := [VB (decide (a0_0 = 6)), VB (decide (a0_0 = 6))]) (by kernel_rfl) ?_ ?_ rfl hS ⟨hBw34_w, hBw34_w3, hBw34_w11, hBw34_w34⟩ ?_ ?_
    ·exact fun x y hI hb => ⟨below_step hI.1 hb, below_step hI.2.1 hb, below_step hI.2.2.1 hb, below_step hI.2.2.2 hb⟩
    ·exact .v (.v (.nil))
    ·refine .on rfl (fun a w hS hI hp => does_val (x_bin rfl (hS.get 0 rfl) (rfl) (b_eql _ _ _ _ _ _)) rfl) ?_
     refine .asg 0 rfl rfl rfl rfl ?_
     exact .nil
    clear hS
    intro at36 w37 hS hI hp
    have hBw37_w := hI.1
    have hBw37_w3 := hI.2.1
    have hBw37_w11 := hI.2.2.1
    have hBw37_w34 := hI.2.2.2
    have hv9 : sl _ 9 = .bool (decide (a0_0 = 6)) := hp 1 (by decide)
    have hBw37_w37 := Below.refl w37.heap.size w37
    have hS := hS.cons hv9
    clear hp hI hv9
    refine hK35 _ _ ?_
    (try clear hK35 K35)
    refine wp_cond_false ((hS.get 0 rfl).trans (bF (decide_eq_false d13_1))) ?_
    replace hS := (((hS.nil).cons (hS.get 3 rfl)).cons (hS.get 2 rfl)).cons (hS.get 1 rfl)
    refine reg_seq (N := 56) (bs := [(8, .int .i64 a0_0), (3, .int .i64 (a0_1.size : Int)), (1, .pointer (some ⟨g4, 0, none⟩))]) (I := fun x => Below w.heap.size w x ∧ Below w3.heap.size w3 x ∧ Below w11.heap.size w11 x ∧ Below w37.heap.size w37 x) (ps := [VB (decide (a0_0 = 7)), VB (decide (a0_0 = 7))]) (by kernel_rfl) ?_ ?_ rfl hS ⟨hBw37_w, hBw37_w3, hBw37_w11, hBw37_w37⟩ ?_ ?_
    ·exact fun x y hI hb => ⟨below_step hI.1 hb, below_step hI.2.1 hb, below_step hI.2.2.1 hb, below_step hI.2.2.2 hb⟩
    ·exact .v (.v (.nil))
    ·refine .on rfl (fun a w hS hI hp => does_val (x_bin rfl (hS.get 0 rfl) (rfl) (b_eql _ _ _ _ _ _)) rfl) ?_
     refine .asg 0 rfl rfl rfl rfl ?_
     exact .nil
    clear hS
    intro at38 w39 hS hI hp
    have hBw39_w := hI.1
    have hBw39_w3 := hI.2.1
    have hBw39_w11 := hI.2.2.1
    have hBw39_w37 := hI.2.2.2
    have hv9 : sl _ 9 = .bool (decide (a0_0 = 7)) := hp 1 (by decide)
    have hBw39_w39 := Below.refl w39.heap.size w39
    have hS := hS.cons hv9
    clear hp hI hv9
    (try simp only [Exit.then, Exit.inBlock, reduceIte])
    exact ⟨by trivial, ((((hS.nil).cons ((hS.get 0 rfl).trans (congrArg (Value.bool) (by simp only [if_neg d13_0, if_neg d13_1])))).cons (hS.get 1 rfl)).cons (hS.get 2 rfl)).cons (hS.get 3 rfl), hBw39_w, hBw39_w3, hBw39_w11⟩
 rintro e41 at41 w40 ⟨rfl, hS, hBw40_w, hBw40_w3, hBw40_w11⟩
 have hBw40_w40 := Below.refl w40.heap.size w40
 (try simp only [Exit.then, Exit.inBlock, reduceIte])
 refine hK12 _ _ ?_
 (try clear hK12 K12)
 refine wp_cond_false ((hS.get 3 rfl).trans (bF (Bool.eq_false_iff.2 c1))) ?_
 refine wp_seq_k (fun K42 hK42 => ?_)
 refine reg_seq (N := 56) (bs := [(1, .pointer (some ⟨g4, 0, none⟩)), (3, .int .i64 (a0_1.size : Int)), (8, .int .i64 a0_0), (9, .bool (if a0_0 = 1 then decide (a0_0 = 1) else (if a0_0 = 6 then decide (a0_0 = 6) else decide (a0_0 = 7))))]) (I := fun x => Below w.heap.size w x ∧ Below w3.heap.size w3 x ∧ Below w40.heap.size w40 x) (ps := [VB (decide (a0_0 = 2)), VB (decide (a0_0 = 2))]) (by kernel_rfl) ?_ ?_ rfl hS ⟨hBw40_w, hBw40_w3, hBw40_w40⟩ ?_ ?_
 ·exact fun x y hI hb => ⟨below_step hI.1 hb, below_step hI.2.1 hb, below_step hI.2.2 hb⟩
 ·exact .v (.v (.nil))
 ·refine .on rfl (fun a w hS hI hp => does_val (x_bin rfl (hS.get 2 rfl) (rfl) (b_eql _ _ _ _ _ _)) rfl) ?_
  refine .asg 0 rfl rfl rfl rfl ?_
  exact .nil
 clear hS
 intro at43 w44 hS hI hp
 have hBw44_w := hI.1
 have hBw44_w3 := hI.2.1
 have hBw44_w40 := hI.2.2
 replace hS := (((hS.nil).cons (hS.get 2 rfl)).cons (hS.get 1 rfl)).cons (hS.get 0 rfl)
 have hv24 : sl _ 24 = .bool (decide (a0_0 = 2)) := hp 1 (by decide)
 have hBw44_w44 := Below.refl w44.heap.size w44
 have hS := hS.cons hv24
 clear hp hI hv24
 refine hK42 _ _ ?_
 (try clear hK42 K42)
 refine wp_cond_false ((hS.get 0 rfl).trans (bF (decide_eq_false c2))) ?_
 refine wp_seq_k (fun K45 hK45 => ?_)
 refine reg_seq (N := 56) (bs := [(24, .bool (decide (a0_0 = 2))), (1, .pointer (some ⟨g4, 0, none⟩)), (3, .int .i64 (a0_1.size : Int)), (8, .int .i64 a0_0)]) (I := fun x => Below w.heap.size w x ∧ Below w3.heap.size w3 x ∧ Below w44.heap.size w44 x) (ps := [VB (decide (a0_0 = 3)), VB (decide (a0_0 = 3))]) (by kernel_rfl) ?_ ?_ rfl hS ⟨hBw44_w, hBw44_w3, hBw44_w44⟩ ?_ ?_
 ·exact fun x y hI hb => ⟨below_step hI.1 hb, below_step hI.2.1 hb, below_step hI.2.2 hb⟩
 ·exact .v (.v (.nil))
 ·refine .on rfl (fun a w hS hI hp => does_val (x_bin rfl (hS.get 3 rfl) (rfl) (b_eql _ _ _ _ _ _)) rfl) ?_
  refine .asg 0 rfl rfl rfl rfl ?_
  exact .nil
 clear hS
 intro at46 w47 hS hI hp
 have hBw47_w := hI.1
 have hBw47_w3 := hI.2.1
 have hBw47_w44 := hI.2.2
 replace hS := (((hS.nil).cons (hS.get 3 rfl)).cons (hS.get 2 rfl)).cons (hS.get 1 rfl)
 have hv28 : sl _ 28 = .bool (decide (a0_0 = 3)) := hp 1 (by decide)
 have hBw47_w47 := Below.refl w47.heap.size w47
 have hS := hS.cons hv28
 clear hp hI hv28
 refine hK45 _ _ ?_
 (try clear hK45 K45)
 refine wp_cond_false ((hS.get 0 rfl).trans (bF (decide_eq_false c3))) ?_
 refine wp_seq_k (fun K48 hK48 => ?_)
 refine reg_seq (N := 56) (bs := [(28, .bool (decide (a0_0 = 3))), (1, .pointer (some ⟨g4, 0, none⟩)), (3, .int .i64 (a0_1.size : Int)), (8, .int .i64 a0_0)]) (I := fun x => Below w.heap.size w x ∧ Below w3.heap.size w3 x ∧ Below w47.heap.size w47 x) (ps := [VB (decide (a0_0 = 4)), VB (decide (a0_0 = 4))]) (by kernel_rfl) ?_ ?_ rfl hS ⟨hBw47_w, hBw47_w3, hBw47_w47⟩ ?_ ?_
 ·exact fun x y hI hb => ⟨below_step hI.1 hb, below_step hI.2.1 hb, below_step hI.2.2 hb⟩
 ·exact .v (.v (.nil))
 ·refine .on rfl (fun a w hS hI hp => does_val (x_bin rfl (hS.get 3 rfl) (rfl) (b_eql _ _ _ _ _ _)) rfl) ?_
  refine .asg 0 rfl rfl rfl rfl ?_
  exact .nil
 clear hS
 intro at49 w50 hS hI hp
 have hBw50_w := hI.1
 have hBw50_w3 := hI.2.1
 have hBw50_w47 := hI.2.2
 replace hS := (((hS.nil).cons (hS.get 3 rfl)).cons (hS.get 2 rfl)).cons (hS.get 1 rfl)
 have hv32 : sl _ 32 = .bool (decide (a0_0 = 4)) := hp 1 (by decide)
 have hBw50_w50 := Below.refl w50.heap.size w50
 have hS := hS.cons hv32
 clear hp hI hv32
 refine hK48 _ _ ?_
 (try clear hK48 K48)
 refine wp_cond_false ((hS.get 0 rfl).trans (bF (decide_eq_false c4))) ?_
 refine wp_seq_k (fun K51 hK51 => ?_)
 refine reg_seq (N := 56) (bs := [(32, .bool (decide (a0_0 = 4))), (1, .pointer (some ⟨g4, 0, none⟩)), (3, .int .i64 (a0_1.size : Int)), (8, .int .i64 a0_0)]) (I := fun x => Below w.heap.size w x ∧ Below w3.heap.size w3 x ∧ Below w50.heap.size w50 x) (ps := [VB (decide (a0_0 = 5)), VB (decide (a0_0 = 5))]) (by kernel_rfl) ?_ ?_ rfl hS ⟨hBw50_w, hBw50_w3, hBw50_w50⟩ ?_ ?_
 ·exact fun x y hI hb => ⟨below_step hI.1 hb, below_step hI.2.1 hb, below_step hI.2.2 hb⟩
 ·exact .v (.v (.nil))
 ·refine .on rfl (fun a w hS hI hp => does_val (x_bin rfl (hS.get 3 rfl) (rfl) (b_eql _ _ _ _ _ _)) rfl) ?_
  refine .asg 0 rfl rfl rfl rfl ?_
  exact .nil
 clear hS
 intro at52 w53 hS hI hp
 have hBw53_w := hI.1
 have hBw53_w3 := hI.2.1
 have hBw53_w50 := hI.2.2
 replace hS := (((hS.nil).cons (hS.get 3 rfl)).cons (hS.get 2 rfl)).cons (hS.get 1 rfl)
 have hv36 : sl _ 36 = .bool (decide (a0_0 = 5)) := hp 1 (by decide)
 have hBw53_w53 := Below.refl w53.heap.size w53
 have hS := hS.cons hv36
 clear hp hI hv36
 refine hK51 _ _ ?_
 (try clear hK51 K51)
 refine wp_cond_false ((hS.get 0 rfl).trans (bF (decide_eq_false c5))) ?_
 refine wp_seq_k (fun K54 hK54 => ?_)
 refine reg_seq (N := 56) (bs := [(36, .bool (decide (a0_0 = 5))), (1, .pointer (some ⟨g4, 0, none⟩)), (3, .int .i64 (a0_1.size : Int)), (8, .int .i64 a0_0)]) (I := fun x => Below w.heap.size w x ∧ Below w3.heap.size w3 x ∧ Below w53.heap.size w53 x) (ps := [VB (decide (a0_0 = 8)), VB (decide (a0_0 = 8))]) (by kernel_rfl) ?_ ?_ rfl hS ⟨hBw53_w, hBw53_w3, hBw53_w53⟩ ?_ ?_
 ·exact fun x y hI hb => ⟨below_step hI.1 hb, below_step hI.2.1 hb, below_step hI.2.2 hb⟩
 ·exact .v (.v (.nil))
 ·refine .on rfl (fun a w hS hI hp => does_val (x_bin rfl (hS.get 3 rfl) (rfl) (b_eql _ _ _ _ _ _)) rfl) ?_
  refine .asg 0 rfl rfl rfl rfl ?_
  exact .nil
 clear hS
 intro at55 w56 hS hI hp
 have hBw56_w := hI.1
 have hBw56_w3 := hI.2.1
 have hBw56_w53 := hI.2.2
 replace hS := (((hS.nil).cons (hS.get 3 rfl)).cons (hS.get 2 rfl)).cons (hS.get 1 rfl)
 have hv40 : sl _ 40 = .bool (decide (a0_0 = 8)) := hp 1 (by decide)
 have hBw56_w56 := Below.refl w56.heap.size w56
 have hS := hS.cons hv40
 clear hp hI hv40
 refine hK54 _ _ ?_
 (try clear hK54 K54)
 refine wp_cond_false ((hS.get 0 rfl).trans (bF (decide_eq_false c6))) ?_
 refine wp_seq_k (fun K57 hK57 => ?_)
 refine reg_seq (N := 56) (bs := [(40, .bool (decide (a0_0 = 8))), (1, .pointer (some ⟨g4, 0, none⟩)), (3, .int .i64 (a0_1.size : Int)), (8, .int .i64 a0_0)]) (I := fun x => Below w.heap.size w x ∧ Below w3.heap.size w3 x ∧ Below w56.heap.size w56 x) (ps := [VB (decide (a0_0 = 9)), VB (decide (a0_0 = 9))]) (by kernel_rfl) ?_ ?_ rfl hS ⟨hBw56_w, hBw56_w3, hBw56_w56⟩ ?_ ?_
 ·exact fun x y hI hb => ⟨below_step hI.1 hb, below_step hI.2.1 hb, below_step hI.2.2 hb⟩
 ·exact .v (.v (.nil))
 ·refine .on rfl (fun a w hS hI hp => does_val (x_bin rfl (hS.get 3 rfl) (rfl) (b_eql _ _ _ _ _ _)) rfl) ?_
  refine .asg 0 rfl rfl rfl rfl ?_
  exact .nil
 clear hS
 intro at58 w59 hS hI hp
 have hBw59_w := hI.1
 have hBw59_w3 := hI.2.1
 have hBw59_w56 := hI.2.2
 replace hS := ((hS.nil).cons (hS.get 2 rfl)).cons (hS.get 1 rfl)
 have hv49 : sl _ 49 = .bool (decide (a0_0 = 9)) := hp 1 (by decide)
 have hBw59_w59 := Below.refl w59.heap.size w59
 have hS := hS.cons hv49
 clear hp hI hv49
 refine hK57 _ _ ?_
 (try clear hK57 K57)
 refine wp_cond_false ((hS.get 0 rfl).trans (bF (decide_eq_false c7))) ?_
 refine wp_skip ?_
 refine hK8 _ _ ?_
 (try clear hK8 K8)
 refine wp_seq_k (fun K60 hK60 => ?_)
 refine reg_seq (N := 56) (bs := [(49, .bool (decide (a0_0 = 9))), (1, .pointer (some ⟨g4, 0, none⟩)), (3, .int .i64 (a0_1.size : Int))]) (I := fun x => Below w.heap.size w x ∧ Below w3.heap.size w3 x ∧ Below w59.heap.size w59 x) (ps := [VP g4 0, VI a0_0, VB (decide (a0_0 = 32776)), VB (decide (a0_0 = 32776))]) (by kernel_rfl) ?_ ?_ rfl hS ⟨hBw59_w, hBw59_w3, hBw59_w59⟩ ?_ ?_
 ·exact fun x y hI hb => ⟨below_step hI.1 hb, below_step hI.2.1 hb, below_step hI.2.2 hb⟩
 ·exact .v (.v (.v (.v (.nil))))
 ·refine .on rfl (fun a w hS hI hp => does_val (x_fieldE (b := 0) rfl (hS.get 1 rfl) Try.underlying26 rfl rfl (by kernel_rfl)) rfl) ?_
  refine .on rfl (fun a w hS hI hp => does_val (x_load1 (d := .int .i64) rfl (hp.V 0 rfl rfl) (by kernel_rfl) rfl ((blk_cell (((hI.2.1).block g4 (blk_lt hbxg4)).trans hbxg4) 0).trans rfl)) rfl) ?_
  refine .on rfl (fun a w hS hI hp => does_val (x_bin rfl (hp.V 1 rfl rfl) (rfl) (b_eql _ _ _ _ _ _)) rfl) ?_
  refine .asg 2 rfl rfl rfl rfl ?_
  exact .nil
 clear hS
 intro at61 w62 hS hI hp
 have hBw62_w := hI.1
 have hBw62_w3 := hI.2.1
 have hBw62_w59 := hI.2.2
 replace hS := hS.nil
 have hv2 : sl _ 2 = .bool (decide (a0_0 = 32776)) := hp 3 (by decide)
 have hBw62_w62 := Below.refl w62.heap.size w62
 have hS := hS.cons hv2
 clear hp hI hv2
 refine hK60 _ _ ?_
 (try clear hK60 K60)
 refine wp_ret ?_
 (try simp only [Exit.then, Exit.inBlock, Exit.jump, Exit.noGoto])
 exact bodyPost_ret (v := .bool (decide (a0_0 = 32776))) (results_single rfl (Vals.at (hS.get 0 rfl) .nil)) hS.nodef ⟨rfl, hBw62_w⟩
end Go.Proofs.Ytgmiokocipmbaaa.P
