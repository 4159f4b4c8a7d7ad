/- Functions and loops of the given program as Lean functions, and that the code comes to what they say: written by this session's own program; Lean checks it. -/
import Derived.Test.YtgmiokocipmbaaaZzPx0
import Derived.Test.YtgmiokocipmbaaaZzPx2
import Derived.Test.YtgmiokocipmbaaaZzPx3
namespace Go.Proofs.Ytgmiokocipmbaaa.P
open Go.RowKit Go.Proofs.YtgmiokocipmbaaaW.PrintWords Go.Proofs.YtgmiokocipmbaaaW.PrintLast Go.Proofs.YtgmiokocipmbaaaW.PrintMore
attribute [local go_sem] max2_int min2_int max_two min_two max_three min_three max_four min_four   -- for this text's walks alone
set_option linter.unusedVariables false
set_option linter.unusedSimpArgs false
/-! ### tlv_Manage: function 27: by our own printer -/
def tlv_Manage.f (a0 : Int) (a1 : ByteArray) : Option (Int × ByteArray × Bool) := (tlv_in.f a0 0 65535).bind fun t7 => (if t7 = true then (if (a1.size : Int) > 400 then (some (0, (⟨#[]⟩ : ByteArray), false)) else ((octets_Put.f [] a0 2).bind fun t11 => (if t11.length + a1.size ≤ 140737488355328 then (if (Int.tmod ((t11 ++ bytesOf a1 : List Int).length : Int) 2) = 0 then (if ((t11 ++ bytesOf a1 : List Int).length : Int) > 400 then (some (0, (⟨#[]⟩ : ByteArray), false)) else (some (1, strOfNums (t11 ++ bytesOf a1 : List Int), true))) else (if ((t11 ++ bytesOf a1 : List Int).length + [0].length) * 1 ≤ 140737488355328 then (if (((t11 ++ bytesOf a1 : List Int) ++ [0] : List Int).length : Int) > 400 then (some (0, (⟨#[]⟩ : ByteArray), false)) else (some (1, strOfNums ((t11 ++ bytesOf a1 : List Int) ++ [0] : List Int), true))) else (none))) else (none)))) else (some (0, (⟨#[]⟩ : ByteArray), false)))
open Go.Proofs.Ytgmiokocipmbaaa.E in
set_option maxHeartbeats 60000000 in
set_option maxRecDepth 100000 in
theorem tlv_Manage.calls (a0 : Int) (a1 : ByteArray) (r1 : Int) (r2 : ByteArray) (r3 : Bool) (w : World) (h : tlv_Manage.f a0 a1 = some (r1, r2, r3)) :
    Calls Try.prog 27 #[.int .i64 a0, .string a1] w fun e w' => e = .returned (.tuple #[.agg #[.int .i64 r1, .string r2], .bool r3]) ∧ Below w.heap.size w w' := by
  have H := h
  clear h
  unfold tlv_Manage.f at H
  obtain ⟨t7, At7, H⟩ := Option.bind_eq_some_iff.mp H
  by_cases c1 : t7 = true
  rotate_left
  · rw [if_neg c1] at H
    simp only [Option.some.injEq, Prod.mk.injEq] at H
    obtain ⟨rfl, rfl, rfl⟩ := H
    refine calls_of_wp (fn := Try.f27) (by kernel_rfl) rfl ?_
    have hS := St.enter #[.int .i64 a0, .string a1] 39 (by simp) [(0, .int .i64 a0), (1, .string a1)] (by simp)
    have HB0 := Below.refl w.heap.size w
    refine wp_seq_k (fun K1 hK1 => ?_)
    refine reg_seq (N := 39) (bs := [(0, .int .i64 a0), (1, .string a1)]) (I := fun x => Below w.heap.size w x) (ps := [IsB #[.int .i64 0, .string (⟨#[]⟩ : ByteArray)] 26 w.heap.size, VB false]) (by kernel_rfl) ?_ ?_ rfl hS HB0 ?_ ?_
    · exact fun x y hI hb => below_step hI hb
    · exact .cons (Stays.b _ _ _) (.v (.nil))
    · refine .on rfl (fun a w hS hI hp => does_var (x_alloc rfl (by kernel_rfl)) (hI).size) ?_
      refine .on rfl (fun a w hS hI hp => does_val (x_assign rfl (rfl)) rfl) ?_
      exact .nil
    clear hS
    intro at2 w3 hS hI hp
    have hBw3_w := hI
    obtain ⟨g4, hv4, hgeg4, hbxg4⟩ := (show IsB _ 26 _ (sl _ 4) _ from hp 0 (by decide))
    have hBw3_w3 := Below.refl w3.heap.size w3
    have hS := hS.cons hv4
    clear hp hI hv4
    refine hK1 _ _ ?_
    (try clear hK1 K1)
    refine wp_seq_k (fun K5 hK5 => ?_)
    refine wp_seq_k (fun K6 hK6 => ?_)
    refine reg_seq (N := 39) (bs := [(4, .pointer (some ⟨g4, 0, none⟩)), (0, .int .i64 a0), (1, .string a1)]) (I := fun x => Below w.heap.size w x ∧ Below w3.heap.size w3 x) (ps := [VI a0, VB t7, VB (!t7), VB (!t7), VU, VU, VU, VB true]) (by kernel_rfl) ?_ ?_ rfl hS ⟨hBw3_w, hBw3_w3⟩ ?_ ?_
    · exact fun x y hI hb => ⟨below_step hI.1 hb, below_step hI.2 hb⟩
    · exact .v (.v (.v (.v (.v (.v (.v (.v (.nil))))))))
    · refine .ms 1 rfl rfl rfl ?_
      refine .on rfl (fun a w hS hI hp => does_call (by kernel_rfl) (ar3 (hp.V 0 rfl rfl) (rfl) (rfl)) ((tlv_in.calls a0 0 65535 t7 _  At7).mono fun _ _ h => ⟨_, h.1, h.2.below, rfl⟩)) ?_
      refine .on rfl (fun a w hS hI hp => does_val (x_not rfl (hp.V 1 rfl rfl)) rfl) ?_
      refine .mv 2 rfl rfl rfl rfl ?_
      iterate 3 refine .sn 3 10 rfl rfl rfl rfl rfl ((congrArg (!·) (Bool.eq_false_iff.2 c1))) ?_
      refine .on rfl (fun a w hS hI hp => does_val (x_pickT rfl ((hp.V 3 rfl rfl).trans (bT (congrArg (!·) (Bool.eq_false_iff.2 c1)))) (rfl)) rfl) ?_
      exact .nil
    clear hS
    intro at8 w9 hS hI hp
    have hBw9_w := hI.1
    have hBw9_w3 := hI.2
    have hv14 : sl _ 14 = .bool true := hp 7 (by decide)
    have hBw9_w9 := Below.refl w9.heap.size w9
    have hS := hS.cons hv14
    clear hp hI hv14
    refine hK6 _ _ ?_
    (try clear hK6 K6)
    refine wp_cond_true ((hS.get 0 rfl).trans (bT rfl)) ?_
    refine wp_seq_k (fun K10 hK10 => ?_)
    refine reg_seq_tail 1 (N := 39) (bs := [(14, .bool true), (4, .pointer (some ⟨g4, 0, none⟩)), (0, .int .i64 a0), (1, .string a1)]) (I := fun x => Below w.heap.size w x ∧ Below w3.heap.size w3 x ∧ Below w9.heap.size w9 x) (ps := [IsV (.agg #[.int .i64 0, .string (⟨#[]⟩ : ByteArray)])]) (by kernel_rfl) ?_ ?_ rfl hS ⟨hBw9_w, hBw9_w3, hBw9_w9⟩ ?_ ?_
    · exact fun x y hI hb => ⟨below_step hI.1 hb, below_step hI.2.1 hb, below_step hI.2.2 hb⟩
    · exact .v (.nil)
    · refine .on rfl (fun a w hS hI hp => does_val (x_build (vs := []) rfl (by rw [Array.toList_map]; exact (show [] = _ from rfl)) (by kernel_rfl)) rfl) ?_
      exact .nil
    clear hS
    intro at11 w12 hS hI hp
    have hBw12_w := hI.1
    have hBw12_w3 := hI.2.1
    have hBw12_w9 := hI.2.2
    replace hS := (hS.nil).cons (hS.get 1 rfl)
    have hv15 : sl _ 15 = .agg #[.int .i64 0, .string (⟨#[]⟩ : ByteArray)] := hp 0 (by decide)
    have hBw12_w12 := Below.refl w12.heap.size w12
    have hS := hS.cons hv15
    clear hp hI hv15
    show wpList _ _ _ [_, _] _ _
    refine list_step rfl (does_storeAll (g := g4) (cs := #[.int .i64 0, .string (⟨#[]⟩ : ByteArray)]) rfl (hS.get 1 rfl) (hS.get 0 rfl) ((hBw12_w3.block g4 (blk_lt hbxg4)).trans hbxg4) (by kernel_rfl) (by kernel_rfl) (by kernel_rfl)) ?_
    rintro vw13 w13 ⟨rfl, hbxw13, hT⟩
    have hBw13_w := hT.below hBw12_w hgeg4 (hBw12_w).size
    have hBw13_w13 := Below.refl w13.heap.size w13
    clear hT
    refine list_step rfl (R := fun v w' => Below _ _ w' ∧ (VB false) v w') (does_val (x_assign rfl (rfl)) rfl) ?_
    rintro vw14 w14 ⟨hb, he⟩
    have hBw14_w := below_step hBw13_w hb
    have hBw14_w13 := below_step hBw13_w13 hb
    have hBw14_w14 := Below.refl w14.heap.size w14
    obtain rfl : vw14 = .bool false := he
    refine hS.next (v := .bool false) (d := 5) rfl (by decide) (by rfl) ?_
    clear hS
    intro at15 hS
    refine wpList_nil ?_
    refine hK10 _ _ ?_
    (try clear hK10 K10)
    refine wp_ret ?_
    (try simp only [Exit.then, Exit.inBlock, Exit.jump, Exit.noGoto])
    exact bodyPost_ret (v := .tuple #[.agg #[.int .i64 0, .string (⟨#[]⟩ : ByteArray)], .bool false]) (results_list (rs := [.cell 4 26, .tmp 5]) rfl (by simp) (Vals.cell g4 26 #[.int .i64 0, .string (⟨#[]⟩ : ByteArray)] (0, 0) _ (hS.get 2 rfl) ((hBw14_w13.block g4 (blk_lt hbxw13)).trans hbxw13) Try.underlying26 rfl (by kernel_rfl) (Vals.at (hS.get 0 rfl) .nil))) hS.nodef ⟨rfl, hBw14_w⟩
  rw [if_pos c1] at H
  by_cases c2 : (a1.size : Int) > 400
  · rw [if_pos c2] at H
    simp only [Option.some.injEq, Prod.mk.injEq] at H
    obtain ⟨rfl, rfl, rfl⟩ := H
    refine calls_of_wp (fn := Try.f27) (by kernel_rfl) rfl ?_
    have hS := St.enter #[.int .i64 a0, .string a1] 39 (by simp) [(0, .int .i64 a0), (1, .string a1)] (by simp)
    have HB0 := Below.refl w.heap.size w
    refine wp_seq_k (fun K1 hK1 => ?_)
    refine reg_seq (N := 39) (bs := [(0, .int .i64 a0), (1, .string a1)]) (I := fun x => Below w.heap.size w x) (ps := [IsB #[.int .i64 0, .string (⟨#[]⟩ : ByteArray)] 26 w.heap.size, VB false]) (by kernel_rfl) ?_ ?_ rfl hS HB0 ?_ ?_
    · exact fun x y hI hb => below_step hI hb
    · exact .cons (Stays.b _ _ _) (.v (.nil))
    · refine .on rfl (fun a w hS hI hp => does_var (x_alloc rfl (by kernel_rfl)) (hI).size) ?_
      refine .on rfl (fun a w hS hI hp => does_val (x_assign rfl (rfl)) rfl) ?_
      exact .nil
    clear hS
    intro at2 w3 hS hI hp
    have hBw3_w := hI
    obtain ⟨g4, hv4, hgeg4, hbxg4⟩ := (show IsB _ 26 _ (sl _ 4) _ from hp 0 (by decide))
    have hBw3_w3 := Below.refl w3.heap.size w3
    have hS := hS.cons hv4
    clear hp hI hv4
    refine hK1 _ _ ?_
    (try clear hK1 K1)
    refine wp_seq_k (fun K5 hK5 => ?_)
    refine wp_seq_k (fun K6 hK6 => ?_)
    refine reg_seq (N := 39) (bs := [(4, .pointer (some ⟨g4, 0, none⟩)), (0, .int .i64 a0), (1, .string a1)]) (I := fun x => Below w.heap.size w x ∧ Below w3.heap.size w3 x) (ps := [VI a0, VB t7, VB (!t7), VB (!t7), IsV (.string a1), VI (a1.size : Int), VB (decide ((a1.size : Int) > 400)), VB (decide ((a1.size : Int) > 400))]) (by kernel_rfl) ?_ ?_ rfl hS ⟨hBw3_w, hBw3_w3⟩ ?_ ?_
    · exact fun x y hI hb => ⟨below_step hI.1 hb, below_step hI.2 hb⟩
    · exact .v (.v (.v (.v (.v (.v (.v (.v (.nil))))))))
    · refine .ms 1 rfl rfl rfl ?_
      refine .on rfl (fun a w hS hI hp => does_call (by kernel_rfl) (ar3 (hp.V 0 rfl rfl) (rfl) (rfl)) ((tlv_in.calls a0 0 65535 t7 _  At7).mono fun _ _ h => ⟨_, h.1, h.2.below, rfl⟩)) ?_
      refine .on rfl (fun a w hS hI hp => does_val (x_not rfl (hp.V 1 rfl rfl)) rfl) ?_
      refine .mv 2 rfl rfl rfl rfl ?_
      refine .oy 3 10 rfl rfl rfl rfl rfl ((congrArg (!·) c1)) (fun a w hS hI hp => does_val (x_move rfl (hS.get 2 rfl)) rfl) ?_
      refine .oy 3 10 rfl rfl rfl rfl rfl ((congrArg (!·) c1)) (fun a w hS hI hp => does_val (x_lenS rfl (by kernel_rfl) (hp.V 4 rfl rfl)) rfl) ?_
      refine .oy 3 10 rfl rfl rfl rfl rfl ((congrArg (!·) c1)) (fun a w hS hI hp => does_val (x_bin rfl (hp.V 5 rfl rfl) (rfl) (b_gtr _ _ _ _ _ _)) rfl) ?_
      refine .on rfl (fun a w hS hI hp => does_val (x_pickF rfl ((hp.V 3 rfl rfl).trans (bF (congrArg (!·) c1))) (hp.V 6 rfl rfl)) rfl) ?_
      exact .nil
    clear hS
    intro at8 w9 hS hI hp
    have hBw9_w := hI.1
    have hBw9_w3 := hI.2
    have hv14 : sl _ 14 = .bool (decide ((a1.size : Int) > 400)) := hp 7 (by decide)
    have hBw9_w9 := Below.refl w9.heap.size w9
    have hS := hS.cons hv14
    clear hp hI hv14
    refine hK6 _ _ ?_
    (try clear hK6 K6)
    refine wp_cond_true ((hS.get 0 rfl).trans (bT (decide_eq_true c2))) ?_
    refine wp_seq_k (fun K10 hK10 => ?_)
    refine reg_seq_tail 1 (N := 39) (bs := [(14, .bool (decide ((a1.size : Int) > 400))), (4, .pointer (some ⟨g4, 0, none⟩)), (0, .int .i64 a0), (1, .string a1)]) (I := fun x => Below w.heap.size w x ∧ Below w3.heap.size w3 x ∧ Below w9.heap.size w9 x) (ps := [IsV (.agg #[.int .i64 0, .string (⟨#[]⟩ : ByteArray)])]) (by kernel_rfl) ?_ ?_ rfl hS ⟨hBw9_w, hBw9_w3, hBw9_w9⟩ ?_ ?_
    · exact fun x y hI hb => ⟨below_step hI.1 hb, below_step hI.2.1 hb, below_step hI.2.2 hb⟩
    · exact .v (.nil)
    · refine .on rfl (fun a w hS hI hp => does_val (x_build (vs := []) rfl (by rw [Array.toList_map]; exact (show [] = _ from rfl)) (by kernel_rfl)) rfl) ?_
      exact .nil
    clear hS
    intro at11 w12 hS hI hp
    have hBw12_w := hI.1
    have hBw12_w3 := hI.2.1
    have hBw12_w9 := hI.2.2
    replace hS := (hS.nil).cons (hS.get 1 rfl)
    have hv15 : sl _ 15 = .agg #[.int .i64 0, .string (⟨#[]⟩ : ByteArray)] := hp 0 (by decide)
    have hBw12_w12 := Below.refl w12.heap.size w12
    have hS := hS.cons hv15
    clear hp hI hv15
    show wpList _ _ _ [_, _] _ _
    refine list_step rfl (does_storeAll (g := g4) (cs := #[.int .i64 0, .string (⟨#[]⟩ : ByteArray)]) rfl (hS.get 1 rfl) (hS.get 0 rfl) ((hBw12_w3.block g4 (blk_lt hbxg4)).trans hbxg4) (by kernel_rfl) (by kernel_rfl) (by kernel_rfl)) ?_
    rintro vw13 w13 ⟨rfl, hbxw13, hT⟩
    have hBw13_w := hT.below hBw12_w hgeg4 (hBw12_w).size
    have hBw13_w13 := Below.refl w13.heap.size w13
    clear hT
    refine list_step rfl (R := fun v w' => Below _ _ w' ∧ (VB false) v w') (does_val (x_assign rfl (rfl)) rfl) ?_
    rintro vw14 w14 ⟨hb, he⟩
    have hBw14_w := below_step hBw13_w hb
    have hBw14_w13 := below_step hBw13_w13 hb
    have hBw14_w14 := Below.refl w14.heap.size w14
    obtain rfl : vw14 = .bool false := he
    refine hS.next (v := .bool false) (d := 5) rfl (by decide) (by rfl) ?_
    clear hS
    intro at15 hS
    refine wpList_nil ?_
    refine hK10 _ _ ?_
    (try clear hK10 K10)
    refine wp_ret ?_
    (try simp only [Exit.then, Exit.inBlock, Exit.jump, Exit.noGoto])
    exact bodyPost_ret (v := .tuple #[.agg #[.int .i64 0, .string (⟨#[]⟩ : ByteArray)], .bool false]) (results_list (rs := [.cell 4 26, .tmp 5]) rfl (by simp) (Vals.cell g4 26 #[.int .i64 0, .string (⟨#[]⟩ : ByteArray)] (0, 0) _ (hS.get 2 rfl) ((hBw14_w13.block g4 (blk_lt hbxw13)).trans hbxw13) Try.underlying26 rfl (by kernel_rfl) (Vals.at (hS.get 0 rfl) .nil))) hS.nodef ⟨rfl, hBw14_w⟩
  rw [if_neg c2] at H
  obtain ⟨t11, At11, H⟩ := Option.bind_eq_some_iff.mp H
  by_cases c3 : t11.length + a1.size ≤ 140737488355328
  rotate_left
  · rw [if_neg c3] at H
    exact absurd H (by simp)
  rw [if_pos c3] at H
  by_cases c4 : (Int.tmod ((t11 ++ bytesOf a1 : List Int).length : Int) 2) = 0
  · rw [if_pos c4] at H
    by_cases c5 : ((t11 ++ bytesOf a1 : List Int).length : Int) > 400
    · rw [if_pos c5] at H
      simp only [Option.some.injEq, Prod.mk.injEq] at H
      obtain ⟨rfl, rfl, rfl⟩ := H
      refine calls_of_wp (fn := Try.f27) (by kernel_rfl) rfl ?_
      have hS := St.enter #[.int .i64 a0, .string a1] 39 (by simp) [(0, .int .i64 a0), (1, .string a1)] (by simp)
      have HB0 := Below.refl w.heap.size w
      refine wp_seq_k (fun K1 hK1 => ?_)
      refine reg_seq (N := 39) (bs := [(0, .int .i64 a0), (1, .string a1)]) (I := fun x => Below w.heap.size w x) (ps := [IsB #[.int .i64 0, .string (⟨#[]⟩ : ByteArray)] 26 w.heap.size, VB false]) (by kernel_rfl) ?_ ?_ rfl hS HB0 ?_ ?_
      · exact fun x y hI hb => below_step hI hb
      · exact .cons (Stays.b _ _ _) (.v (.nil))
      · refine .on rfl (fun a w hS hI hp => does_var (x_alloc rfl (by kernel_rfl)) (hI).size) ?_
        refine .on rfl (fun a w hS hI hp => does_val (x_assign rfl (rfl)) rfl) ?_
        exact .nil
      clear hS
      intro at2 w3 hS hI hp
      have hBw3_w := hI
      obtain ⟨g4, hv4, hgeg4, hbxg4⟩ := (show IsB _ 26 _ (sl _ 4) _ from hp 0 (by decide))
      have hBw3_w3 := Below.refl w3.heap.size w3
      have hS := hS.cons hv4
      clear hp hI hv4
      refine hK1 _ _ ?_
      (try clear hK1 K1)
      refine wp_seq_k (fun K5 hK5 => ?_)
      refine wp_seq_k (fun K6 hK6 => ?_)
      refine reg_seq (N := 39) (bs := [(4, .pointer (some ⟨g4, 0, none⟩)), (0, .int .i64 a0), (1, .string a1)]) (I := fun x => Below w.heap.size w x ∧ Below w3.heap.size w3 x) (ps := [VI a0, VB t7, VB (!t7), VB (!t7), IsV (.string a1), VI (a1.size : Int), VB (decide ((a1.size : Int) > 400)), VB (decide ((a1.size : Int) > 400))]) (by kernel_rfl) ?_ ?_ rfl hS ⟨hBw3_w, hBw3_w3⟩ ?_ ?_
      · exact fun x y hI hb => ⟨below_step hI.1 hb, below_step hI.2 hb⟩
      · exact .v (.v (.v (.v (.v (.v (.v (.v (.nil))))))))
      · refine .ms 1 rfl rfl rfl ?_
        refine .on rfl (fun a w hS hI hp => does_call (by kernel_rfl) (ar3 (hp.V 0 rfl rfl) (rfl) (rfl)) ((tlv_in.calls a0 0 65535 t7 _  At7).mono fun _ _ h => ⟨_, h.1, h.2.below, rfl⟩)) ?_
        refine .on rfl (fun a w hS hI hp => does_val (x_not rfl (hp.V 1 rfl rfl)) rfl) ?_
        refine .mv 2 rfl rfl rfl rfl ?_
        refine .oy 3 10 rfl rfl rfl rfl rfl ((congrArg (!·) c1)) (fun a w hS hI hp => does_val (x_move rfl (hS.get 2 rfl)) rfl) ?_
        refine .oy 3 10 rfl rfl rfl rfl rfl ((congrArg (!·) c1)) (fun a w hS hI hp => does_val (x_lenS rfl (by kernel_rfl) (hp.V 4 rfl rfl)) rfl) ?_
        refine .oy 3 10 rfl rfl rfl rfl rfl ((congrArg (!·) c1)) (fun a w hS hI hp => does_val (x_bin rfl (hp.V 5 rfl rfl) (rfl) (b_gtr _ _ _ _ _ _)) rfl) ?_
        refine .on rfl (fun a w hS hI hp => does_val (x_pickF rfl ((hp.V 3 rfl rfl).trans (bF (congrArg (!·) c1))) (hp.V 6 rfl rfl)) rfl) ?_
        exact .nil
      clear hS
      intro at8 w9 hS hI hp
      have hBw9_w := hI.1
      have hBw9_w3 := hI.2
      have hv14 : sl _ 14 = .bool (decide ((a1.size : Int) > 400)) := hp 7 (by decide)
      have hBw9_w9 := Below.refl w9.heap.size w9
      have hS := hS.cons hv14
      clear hp hI hv14
      refine hK6 _ _ ?_
      (try clear hK6 K6)
      refine wp_cond_false ((hS.get 0 rfl).trans (bF (decide_eq_false c2))) ?_
      refine wp_skip ?_
      refine hK5 _ _ ?_
      (try clear hK5 K5)
      refine wp_seq_k (fun K10 hK10 => ?_)
      refine reg_seq_tail 3 (N := 39) (bs := [(14, .bool (decide ((a1.size : Int) > 400))), (4, .pointer (some ⟨g4, 0, none⟩)), (0, .int .i64 a0), (1, .string a1)]) (I := fun x => Below w.heap.size w x ∧ Below w3.heap.size w3 x ∧ Below w9.heap.size w9 x) (ps := [VI a0, IsR (Kd.int .u8) 5 w9.heap.size t11, IsV (.string a1)]) (by kernel_rfl) ?_ ?_ rfl hS ⟨hBw9_w, hBw9_w3, hBw9_w9⟩ ?_ ?_
      · exact fun x y hI hb => ⟨below_step hI.1 hb, below_step hI.2.1 hb, below_step hI.2.2 hb⟩
      · exact .v (.cons (Stays.r _ _ _ _) (.v (.nil)))
      · refine .ms 2 rfl rfl rfl ?_
        refine .on rfl (fun a w hS hI hp => does_call (by kernel_rfl) (ar3 (rfl) (hp.V 0 rfl rfl) (rfl)) ((octets_Put.calls _ _ [] a0 2 t11 _ (Kd.C_nil _ _) (Nat.le_refl _) At11).mono fun _ _ h => h.elim fun v0 h => ⟨v0, h.1, h.2.2, Kd.R_lower h.2.1 hI.2.2.size⟩)) ?_
        refine .ms 3 rfl rfl rfl ?_
        exact .nil
      clear hS
      intro at12 w13 hS hI hp
      have hBw13_w := hI.1
      have hBw13_w3 := hI.2.1
      have hBw13_w9 := hI.2.2
      replace hS := (hS.nil).cons (hS.get 1 rfl)
      obtain ⟨A14, C14, hv17, hl14, hc14⟩ := Kd.R_reads (show Kd.R (Kd.int .u8) 5 w13 w9.heap.size (fun _ => True) (sl _ 17) t11 from hp 1 (by decide))
      have ho14 : Kd.R (Kd.int .u8) 5 w13 w9.heap.size (fun _ => True) (.slice A14 t11.length C14) t11 := hv17 ▸ (hp 1 (by decide))
      have hv18 : sl _ 18 = .string a1 := hp 2 (by decide)
      have hBw13_w13 := Below.refl w13.heap.size w13
      have hS := hS.cons hv17
      have hS := hS.cons hv18
      clear hp hI hv17 hv18
      show wpList _ _ _ [_, _] _ _
      refine list_step rfl (does_moreS (W := w9) (.tmp 17) (.tmp 18) 31 9 5 rfl (by kernel_rfl) (by kernel_rfl) (by kernel_rfl) _ t11 a1 (hS.get 1 rfl) (hS.get 0 rfl) (Kd.R_below ho14 hBw13_w13) (hBw13_w9) c3) ?_
      rintro vw15 w15 ⟨hb, hr, hk⟩
      clear hk
      have hBw15_w := below_step hBw9_w hb
      have hBw15_w3 := below_step hBw9_w3 hb
      have hBw15_w9 := hb
      replace hS := ((hS.nil).cons (hS.get 2 rfl)).cons (hS.get 0 rfl)
      have hBw15_w15 := Below.refl w15.heap.size w15
      obtain ⟨A16, C16, rfl, hl16, hc16⟩ := Kd.R_reads hr
      have hr16 := hr
      clear hr
      refine hS.next (v := .slice A16 ((t11 ++ bytesOf a1 : List Int).length) C16) (d := 19) rfl (by decide) (by rfl) ?_
      clear hS
      intro at17 hS
      refine list_step rfl (R := fun v w' => Below _ _ w' ∧ (IsV (.slice A16 ((t11 ++ bytesOf a1 : List Int).length) C16)) v w') (does_val (x_assign rfl (hS.get 0 rfl)) rfl) ?_
      rintro vw18 w18 ⟨hb, he⟩
      have hBw18_w := below_step hBw15_w hb
      have hBw18_w3 := below_step hBw15_w3 hb
      have hBw18_w9 := below_step hBw15_w9 hb
      have hBw18_w15 := below_step hBw15_w15 hb
      have hBw18_w18 := Below.refl w18.heap.size w18
      obtain rfl : vw18 = .slice A16 ((t11 ++ bytesOf a1 : List Int).length) C16 := he
      refine hS.next (v := .slice A16 ((t11 ++ bytesOf a1 : List Int).length) C16) (d := 6) rfl (by decide) (by rfl) ?_
      clear hS
      intro at19 hS
      refine wpList_nil ?_
      refine hK10 _ _ ?_
      (try clear hK10 K10)
      refine wp_seq_k (fun K20 hK20 => ?_)
      refine wp_seq_k (fun K21 hK21 => ?_)
      refine reg_seq (N := 39) (bs := [(6, .slice A16 ((t11 ++ bytesOf a1 : List Int).length) C16), (19, .slice A16 ((t11 ++ bytesOf a1 : List Int).length) C16), (18, .string a1), (4, .pointer (some ⟨g4, 0, none⟩))]) (I := fun x => Below w.heap.size w x ∧ Below w3.heap.size w3 x ∧ Below w9.heap.size w9 x ∧ Below w15.heap.size w15 x ∧ Below w18.heap.size w18 x) (ps := [IsV (.slice A16 ((t11 ++ bytesOf a1 : List Int).length) C16), VI ((t11 ++ bytesOf a1 : List Int).length : Int), VI (Int.tmod ((t11 ++ bytesOf a1 : List Int).length : Int) 2), VB (!decide ((Int.tmod ((t11 ++ bytesOf a1 : List Int).length : Int) 2) = 0))]) (by kernel_rfl) ?_ ?_ rfl hS ⟨hBw18_w, hBw18_w3, hBw18_w9, hBw18_w15, hBw18_w18⟩ ?_ ?_
      · exact fun x y hI hb => ⟨below_step hI.1 hb, below_step hI.2.1 hb, below_step hI.2.2.1 hb, below_step hI.2.2.2.1 hb, below_step hI.2.2.2.2 hb⟩
      · exact .v (.v (.v (.v (.nil))))
      · refine .ms 0 rfl rfl rfl ?_
        refine .on rfl (fun a w hS hI hp => does_val (x_len (e := 5) rfl (by kernel_rfl) (hp.V 0 rfl rfl)) rfl) ?_
        refine .on rfl (fun a w hS hI hp => does_val (x_bin rfl (hp.V 1 rfl rfl) (rfl) (b_rem _ _ _ _ _ _ (by decide))) rfl) ?_
        refine .on rfl (fun a w hS hI hp => does_val (x_bin rfl (hp.V 2 rfl rfl) (rfl) (b_neq _ _ _ _ _ _)) rfl) ?_
        exact .nil
      clear hS
      intro at22 w23 hS hI hp
      have hBw23_w := hI.1
      have hBw23_w3 := hI.2.1
      have hBw23_w9 := hI.2.2.1
      have hBw23_w15 := hI.2.2.2.1
      have hBw23_w18 := hI.2.2.2.2
      replace hS := ((hS.nil).cons (hS.get 3 rfl)).cons (hS.get 0 rfl)
      have hv23 : sl _ 23 = .bool (!decide ((Int.tmod ((t11 ++ bytesOf a1 : List Int).length : Int) 2) = 0)) := hp 3 (by decide)
      have hBw23_w23 := Below.refl w23.heap.size w23
      have hS := hS.cons hv23
      clear hp hI hv23
      refine hK21 _ _ ?_
      (try clear hK21 K21)
      refine wp_cond_false ((hS.get 0 rfl).trans (bF (congrArg (!·) (decide_eq_true c4)))) ?_
      refine wp_skip ?_
      refine hK20 _ _ ?_
      (try clear hK20 K20)
      refine wp_seq_k (fun K24 hK24 => ?_)
      refine wp_seq_k (fun K25 hK25 => ?_)
      refine reg_seq (N := 39) (bs := [(23, .bool (!decide ((Int.tmod ((t11 ++ bytesOf a1 : List Int).length : Int) 2) = 0))), (6, .slice A16 ((t11 ++ bytesOf a1 : List Int).length) C16), (4, .pointer (some ⟨g4, 0, none⟩))]) (I := fun x => Below w.heap.size w x ∧ Below w3.heap.size w3 x ∧ Below w9.heap.size w9 x ∧ Below w15.heap.size w15 x ∧ Below w23.heap.size w23 x) (ps := [IsV (.slice A16 ((t11 ++ bytesOf a1 : List Int).length) C16), VI ((t11 ++ bytesOf a1 : List Int).length : Int), VB (decide (((t11 ++ bytesOf a1 : List Int).length : Int) > 400))]) (by kernel_rfl) ?_ ?_ rfl hS ⟨hBw23_w, hBw23_w3, hBw23_w9, hBw23_w15, hBw23_w23⟩ ?_ ?_
      · exact fun x y hI hb => ⟨below_step hI.1 hb, below_step hI.2.1 hb, below_step hI.2.2.1 hb, below_step hI.2.2.2.1 hb, below_step hI.2.2.2.2 hb⟩
      · exact .v (.v (.v (.nil)))
      · refine .ms 1 rfl rfl rfl ?_
        refine .on rfl (fun a w hS hI hp => does_val (x_len (e := 5) rfl (by kernel_rfl) (hp.V 0 rfl rfl)) rfl) ?_
        refine .on rfl (fun a w hS hI hp => does_val (x_bin rfl (hp.V 1 rfl rfl) (rfl) (b_gtr _ _ _ _ _ _)) rfl) ?_
        exact .nil
      clear hS
      intro at26 w27 hS hI hp
      have hBw27_w := hI.1
      have hBw27_w3 := hI.2.1
      have hBw27_w9 := hI.2.2.1
      have hBw27_w15 := hI.2.2.2.1
      have hBw27_w23 := hI.2.2.2.2
      replace hS := ((hS.nil).cons (hS.get 2 rfl)).cons (hS.get 1 rfl)
      have hv34 : sl _ 34 = .bool (decide (((t11 ++ bytesOf a1 : List Int).length : Int) > 400)) := hp 2 (by decide)
      have hBw27_w27 := Below.refl w27.heap.size w27
      have hS := hS.cons hv34
      clear hp hI hv34
      refine hK25 _ _ ?_
      (try clear hK25 K25)
      refine wp_cond_true ((hS.get 0 rfl).trans (bT (decide_eq_true c5))) ?_
      refine wp_seq_k (fun K28 hK28 => ?_)
      refine reg_seq_tail 1 (N := 39) (bs := [(34, .bool (decide (((t11 ++ bytesOf a1 : List Int).length : Int) > 400))), (6, .slice A16 ((t11 ++ bytesOf a1 : List Int).length) C16), (4, .pointer (some ⟨g4, 0, none⟩))]) (I := fun x => Below w.heap.size w x ∧ Below w3.heap.size w3 x ∧ Below w9.heap.size w9 x ∧ Below w15.heap.size w15 x ∧ Below w27.heap.size w27 x) (ps := [IsV (.agg #[.int .i64 0, .string (⟨#[]⟩ : ByteArray)])]) (by kernel_rfl) ?_ ?_ rfl hS ⟨hBw27_w, hBw27_w3, hBw27_w9, hBw27_w15, hBw27_w27⟩ ?_ ?_
      · exact fun x y hI hb => ⟨below_step hI.1 hb, below_step hI.2.1 hb, below_step hI.2.2.1 hb, below_step hI.2.2.2.1 hb, below_step hI.2.2.2.2 hb⟩
      · exact .v (.nil)
      · refine .on rfl (fun a w hS hI hp => does_val (x_build (vs := []) rfl (by rw [Array.toList_map]; exact (show [] = _ from rfl)) (by kernel_rfl)) rfl) ?_
        exact .nil
      clear hS
      intro at29 w30 hS hI hp
      have hBw30_w := hI.1
      have hBw30_w3 := hI.2.1
      have hBw30_w9 := hI.2.2.1
      have hBw30_w15 := hI.2.2.2.1
      have hBw30_w27 := hI.2.2.2.2
      replace hS := (hS.nil).cons (hS.get 2 rfl)
      have hv35 : sl _ 35 = .agg #[.int .i64 0, .string (⟨#[]⟩ : ByteArray)] := hp 0 (by decide)
      have hBw30_w30 := Below.refl w30.heap.size w30
      have hS := hS.cons hv35
      clear hp hI hv35
      show wpList _ _ _ [_, _] _ _
      refine list_step rfl (does_storeAll (g := g4) (cs := #[.int .i64 0, .string (⟨#[]⟩ : ByteArray)]) rfl (hS.get 1 rfl) (hS.get 0 rfl) ((hBw30_w3.block g4 (blk_lt hbxg4)).trans hbxg4) (by kernel_rfl) (by kernel_rfl) (by kernel_rfl)) ?_
      rintro vw31 w31 ⟨rfl, hbxw31, hT⟩
      have hBw31_w := hT.below hBw30_w hgeg4 (hBw30_w).size
      have hBw31_w31 := Below.refl w31.heap.size w31
      clear hT
      refine list_step rfl (R := fun v w' => Below _ _ w' ∧ (VB false) v w') (does_val (x_assign rfl (rfl)) rfl) ?_
      rintro vw32 w32 ⟨hb, he⟩
      have hBw32_w := below_step hBw31_w hb
      have hBw32_w31 := below_step hBw31_w31 hb
      have hBw32_w32 := Below.refl w32.heap.size w32
      obtain rfl : vw32 = .bool false := he
      refine hS.next (v := .bool false) (d := 5) rfl (by decide) (by rfl) ?_
      clear hS
      intro at33 hS
      refine wpList_nil ?_
      refine hK28 _ _ ?_
      (try clear hK28 K28)
      refine wp_ret ?_
      (try simp only [Exit.then, Exit.inBlock, Exit.jump, Exit.noGoto])
      exact bodyPost_ret (v := .tuple #[.agg #[.int .i64 0, .string (⟨#[]⟩ : ByteArray)], .bool false]) (results_list (rs := [.cell 4 26, .tmp 5]) rfl (by simp) (Vals.cell g4 26 #[.int .i64 0, .string (⟨#[]⟩ : ByteArray)] (0, 0) _ (hS.get 2 rfl) ((hBw32_w31.block g4 (blk_lt hbxw31)).trans hbxw31) Try.underlying26 rfl (by kernel_rfl) (Vals.at (hS.get 0 rfl) .nil))) hS.nodef ⟨rfl, hBw32_w⟩
    rw [if_neg c5] at H
    simp only [Option.some.injEq, Prod.mk.injEq] at H
    obtain ⟨rfl, rfl, rfl⟩ := H
    refine calls_of_wp (fn := Try.f27) (by kernel_rfl) rfl ?_
    have hS := St.enter #[.int .i64 a0, .string a1] 39 (by simp) [(0, .int .i64 a0), (1, .string a1)] (by simp)
    have HB0 := Below.refl w.heap.size w
    refine wp_seq_k (fun K1 hK1 => ?_)
    refine reg_seq (N := 39) (bs := [(0, .int .i64 a0), (1, .string a1)]) (I := fun x => Below w.heap.size w x) (ps := [IsB #[.int .i64 0, .string (⟨#[]⟩ : ByteArray)] 26 w.heap.size, VB false]) (by kernel_rfl) ?_ ?_ rfl hS HB0 ?_ ?_
    · exact fun x y hI hb => below_step hI hb
    · exact .cons (Stays.b _ _ _) (.v (.nil))
    · refine .on rfl (fun a w hS hI hp => does_var (x_alloc rfl (by kernel_rfl)) (hI).size) ?_
      refine .on rfl (fun a w hS hI hp => does_val (x_assign rfl (rfl)) rfl) ?_
      exact .nil
    clear hS
    intro at2 w3 hS hI hp
    have hBw3_w := hI
    obtain ⟨g4, hv4, hgeg4, hbxg4⟩ := (show IsB _ 26 _ (sl _ 4) _ from hp 0 (by decide))
    have hBw3_w3 := Below.refl w3.heap.size w3
    have hS := hS.cons hv4
    clear hp hI hv4
    refine hK1 _ _ ?_
    (try clear hK1 K1)
    refine wp_seq_k (fun K5 hK5 => ?_)
    refine wp_seq_k (fun K6 hK6 => ?_)
    refine reg_seq (N := 39) (bs := [(4, .pointer (some ⟨g4, 0, none⟩)), (0, .int .i64 a0), (1, .string a1)]) (I := fun x => Below w.heap.size w x ∧ Below w3.heap.size w3 x) (ps := [VI a0, VB t7, VB (!t7), VB (!t7), IsV (.string a1), VI (a1.size : Int), VB (decide ((a1.size : Int) > 400)), VB (decide ((a1.size : Int) > 400))]) (by kernel_rfl) ?_ ?_ rfl hS ⟨hBw3_w, hBw3_w3⟩ ?_ ?_
    · exact fun x y hI hb => ⟨below_step hI.1 hb, below_step hI.2 hb⟩
    · exact .v (.v (.v (.v (.v (.v (.v (.v (.nil))))))))
    · refine .ms 1 rfl rfl rfl ?_
      refine .on rfl (fun a w hS hI hp => does_call (by kernel_rfl) (ar3 (hp.V 0 rfl rfl) (rfl) (rfl)) ((tlv_in.calls a0 0 65535 t7 _  At7).mono fun _ _ h => ⟨_, h.1, h.2.below, rfl⟩)) ?_
      refine .on rfl (fun a w hS hI hp => does_val (x_not rfl (hp.V 1 rfl rfl)) rfl) ?_
      refine .mv 2 rfl rfl rfl rfl ?_
      refine .oy 3 10 rfl rfl rfl rfl rfl ((congrArg (!·) c1)) (fun a w hS hI hp => does_val (x_move rfl (hS.get 2 rfl)) rfl) ?_
      refine .oy 3 10 rfl rfl rfl rfl rfl ((congrArg (!·) c1)) (fun a w hS hI hp => does_val (x_lenS rfl (by kernel_rfl) (hp.V 4 rfl rfl)) rfl) ?_
      refine .oy 3 10 rfl rfl rfl rfl rfl ((congrArg (!·) c1)) (fun a w hS hI hp => does_val (x_bin rfl (hp.V 5 rfl rfl) (rfl) (b_gtr _ _ _ _ _ _)) rfl) ?_
      refine .on rfl (fun a w hS hI hp => does_val (x_pickF rfl ((hp.V 3 rfl rfl).trans (bF (congrArg (!·) c1))) (hp.V 6 rfl rfl)) rfl) ?_
      exact .nil
    clear hS
    intro at8 w9 hS hI hp
    have hBw9_w := hI.1
    have hBw9_w3 := hI.2
    have hv14 : sl _ 14 = .bool (decide ((a1.size : Int) > 400)) := hp 7 (by decide)
    have hBw9_w9 := Below.refl w9.heap.size w9
    have hS := hS.cons hv14
    clear hp hI hv14
    refine hK6 _ _ ?_
    (try clear hK6 K6)
    refine wp_cond_false ((hS.get 0 rfl).trans (bF (decide_eq_false c2))) ?_
    refine wp_skip ?_
    refine hK5 _ _ ?_
    (try clear hK5 K5)
    refine wp_seq_k (fun K10 hK10 => ?_)
    refine reg_seq_tail 3 (N := 39) (bs := [(14, .bool (decide ((a1.size : Int) > 400))), (4, .pointer (some ⟨g4, 0, none⟩)), (0, .int .i64 a0), (1, .string a1)]) (I := fun x => Below w.heap.size w x ∧ Below w3.heap.size w3 x ∧ Below w9.heap.size w9 x) (ps := [VI a0, IsR (Kd.int .u8) 5 w9.heap.size t11, IsV (.string a1)]) (by kernel_rfl) ?_ ?_ rfl hS ⟨hBw9_w, hBw9_w3, hBw9_w9⟩ ?_ ?_
    · exact fun x y hI hb => ⟨below_step hI.1 hb, below_step hI.2.1 hb, below_step hI.2.2 hb⟩
    · exact .v (.cons (Stays.r _ _ _ _) (.v (.nil)))
    · refine .ms 2 rfl rfl rfl ?_
      refine .on rfl (fun a w hS hI hp => does_call (by kernel_rfl) (ar3 (rfl) (hp.V 0 rfl rfl) (rfl)) ((octets_Put.calls _ _ [] a0 2 t11 _ (Kd.C_nil _ _) (Nat.le_refl _) At11).mono fun _ _ h => h.elim fun v0 h => ⟨v0, h.1, h.2.2, Kd.R_lower h.2.1 hI.2.2.size⟩)) ?_
      refine .ms 3 rfl rfl rfl ?_
      exact .nil
    clear hS
    intro at12 w13 hS hI hp
    have hBw13_w := hI.1
    have hBw13_w3 := hI.2.1
    have hBw13_w9 := hI.2.2
    replace hS := (hS.nil).cons (hS.get 1 rfl)
    obtain ⟨A14, C14, hv17, hl14, hc14⟩ := Kd.R_reads (show Kd.R (Kd.int .u8) 5 w13 w9.heap.size (fun _ => True) (sl _ 17) t11 from hp 1 (by decide))
    have ho14 : Kd.R (Kd.int .u8) 5 w13 w9.heap.size (fun _ => True) (.slice A14 t11.length C14) t11 := hv17 ▸ (hp 1 (by decide))
    have hv18 : sl _ 18 = .string a1 := hp 2 (by decide)
    have hBw13_w13 := Below.refl w13.heap.size w13
    have hS := hS.cons hv17
    have hS := hS.cons hv18
    clear hp hI hv17 hv18
    show wpList _ _ _ [_, _] _ _
    refine list_step rfl (does_moreS (W := w9) (.tmp 17) (.tmp 18) 31 9 5 rfl (by kernel_rfl) (by kernel_rfl) (by kernel_rfl) _ t11 a1 (hS.get 1 rfl) (hS.get 0 rfl) (Kd.R_below ho14 hBw13_w13) (hBw13_w9) c3) ?_
    rintro vw15 w15 ⟨hb, hr, hk⟩
    clear hk
    have hBw15_w := below_step hBw9_w hb
    have hBw15_w3 := below_step hBw9_w3 hb
    have hBw15_w9 := hb
    replace hS := ((hS.nil).cons (hS.get 2 rfl)).cons (hS.get 0 rfl)
    have hBw15_w15 := Below.refl w15.heap.size w15
    obtain ⟨A16, C16, rfl, hl16, hc16⟩ := Kd.R_reads hr
    have hr16 := hr
    clear hr
    refine hS.next (v := .slice A16 ((t11 ++ bytesOf a1 : List Int).length) C16) (d := 19) rfl (by decide) (by rfl) ?_
    clear hS
    intro at17 hS
    refine list_step rfl (R := fun v w' => Below _ _ w' ∧ (IsV (.slice A16 ((t11 ++ bytesOf a1 : List Int).length) C16)) v w') (does_val (x_assign rfl (hS.get 0 rfl)) rfl) ?_
    rintro vw18 w18 ⟨hb, he⟩
    have hBw18_w := below_step hBw15_w hb
    have hBw18_w3 := below_step hBw15_w3 hb
    have hBw18_w9 := below_step hBw15_w9 hb
    have hBw18_w15 := below_step hBw15_w15 hb
    have hBw18_w18 := Below.refl w18.heap.size w18
    obtain rfl : vw18 = .slice A16 ((t11 ++ bytesOf a1 : List Int).length) C16 := he
    refine hS.next (v := .slice A16 ((t11 ++ bytesOf a1 : List Int).length) C16) (d := 6) rfl (by decide) (by rfl) ?_
    clear hS
    intro at19 hS
    refine wpList_nil ?_
    refine hK10 _ _ ?_
    (try clear hK10 K10)
    refine wp_seq_k (fun K20 hK20 => ?_)
    refine wp_seq_k (fun K21 hK21 => ?_)
    refine reg_seq (N := 39) (bs := [(6, .slice A16 ((t11 ++ bytesOf a1 : List Int).length) C16), (19, .slice A16 ((t11 ++ bytesOf a1 : List Int).length) C16), (18, .string a1), (4, .pointer (some ⟨g4, 0, none⟩))]) (I := fun x => Below w.heap.size w x ∧ Below w3.heap.size w3 x ∧ Below w9.heap.size w9 x ∧ Below w15.heap.size w15 x ∧ Below w18.heap.size w18 x) (ps := [IsV (.slice A16 ((t11 ++ bytesOf a1 : List Int).length) C16), VI ((t11 ++ bytesOf a1 : List Int).length : Int), VI (Int.tmod ((t11 ++ bytesOf a1 : List Int).length : Int) 2), VB (!decide ((Int.tmod ((t11 ++ bytesOf a1 : List Int).length : Int) 2) = 0))]) (by kernel_rfl) ?_ ?_ rfl hS ⟨hBw18_w, hBw18_w3, hBw18_w9, hBw18_w15, hBw18_w18⟩ ?_ ?_
    · exact fun x y hI hb => ⟨below_step hI.1 hb, below_step hI.2.1 hb, below_step hI.2.2.1 hb, below_step hI.2.2.2.1 hb, below_step hI.2.2.2.2 hb⟩
    · exact .v (.v (.v (.v (.nil))))
    · refine .ms 0 rfl rfl rfl ?_
      refine .on rfl (fun a w hS hI hp => does_val (x_len (e := 5) rfl (by kernel_rfl) (hp.V 0 rfl rfl)) rfl) ?_
      refine .on rfl (fun a w hS hI hp => does_val (x_bin rfl (hp.V 1 rfl rfl) (rfl) (b_rem _ _ _ _ _ _ (by decide))) rfl) ?_
      refine .on rfl (fun a w hS hI hp => does_val (x_bin rfl (hp.V 2 rfl rfl) (rfl) (b_neq _ _ _ _ _ _)) rfl) ?_
      exact .nil
    clear hS
    intro at22 w23 hS hI hp
    have hBw23_w := hI.1
    have hBw23_w3 := hI.2.1
    have hBw23_w9 := hI.2.2.1
    have hBw23_w15 := hI.2.2.2.1
    have hBw23_w18 := hI.2.2.2.2
    replace hS := ((hS.nil).cons (hS.get 3 rfl)).cons (hS.get 0 rfl)
    have hv23 : sl _ 23 = .bool (!decide ((Int.tmod ((t11 ++ bytesOf a1 : List Int).length : Int) 2) = 0)) := hp 3 (by decide)
    have hBw23_w23 := Below.refl w23.heap.size w23
    have hS := hS.cons hv23
    clear hp hI hv23
    refine hK21 _ _ ?_
    (try clear hK21 K21)
    refine wp_cond_false ((hS.get 0 rfl).trans (bF (congrArg (!·) (decide_eq_true c4)))) ?_
    refine wp_skip ?_
    refine hK20 _ _ ?_
    (try clear hK20 K20)
    refine wp_seq_k (fun K24 hK24 => ?_)
    refine wp_seq_k (fun K25 hK25 => ?_)
    refine reg_seq (N := 39) (bs := [(23, .bool (!decide ((Int.tmod ((t11 ++ bytesOf a1 : List Int).length : Int) 2) = 0))), (6, .slice A16 ((t11 ++ bytesOf a1 : List Int).length) C16), (4, .pointer (some ⟨g4, 0, none⟩))]) (I := fun x => Below w.heap.size w x ∧ Below w3.heap.size w3 x ∧ Below w9.heap.size w9 x ∧ Below w15.heap.size w15 x ∧ Below w23.heap.size w23 x) (ps := [IsV (.slice A16 ((t11 ++ bytesOf a1 : List Int).length) C16), VI ((t11 ++ bytesOf a1 : List Int).length : Int), VB (decide (((t11 ++ bytesOf a1 : List Int).length : Int) > 400))]) (by kernel_rfl) ?_ ?_ rfl hS ⟨hBw23_w, hBw23_w3, hBw23_w9, hBw23_w15, hBw23_w23⟩ ?_ ?_
    · exact fun x y hI hb => ⟨below_step hI.1 hb, below_step hI.2.1 hb, below_step hI.2.2.1 hb, below_step hI.2.2.2.1 hb, below_step hI.2.2.2.2 hb⟩
    · exact .v (.v (.v (.nil)))
    · refine .ms 1 rfl rfl rfl ?_
      refine .on rfl (fun a w hS hI hp => does_val (x_len (e := 5) rfl (by kernel_rfl) (hp.V 0 rfl rfl)) rfl) ?_
      refine .on rfl (fun a w hS hI hp => does_val (x_bin rfl (hp.V 1 rfl rfl) (rfl) (b_gtr _ _ _ _ _ _)) rfl) ?_
      exact .nil
    clear hS
    intro at26 w27 hS hI hp
    have hBw27_w := hI.1
    have hBw27_w3 := hI.2.1
    have hBw27_w9 := hI.2.2.1
    have hBw27_w15 := hI.2.2.2.1
    have hBw27_w23 := hI.2.2.2.2
    replace hS := ((hS.nil).cons (hS.get 2 rfl)).cons (hS.get 1 rfl)
    have hv34 : sl _ 34 = .bool (decide (((t11 ++ bytesOf a1 : List Int).length : Int) > 400)) := hp 2 (by decide)
    have hBw27_w27 := Below.refl w27.heap.size w27
    have hS := hS.cons hv34
    clear hp hI hv34
    refine hK25 _ _ ?_
    (try clear hK25 K25)
    refine wp_cond_false ((hS.get 0 rfl).trans (bF (decide_eq_false c5))) ?_
    refine wp_skip ?_
    refine hK24 _ _ ?_
    (try clear hK24 K24)
    refine wp_seq_k (fun K28 hK28 => ?_)
    refine reg_seq_tail 3 (N := 39) (bs := [(34, .bool (decide (((t11 ++ bytesOf a1 : List Int).length : Int) > 400))), (6, .slice A16 ((t11 ++ bytesOf a1 : List Int).length) C16), (4, .pointer (some ⟨g4, 0, none⟩))]) (I := fun x => Below w.heap.size w x ∧ Below w3.heap.size w3 x ∧ Below w9.heap.size w9 x ∧ Below w15.heap.size w15 x ∧ Below w27.heap.size w27 x) (ps := [IsV (.slice A16 ((t11 ++ bytesOf a1 : List Int).length) C16), IsV (.string (strOfNums (t11 ++ bytesOf a1 : List Int))), IsV (.agg #[.int .i64 1, .string (strOfNums (t11 ++ bytesOf a1 : List Int))])]) (by kernel_rfl) ?_ ?_ rfl hS ⟨hBw27_w, hBw27_w3, hBw27_w9, hBw27_w15, hBw27_w27⟩ ?_ ?_
    · exact fun x y hI hb => ⟨below_step hI.1 hb, below_step hI.2.1 hb, below_step hI.2.2.1 hb, below_step hI.2.2.2.1 hb, below_step hI.2.2.2.2 hb⟩
    · exact .v (.v (.v (.nil)))
    · refine .ms 1 rfl rfl rfl ?_
      refine .on rfl (fun a w hS hI hp => does_val (x_conv rfl (hp.V 0 rfl rfl) (Kd.C_string (by kernel_rfl) (e := 5) (by kernel_rfl) (by kernel_rfl) (Kd.C_below hc16 hI.2.2.2.1))) rfl) ?_
      refine .on rfl (fun a w hS hI hp => does_val (x_build (vs := [(0, .int .i64 1), (1, .string (strOfNums (t11 ++ bytesOf a1 : List Int)))]) rfl (by rw [Array.toList_map]; exact (show [(0, a.eval (.const (.int .i64 1))), (1, a.eval (.tmp 37))] = _ from (li_cons (rfl) (li_cons (hp.V 1 rfl rfl) rfl)))) (by kernel_rfl)) rfl) ?_
      exact .nil
    clear hS
    intro at29 w30 hS hI hp
    have hBw30_w := hI.1
    have hBw30_w3 := hI.2.1
    have hBw30_w9 := hI.2.2.1
    have hBw30_w15 := hI.2.2.2.1
    have hBw30_w27 := hI.2.2.2.2
    replace hS := (hS.nil).cons (hS.get 2 rfl)
    have hv38 : sl _ 38 = .agg #[.int .i64 1, .string (strOfNums (t11 ++ bytesOf a1 : List Int))] := hp 2 (by decide)
    have hBw30_w30 := Below.refl w30.heap.size w30
    have hS := hS.cons hv38
    clear hp hI hv38
    show wpList _ _ _ [_, _] _ _
    refine list_step rfl (does_storeAll (g := g4) (cs := #[.int .i64 1, .string (strOfNums (t11 ++ bytesOf a1 : List Int))]) rfl (hS.get 1 rfl) (hS.get 0 rfl) ((hBw30_w3.block g4 (blk_lt hbxg4)).trans hbxg4) (by kernel_rfl) (by kernel_rfl) (by kernel_rfl)) ?_
    rintro vw31 w31 ⟨rfl, hbxw31, hT⟩
    have hBw31_w := hT.below hBw30_w hgeg4 (hBw30_w).size
    have hBw31_w31 := Below.refl w31.heap.size w31
    clear hT
    refine list_step rfl (R := fun v w' => Below _ _ w' ∧ (VB true) v w') (does_val (x_assign rfl (rfl)) rfl) ?_
    rintro vw32 w32 ⟨hb, he⟩
    have hBw32_w := below_step hBw31_w hb
    have hBw32_w31 := below_step hBw31_w31 hb
    have hBw32_w32 := Below.refl w32.heap.size w32
    obtain rfl : vw32 = .bool true := he
    refine hS.next (v := .bool true) (d := 5) rfl (by decide) (by rfl) ?_
    clear hS
    intro at33 hS
    refine wpList_nil ?_
    refine hK28 _ _ ?_
    (try clear hK28 K28)
    refine wp_ret ?_
    (try simp only [Exit.then, Exit.inBlock, Exit.jump, Exit.noGoto])
    exact bodyPost_ret (v := .tuple #[.agg #[.int .i64 1, .string (strOfNums (t11 ++ bytesOf a1 : List Int))], .bool true]) (results_list (rs := [.cell 4 26, .tmp 5]) rfl (by simp) (Vals.cell g4 26 #[.int .i64 1, .string (strOfNums (t11 ++ bytesOf a1 : List Int))] (0, 0) _ (hS.get 2 rfl) ((hBw32_w31.block g4 (blk_lt hbxw31)).trans hbxw31) Try.underlying26 rfl (by kernel_rfl) (Vals.at (hS.get 0 rfl) .nil))) hS.nodef ⟨rfl, hBw32_w⟩
  rw [if_neg c4] at H
  by_cases c5 : ((t11 ++ bytesOf a1 : List Int).length + [0].length) * 1 ≤ 140737488355328
  rotate_left
  · rw [if_neg c5] at H
    exact absurd H (by simp)
  rw [if_pos c5] at H
  by_cases c6 : (((t11 ++ bytesOf a1 : List Int) ++ [0] : List Int).length : Int) > 400
  · rw [if_pos c6] at H
    simp only [Option.some.injEq, Prod.mk.injEq] at H
    obtain ⟨rfl, rfl, rfl⟩ := H
    refine calls_of_wp (fn := Try.f27) (by kernel_rfl) rfl ?_
    have hS := St.enter #[.int .i64 a0, .string a1] 39 (by simp) [(0, .int .i64 a0), (1, .string a1)] (by simp)
    have HB0 := Below.refl w.heap.size w
    refine wp_seq_k (fun K1 hK1 => ?_)
    refine reg_seq (N := 39) (bs := [(0, .int .i64 a0), (1, .string a1)]) (I := fun x => Below w.heap.size w x) (ps := [IsB #[.int .i64 0, .string (⟨#[]⟩ : ByteArray)] 26 w.heap.size, VB false]) (by kernel_rfl) ?_ ?_ rfl hS HB0 ?_ ?_
    · exact fun x y hI hb => below_step hI hb
    · exact .cons (Stays.b _ _ _) (.v (.nil))
    · refine .on rfl (fun a w hS hI hp => does_var (x_alloc rfl (by kernel_rfl)) (hI).size) ?_
      refine .on rfl (fun a w hS hI hp => does_val (x_assign rfl (rfl)) rfl) ?_
      exact .nil
    clear hS
    intro at2 w3 hS hI hp
    have hBw3_w := hI
    obtain ⟨g4, hv4, hgeg4, hbxg4⟩ := (show IsB _ 26 _ (sl _ 4) _ from hp 0 (by decide))
    have hBw3_w3 := Below.refl w3.heap.size w3
    have hS := hS.cons hv4
    clear hp hI hv4
    refine hK1 _ _ ?_
    (try clear hK1 K1)
    refine wp_seq_k (fun K5 hK5 => ?_)
    refine wp_seq_k (fun K6 hK6 => ?_)
    refine reg_seq (N := 39) (bs := [(4, .pointer (some ⟨g4, 0, none⟩)), (0, .int .i64 a0), (1, .string a1)]) (I := fun x => Below w.heap.size w x ∧ Below w3.heap.size w3 x) (ps := [VI a0, VB t7, VB (!t7), VB (!t7), IsV (.string a1), VI (a1.size : Int), VB (decide ((a1.size : Int) > 400)), VB (decide ((a1.size : Int) > 400))]) (by kernel_rfl) ?_ ?_ rfl hS ⟨hBw3_w, hBw3_w3⟩ ?_ ?_
    · exact fun x y hI hb => ⟨below_step hI.1 hb, below_step hI.2 hb⟩
    · exact .v (.v (.v (.v (.v (.v (.v (.v (.nil))))))))
    · refine .ms 1 rfl rfl rfl ?_
      refine .on rfl (fun a w hS hI hp => does_call (by kernel_rfl) (ar3 (hp.V 0 rfl rfl) (rfl) (rfl)) ((tlv_in.calls a0 0 65535 t7 _  At7).mono fun _ _ h => ⟨_, h.1, h.2.below, rfl⟩)) ?_
      refine .on rfl (fun a w hS hI hp => does_val (x_not rfl (hp.V 1 rfl rfl)) rfl) ?_
      refine .mv 2 rfl rfl rfl rfl ?_
      refine .oy 3 10 rfl rfl rfl rfl rfl ((congrArg (!·) c1)) (fun a w hS hI hp => does_val (x_move rfl (hS.get 2 rfl)) rfl) ?_
      refine .oy 3 10 rfl rfl rfl rfl rfl ((congrArg (!·) c1)) (fun a w hS hI hp => does_val (x_lenS rfl (by kernel_rfl) (hp.V 4 rfl rfl)) rfl) ?_
      refine .oy 3 10 rfl rfl rfl rfl rfl ((congrArg (!·) c1)) (fun a w hS hI hp => does_val (x_bin rfl (hp.V 5 rfl rfl) (rfl) (b_gtr _ _ _ _ _ _)) rfl) ?_
      refine .on rfl (fun a w hS hI hp => does_val (x_pickF rfl ((hp.V 3 rfl rfl).trans (bF (congrArg (!·) c1))) (hp.V 6 rfl rfl)) rfl) ?_
      exact .nil
    clear hS
    intro at8 w9 hS hI hp
    have hBw9_w := hI.1
    have hBw9_w3 := hI.2
    have hv14 : sl _ 14 = .bool (decide ((a1.size : Int) > 400)) := hp 7 (by decide)
    have hBw9_w9 := Below.refl w9.heap.size w9
    have hS := hS.cons hv14
    clear hp hI hv14
    refine hK6 _ _ ?_
    (try clear hK6 K6)
    refine wp_cond_false ((hS.get 0 rfl).trans (bF (decide_eq_false c2))) ?_
    refine wp_skip ?_
    refine hK5 _ _ ?_
    (try clear hK5 K5)
    refine wp_seq_k (fun K10 hK10 => ?_)
    refine reg_seq_tail 3 (N := 39) (bs := [(14, .bool (decide ((a1.size : Int) > 400))), (4, .pointer (some ⟨g4, 0, none⟩)), (0, .int .i64 a0), (1, .string a1)]) (I := fun x => Below w.heap.size w x ∧ Below w3.heap.size w3 x ∧ Below w9.heap.size w9 x) (ps := [VI a0, IsR (Kd.int .u8) 5 w9.heap.size t11, IsV (.string a1)]) (by kernel_rfl) ?_ ?_ rfl hS ⟨hBw9_w, hBw9_w3, hBw9_w9⟩ ?_ ?_
    · exact fun x y hI hb => ⟨below_step hI.1 hb, below_step hI.2.1 hb, below_step hI.2.2 hb⟩
    · exact .v (.cons (Stays.r _ _ _ _) (.v (.nil)))
    · refine .ms 2 rfl rfl rfl ?_
      refine .on rfl (fun a w hS hI hp => does_call (by kernel_rfl) (ar3 (rfl) (hp.V 0 rfl rfl) (rfl)) ((octets_Put.calls _ _ [] a0 2 t11 _ (Kd.C_nil _ _) (Nat.le_refl _) At11).mono fun _ _ h => h.elim fun v0 h => ⟨v0, h.1, h.2.2, Kd.R_lower h.2.1 hI.2.2.size⟩)) ?_
      refine .ms 3 rfl rfl rfl ?_
      exact .nil
    clear hS
    intro at12 w13 hS hI hp
    have hBw13_w := hI.1
    have hBw13_w3 := hI.2.1
    have hBw13_w9 := hI.2.2
    replace hS := (hS.nil).cons (hS.get 1 rfl)
    obtain ⟨A14, C14, hv17, hl14, hc14⟩ := Kd.R_reads (show Kd.R (Kd.int .u8) 5 w13 w9.heap.size (fun _ => True) (sl _ 17) t11 from hp 1 (by decide))
    have ho14 : Kd.R (Kd.int .u8) 5 w13 w9.heap.size (fun _ => True) (.slice A14 t11.length C14) t11 := hv17 ▸ (hp 1 (by decide))
    have hv18 : sl _ 18 = .string a1 := hp 2 (by decide)
    have hBw13_w13 := Below.refl w13.heap.size w13
    have hS := hS.cons hv17
    have hS := hS.cons hv18
    clear hp hI hv17 hv18
    show wpList _ _ _ [_, _] _ _
    refine list_step rfl (does_moreS (W := w9) (.tmp 17) (.tmp 18) 31 9 5 rfl (by kernel_rfl) (by kernel_rfl) (by kernel_rfl) _ t11 a1 (hS.get 1 rfl) (hS.get 0 rfl) (Kd.R_below ho14 hBw13_w13) (hBw13_w9) c3) ?_
    rintro vw15 w15 ⟨hb, hr, hk⟩
    clear hk
    have hBw15_w := below_step hBw9_w hb
    have hBw15_w3 := below_step hBw9_w3 hb
    have hBw15_w9 := hb
    replace hS := ((hS.nil).cons (hS.get 2 rfl)).cons (hS.get 0 rfl)
    have hBw15_w15 := Below.refl w15.heap.size w15
    obtain ⟨A16, C16, rfl, hl16, hc16⟩ := Kd.R_reads hr
    have hr16 := hr
    clear hr
    refine hS.next (v := .slice A16 ((t11 ++ bytesOf a1 : List Int).length) C16) (d := 19) rfl (by decide) (by rfl) ?_
    clear hS
    intro at17 hS
    refine list_step rfl (R := fun v w' => Below _ _ w' ∧ (IsV (.slice A16 ((t11 ++ bytesOf a1 : List Int).length) C16)) v w') (does_val (x_assign rfl (hS.get 0 rfl)) rfl) ?_
    rintro vw18 w18 ⟨hb, he⟩
    have hBw18_w := below_step hBw15_w hb
    have hBw18_w3 := below_step hBw15_w3 hb
    have hBw18_w9 := below_step hBw15_w9 hb
    have hBw18_w15 := below_step hBw15_w15 hb
    have hBw18_w18 := Below.refl w18.heap.size w18
    obtain rfl : vw18 = .slice A16 ((t11 ++ bytesOf a1 : List Int).length) C16 := he
    refine hS.next (v := .slice A16 ((t11 ++ bytesOf a1 : List Int).length) C16) (d := 6) rfl (by decide) (by rfl) ?_
    clear hS
    intro at19 hS
    refine wpList_nil ?_
    refine hK10 _ _ ?_
    (try clear hK10 K10)
    refine wp_seq_k (fun K20 hK20 => ?_)
    refine wp_seq_k (fun K21 hK21 => ?_)
    refine reg_seq (N := 39) (bs := [(6, .slice A16 ((t11 ++ bytesOf a1 : List Int).length) C16), (19, .slice A16 ((t11 ++ bytesOf a1 : List Int).length) C16), (18, .string a1), (4, .pointer (some ⟨g4, 0, none⟩))]) (I := fun x => Below w.heap.size w x ∧ Below w3.heap.size w3 x ∧ Below w9.heap.size w9 x ∧ Below w15.heap.size w15 x ∧ Below w18.heap.size w18 x) (ps := [IsV (.slice A16 ((t11 ++ bytesOf a1 : List Int).length) C16), VI ((t11 ++ bytesOf a1 : List Int).length : Int), VI (Int.tmod ((t11 ++ bytesOf a1 : List Int).length : Int) 2), VB (!decide ((Int.tmod ((t11 ++ bytesOf a1 : List Int).length : Int) 2) = 0))]) (by kernel_rfl) ?_ ?_ rfl hS ⟨hBw18_w, hBw18_w3, hBw18_w9, hBw18_w15, hBw18_w18⟩ ?_ ?_
    · exact fun x y hI hb => ⟨below_step hI.1 hb, below_step hI.2.1 hb, below_step hI.2.2.1 hb, below_step hI.2.2.2.1 hb, below_step hI.2.2.2.2 hb⟩
    · exact .v (.v (.v (.v (.nil))))
    · refine .ms 0 rfl rfl rfl ?_
      refine .on rfl (fun a w hS hI hp => does_val (x_len (e := 5) rfl (by kernel_rfl) (hp.V 0 rfl rfl)) rfl) ?_
      refine .on rfl (fun a w hS hI hp => does_val (x_bin rfl (hp.V 1 rfl rfl) (rfl) (b_rem _ _ _ _ _ _ (by decide))) rfl) ?_
      refine .on rfl (fun a w hS hI hp => does_val (x_bin rfl (hp.V 2 rfl rfl) (rfl) (b_neq _ _ _ _ _ _)) rfl) ?_
      exact .nil
    clear hS
    intro at22 w23 hS hI hp
    have hBw23_w := hI.1
    have hBw23_w3 := hI.2.1
    have hBw23_w9 := hI.2.2.1
    have hBw23_w15 := hI.2.2.2.1
    have hBw23_w18 := hI.2.2.2.2
    replace hS := ((hS.nil).cons (hS.get 3 rfl)).cons (hS.get 0 rfl)
    have hv23 : sl _ 23 = .bool (!decide ((Int.tmod ((t11 ++ bytesOf a1 : List Int).length : Int) 2) = 0)) := hp 3 (by decide)
    have hBw23_w23 := Below.refl w23.heap.size w23
    have hS := hS.cons hv23
    clear hp hI hv23
    refine hK21 _ _ ?_
    (try clear hK21 K21)
    refine wp_cond_true ((hS.get 0 rfl).trans (bT (congrArg (!·) (decide_eq_false c4)))) ?_
    refine reg_seq_tail 8 (N := 39) (bs := [(23, .bool (!decide ((Int.tmod ((t11 ++ bytesOf a1 : List Int).length : Int) 2) = 0))), (6, .slice A16 ((t11 ++ bytesOf a1 : List Int).length) C16), (4, .pointer (some ⟨g4, 0, none⟩))]) (I := fun x => Below w.heap.size w x ∧ Below w3.heap.size w3 x ∧ Below w9.heap.size w9 x ∧ Below w15.heap.size w15 x ∧ Below w23.heap.size w23 x) (ps := [IsV (.slice A16 ((t11 ++ bytesOf a1 : List Int).length) C16), IsV (.slice A16 ((t11 ++ bytesOf a1 : List Int).length) C16), VI ((t11 ++ bytesOf a1 : List Int).length : Int), IsV (.slice A16 ((t11 ++ bytesOf a1 : List Int).length) C16), VI ((t11 ++ bytesOf a1 : List Int).length : Int), IsV (.slice A16 ((t11 ++ bytesOf a1 : List Int).length) ((t11 ++ bytesOf a1 : List Int).length)), IsR (Kd.int .u8) 5 w23.heap.size [0], IsR (Kd.int .u8) 5 w23.heap.size ((t11 ++ bytesOf a1 : List Int) ++ [0] : List Int)]) (by kernel_rfl) ?_ ?_ rfl hS ⟨hBw23_w, hBw23_w3, hBw23_w9, hBw23_w15, hBw23_w23⟩ ?_ ?_
    · exact fun x y hI hb => ⟨below_step hI.1 hb, below_step hI.2.1 hb, below_step hI.2.2.1 hb, below_step hI.2.2.2.1 hb, below_step hI.2.2.2.2 hb⟩
    · exact .v (.v (.v (.v (.v (.v (.cons (Stays.r _ _ _ _) (.cons (Stays.r _ _ _ _) (.nil))))))))
    · refine .ms 1 rfl rfl rfl ?_
      refine .ms 1 rfl rfl rfl ?_
      refine .on rfl (fun a w hS hI hp => does_val (x_len (e := 5) rfl (by kernel_rfl) (hp.V 1 rfl rfl)) rfl) ?_
      refine .ms 1 rfl rfl rfl ?_
      refine .on rfl (fun a w hS hI hp => does_val (x_len (e := 5) rfl (by kernel_rfl) (hp.V 3 rfl rfl)) rfl) ?_
      refine .on rfl (fun a w hS hI hp => does_val (x_cutcap (e := 5) (n := (t11 ++ bytesOf a1 : List Int).length) (c := C16) (j := ((t11 ++ bytesOf a1 : List Int).length : Int)) (k := ((t11 ++ bytesOf a1 : List Int).length : Int)) rfl (by kernel_rfl) (by kernel_rfl) (hp.V 0 rfl rfl) (hp.V 2 rfl rfl) (hp.V 4 rfl rfl) (Int.natCast_nonneg _) (Int.le_refl _) (Int.ofNat_le.2 hl16)) rfl) ?_
      refine .on rfl (fun a w hS hI hp => does_lit w23.heap.size 31 5 1 _ [(0, .int .u8 0)] [0] rfl (by kernel_rfl) (by rw [Array.toList_map]; exact (show [(0, a.eval (.const (.int .u8 0)))] = _ from (li_cons (rfl) rfl))) (by kernel_rfl) rfl (hI.2.2.2.2).size (Nat.le_of_ble_eq_true rfl)) ?_
      refine .on rfl (fun a w hS hI hp => (IsC.of_r (hp.V 6 rfl rfl)).elim fun A_ h_ => h_.elim fun c_ h_ => h_.elim fun hv_ h_ => h_.elim fun hl_ hc_ => does_capped (B := w23.heap.size) (.tmp 29) (.tmp 30) 31 5 (.int .u8 0) 1 rfl (by kernel_rfl) (by kernel_rfl) rfl (by decide) (t11 ++ bytesOf a1 : List Int) [0] _ _ _ (hp.V 5 rfl rfl) hv_ (by decide) (Kd.C_below hc16 hI.2.2.2.1) (hc_) (hI.2.2.2.2).size c5) ?_
      exact .nil
    clear hS
    intro at24 w25 hS hI hp
    have hBw25_w := hI.1
    have hBw25_w3 := hI.2.1
    have hBw25_w9 := hI.2.2.1
    have hBw25_w15 := hI.2.2.2.1
    have hBw25_w23 := hI.2.2.2.2
    replace hS := ((hS.nil).cons (hS.get 2 rfl)).cons (hS.get 1 rfl)
    obtain ⟨A26, C26, hv31, hl26, hc26⟩ := Kd.R_reads (show Kd.R (Kd.int .u8) 5 w25 w23.heap.size (fun _ => True) (sl _ 31) ((t11 ++ bytesOf a1 : List Int) ++ [0] : List Int) from hp 7 (by decide))
    have ho26 : Kd.R (Kd.int .u8) 5 w25 w23.heap.size (fun _ => True) (.slice A26 ((t11 ++ bytesOf a1 : List Int) ++ [0] : List Int).length C26) ((t11 ++ bytesOf a1 : List Int) ++ [0] : List Int) := hv31 ▸ (hp 7 (by decide))
    have hBw25_w25 := Below.refl w25.heap.size w25
    have hS := hS.cons hv31
    clear hp hI hv31
    show wpList _ _ _ [_] _ _
    refine list_step rfl (R := fun v w' => Below _ _ w' ∧ (IsV (.slice A26 (((t11 ++ bytesOf a1 : List Int) ++ [0] : List Int).length) C26)) v w') (does_val (x_assign rfl (hS.get 0 rfl)) rfl) ?_
    rintro vw27 w27 ⟨hb, he⟩
    have hBw27_w := below_step hBw25_w hb
    have hBw27_w3 := below_step hBw25_w3 hb
    have hBw27_w9 := below_step hBw25_w9 hb
    have hBw27_w15 := below_step hBw25_w15 hb
    have hBw27_w23 := below_step hBw25_w23 hb
    have hBw27_w25 := below_step hBw25_w25 hb
    have hBw27_w27 := Below.refl w27.heap.size w27
    obtain rfl : vw27 = .slice A26 (((t11 ++ bytesOf a1 : List Int) ++ [0] : List Int).length) C26 := he
    replace hS := ((hS.nil).cons (hS.get 2 rfl)).cons (hS.get 0 rfl)
    refine hS.next (v := .slice A26 (((t11 ++ bytesOf a1 : List Int) ++ [0] : List Int).length) C26) (d := 6) rfl (by decide) (by rfl) ?_
    clear hS
    intro at28 hS
    refine wpList_nil ?_
    refine hK20 _ _ ?_
    (try clear hK20 K20)
    refine wp_seq_k (fun K29 hK29 => ?_)
    refine wp_seq_k (fun K30 hK30 => ?_)
    refine reg_seq (N := 39) (bs := [(6, .slice A26 (((t11 ++ bytesOf a1 : List Int) ++ [0] : List Int).length) C26), (31, .slice A26 (((t11 ++ bytesOf a1 : List Int) ++ [0] : List Int).length) C26), (4, .pointer (some ⟨g4, 0, none⟩))]) (I := fun x => Below w.heap.size w x ∧ Below w3.heap.size w3 x ∧ Below w23.heap.size w23 x ∧ Below w25.heap.size w25 x ∧ Below w27.heap.size w27 x) (ps := [IsV (.slice A26 (((t11 ++ bytesOf a1 : List Int) ++ [0] : List Int).length) C26), VI (((t11 ++ bytesOf a1 : List Int) ++ [0] : List Int).length : Int), VB (decide ((((t11 ++ bytesOf a1 : List Int) ++ [0] : List Int).length : Int) > 400))]) (by kernel_rfl) ?_ ?_ rfl hS ⟨hBw27_w, hBw27_w3, hBw27_w23, hBw27_w25, hBw27_w27⟩ ?_ ?_
    · exact fun x y hI hb => ⟨below_step hI.1 hb, below_step hI.2.1 hb, below_step hI.2.2.1 hb, below_step hI.2.2.2.1 hb, below_step hI.2.2.2.2 hb⟩
    · exact .v (.v (.v (.nil)))
    · refine .ms 0 rfl rfl rfl ?_
      refine .on rfl (fun a w hS hI hp => does_val (x_len (e := 5) rfl (by kernel_rfl) (hp.V 0 rfl rfl)) rfl) ?_
      refine .on rfl (fun a w hS hI hp => does_val (x_bin rfl (hp.V 1 rfl rfl) (rfl) (b_gtr _ _ _ _ _ _)) rfl) ?_
      exact .nil
    clear hS
    intro at31 w32 hS hI hp
    have hBw32_w := hI.1
    have hBw32_w3 := hI.2.1
    have hBw32_w23 := hI.2.2.1
    have hBw32_w25 := hI.2.2.2.1
    have hBw32_w27 := hI.2.2.2.2
    replace hS := ((hS.nil).cons (hS.get 2 rfl)).cons (hS.get 0 rfl)
    have hv34 : sl _ 34 = .bool (decide ((((t11 ++ bytesOf a1 : List Int) ++ [0] : List Int).length : Int) > 400)) := hp 2 (by decide)
    have hBw32_w32 := Below.refl w32.heap.size w32
    have hS := hS.cons hv34
    clear hp hI hv34
    refine hK30 _ _ ?_
    (try clear hK30 K30)
    refine wp_cond_true ((hS.get 0 rfl).trans (bT (decide_eq_true c6))) ?_
    refine wp_seq_k (fun K33 hK33 => ?_)
    refine reg_seq_tail 1 (N := 39) (bs := [(34, .bool (decide ((((t11 ++ bytesOf a1 : List Int) ++ [0] : List Int).length : Int) > 400))), (6, .slice A26 (((t11 ++ bytesOf a1 : List Int) ++ [0] : List Int).length) C26), (4, .pointer (some ⟨g4, 0, none⟩))]) (I := fun x => Below w.heap.size w x ∧ Below w3.heap.size w3 x ∧ Below w23.heap.size w23 x ∧ Below w25.heap.size w25 x ∧ Below w32.heap.size w32 x) (ps := [IsV (.agg #[.int .i64 0, .string (⟨#[]⟩ : ByteArray)])]) (by kernel_rfl) ?_ ?_ rfl hS ⟨hBw32_w, hBw32_w3, hBw32_w23, hBw32_w25, hBw32_w32⟩ ?_ ?_
    · exact fun x y hI hb => ⟨below_step hI.1 hb, below_step hI.2.1 hb, below_step hI.2.2.1 hb, below_step hI.2.2.2.1 hb, below_step hI.2.2.2.2 hb⟩
    · exact .v (.nil)
    · refine .on rfl (fun a w hS hI hp => does_val (x_build (vs := []) rfl (by rw [Array.toList_map]; exact (show [] = _ from rfl)) (by kernel_rfl)) rfl) ?_
      exact .nil
    clear hS
    intro at34 w35 hS hI hp
    have hBw35_w := hI.1
    have hBw35_w3 := hI.2.1
    have hBw35_w23 := hI.2.2.1
    have hBw35_w25 := hI.2.2.2.1
    have hBw35_w32 := hI.2.2.2.2
    replace hS := (hS.nil).cons (hS.get 2 rfl)
    have hv35 : sl _ 35 = .agg #[.int .i64 0, .string (⟨#[]⟩ : ByteArray)] := hp 0 (by decide)
    have hBw35_w35 := Below.refl w35.heap.size w35
    have hS := hS.cons hv35
    clear hp hI hv35
    show wpList _ _ _ [_, _] _ _
    refine list_step rfl (does_storeAll (g := g4) (cs := #[.int .i64 0, .string (⟨#[]⟩ : ByteArray)]) rfl (hS.get 1 rfl) (hS.get 0 rfl) ((hBw35_w3.block g4 (blk_lt hbxg4)).trans hbxg4) (by kernel_rfl) (by kernel_rfl) (by kernel_rfl)) ?_
    rintro vw36 w36 ⟨rfl, hbxw36, hT⟩
    have hBw36_w := hT.below hBw35_w hgeg4 (hBw35_w).size
    have hBw36_w36 := Below.refl w36.heap.size w36
    clear hT
    refine list_step rfl (R := fun v w' => Below _ _ w' ∧ (VB false) v w') (does_val (x_assign rfl (rfl)) rfl) ?_
    rintro vw37 w37 ⟨hb, he⟩
    have hBw37_w := below_step hBw36_w hb
    have hBw37_w36 := below_step hBw36_w36 hb
    have hBw37_w37 := Below.refl w37.heap.size w37
    obtain rfl : vw37 = .bool false := he
    refine hS.next (v := .bool false) (d := 5) rfl (by decide) (by rfl) ?_
    clear hS
    intro at38 hS
    refine wpList_nil ?_
    refine hK33 _ _ ?_
    (try clear hK33 K33)
    refine wp_ret ?_
    (try simp only [Exit.then, Exit.inBlock, Exit.jump, Exit.noGoto])
    exact bodyPost_ret (v := .tuple #[.agg #[.int .i64 0, .string (⟨#[]⟩ : ByteArray)], .bool false]) (results_list (rs := [.cell 4 26, .tmp 5]) rfl (by simp) (Vals.cell g4 26 #[.int .i64 0, .string (⟨#[]⟩ : ByteArray)] (0, 0) _ (hS.get 2 rfl) ((hBw37_w36.block g4 (blk_lt hbxw36)).trans hbxw36) Try.underlying26 rfl (by kernel_rfl) (Vals.at (hS.get 0 rfl) .nil))) hS.nodef ⟨rfl, hBw37_w⟩
  rw [if_neg c6] at H
  simp only [Option.some.injEq, Prod.mk.injEq] at H
  obtain ⟨rfl, rfl, rfl⟩ := H
  refine calls_of_wp (fn := Try.f27) (by kernel_rfl) rfl ?_
  have hS := St.enter #[.int .i64 a0, .string a1] 39 (by simp) [(0, .int .i64 a0), (1, .string a1)] (by simp)
  have HB0 := Below.refl w.heap.size w
  refine wp_seq_k (fun K1 hK1 => ?_)
  refine reg_seq (N := 39) (bs := [(0, .int .i64 a0), (1, .string a1)]) (I := fun x => Below w.heap.size w x) (ps := [IsB #[.int .i64 0, .string (⟨#[]⟩ : ByteArray)] 26 w.heap.size, VB false]) (by kernel_rfl) ?_ ?_ rfl hS HB0 ?_ ?_
  · exact fun x y hI hb => below_step hI hb
  · exact .cons (Stays.b _ _ _) (.v (.nil))
  · refine .on rfl (fun a w hS hI hp => does_var (x_alloc rfl (by kernel_rfl)) (hI).size) ?_
    refine .on rfl (fun a w hS hI hp => does_val (x_assign rfl (rfl)) rfl) ?_
    exact .nil
  clear hS
  intro at2 w3 hS hI hp
  have hBw3_w := hI
  obtain ⟨g4, hv4, hgeg4, hbxg4⟩ := (show IsB _ 26 _ (sl _ 4) _ from hp 0 (by decide))
  have hBw3_w3 := Below.refl w3.heap.size w3
  have hS := hS.cons hv4
  clear hp hI hv4
  refine hK1 _ _ ?_
  (try clear hK1 K1)
  refine wp_seq_k (fun K5 hK5 => ?_)
  refine wp_seq_k (fun K6 hK6 => ?_)
  refine reg_seq (N := 39) (bs := [(4, .pointer (some ⟨g4, 0, none⟩)), (0, .int .i64 a0), (1, .string a1)]) (I := fun x => Below w.heap.size w x ∧ Below w3.heap.size w3 x) (ps := [VI a0, VB t7, VB (!t7), VB (!t7), IsV (.string a1), VI (a1.size : Int), VB (decide ((a1.size : Int) > 400)), VB (decide ((a1.size : Int) > 400))]) (by kernel_rfl) ?_ ?_ rfl hS ⟨hBw3_w, hBw3_w3⟩ ?_ ?_
  · exact fun x y hI hb => ⟨below_step hI.1 hb, below_step hI.2 hb⟩
  · exact .v (.v (.v (.v (.v (.v (.v (.v (.nil))))))))
  · refine .ms 1 rfl rfl rfl ?_
    refine .on rfl (fun a w hS hI hp => does_call (by kernel_rfl) (ar3 (hp.V 0 rfl rfl) (rfl) (rfl)) ((tlv_in.calls a0 0 65535 t7 _  At7).mono fun _ _ h => ⟨_, h.1, h.2.below, rfl⟩)) ?_
    refine .on rfl (fun a w hS hI hp => does_val (x_not rfl (hp.V 1 rfl rfl)) rfl) ?_
    refine .mv 2 rfl rfl rfl rfl ?_
    refine .oy 3 10 rfl rfl rfl rfl rfl ((congrArg (!·) c1)) (fun a w hS hI hp => does_val (x_move rfl (hS.get 2 rfl)) rfl) ?_
    refine .oy 3 10 rfl rfl rfl rfl rfl ((congrArg (!·) c1)) (fun a w hS hI hp => does_val (x_lenS rfl (by kernel_rfl) (hp.V 4 rfl rfl)) rfl) ?_
    refine .oy 3 10 rfl rfl rfl rfl rfl ((congrArg (!·) c1)) (fun a w hS hI hp => does_val (x_bin rfl (hp.V 5 rfl rfl) (rfl) (b_gtr _ _ _ _ _ _)) rfl) ?_
    refine .on rfl (fun a w hS hI hp => does_val (x_pickF rfl ((hp.V 3 rfl rfl).trans (bF (congrArg (!·) c1))) (hp.V 6 rfl rfl)) rfl) ?_
    exact .nil
  clear hS
  intro at8 w9 hS hI hp
  have hBw9_w := hI.1
  have hBw9_w3 := hI.2
  have hv14 : sl _ 14 = .bool (decide ((a1.size : Int) > 400)) := hp 7 (by decide)
  have hBw9_w9 := Below.refl w9.heap.size w9
  have hS := hS.cons hv14
  clear hp hI hv14
  refine hK6 _ _ ?_
  (try clear hK6 K6)
  refine wp_cond_false ((hS.get 0 rfl).trans (bF (decide_eq_false c2))) ?_
  refine wp_skip ?_
  refine hK5 _ _ ?_
  (try clear hK5 K5)
  refine wp_seq_k (fun K10 hK10 => ?_)
  refine reg_seq_tail 3 (N := 39) (bs := [(14, .bool (decide ((a1.size : Int) > 400))), (4, .pointer (some ⟨g4, 0, none⟩)), (0, .int .i64 a0), (1, .string a1)]) (I := fun x => Below w.heap.size w x ∧ Below w3.heap.size w3 x ∧ Below w9.heap.size w9 x) (ps := [VI a0, IsR (Kd.int .u8) 5 w9.heap.size t11, IsV (.string a1)]) (by kernel_rfl) ?_ ?_ rfl hS ⟨hBw9_w, hBw9_w3, hBw9_w9⟩ ?_ ?_
  · exact fun x y hI hb => ⟨below_step hI.1 hb, below_step hI.2.1 hb, below_step hI.2.2 hb⟩
  · exact .v (.cons (Stays.r _ _ _ _) (.v (.nil)))
  · refine .ms 2 rfl rfl rfl ?_
    refine .on rfl (fun a w hS hI hp => does_call (by kernel_rfl) (ar3 (rfl) (hp.V 0 rfl rfl) (rfl)) ((octets_Put.calls _ _ [] a0 2 t11 _ (Kd.C_nil _ _) (Nat.le_refl _) At11).mono fun _ _ h => h.elim fun v0 h => ⟨v0, h.1, h.2.2, Kd.R_lower h.2.1 hI.2.2.size⟩)) ?_
    refine .ms 3 rfl rfl rfl ?_
    exact .nil
  clear hS
  intro at12 w13 hS hI hp
  have hBw13_w := hI.1
  have hBw13_w3 := hI.2.1
  have hBw13_w9 := hI.2.2
  replace hS := (hS.nil).cons (hS.get 1 rfl)
  obtain ⟨A14, C14, hv17, hl14, hc14⟩ := Kd.R_reads (show Kd.R (Kd.int .u8) 5 w13 w9.heap.size (fun _ => True) (sl _ 17) t11 from hp 1 (by decide))
  have ho14 : Kd.R (Kd.int .u8) 5 w13 w9.heap.size (fun _ => True) (.slice A14 t11.length C14) t11 := hv17 ▸ (hp 1 (by decide))
  have hv18 : sl _ 18 = .string a1 := hp 2 (by decide)
  have hBw13_w13 := Below.refl w13.heap.size w13
  have hS := hS.cons hv17
  have hS := hS.cons hv18
  clear hp hI hv17 hv18
  show wpList _ _ _ [_, _] _ _
  refine list_step rfl (does_moreS (W := w9) (.tmp 17) (.tmp 18) 31 9 5 rfl (by kernel_rfl) (by kernel_rfl) (by kernel_rfl) _ t11 a1 (hS.get 1 rfl) (hS.get 0 rfl) (Kd.R_below ho14 hBw13_w13) (hBw13_w9) c3) ?_
  rintro vw15 w15 ⟨hb, hr, hk⟩
  clear hk
  have hBw15_w := below_step hBw9_w hb
  have hBw15_w3 := below_step hBw9_w3 hb
  have hBw15_w9 := hb
  replace hS := ((hS.nil).cons (hS.get 2 rfl)).cons (hS.get 0 rfl)
  have hBw15_w15 := Below.refl w15.heap.size w15
  obtain ⟨A16, C16, rfl, hl16, hc16⟩ := Kd.R_reads hr
  have hr16 := hr
  clear hr
  refine hS.next (v := .slice A16 ((t11 ++ bytesOf a1 : List Int).length) C16) (d := 19) rfl (by decide) (by rfl) ?_
  clear hS
  intro at17 hS
  refine list_step rfl (R := fun v w' => Below _ _ w' ∧ (IsV (.slice A16 ((t11 ++ bytesOf a1 : List Int).length) C16)) v w') (does_val (x_assign rfl (hS.get 0 rfl)) rfl) ?_
  rintro vw18 w18 ⟨hb, he⟩
  have hBw18_w := below_step hBw15_w hb
  have hBw18_w3 := below_step hBw15_w3 hb
  have hBw18_w9 := below_step hBw15_w9 hb
  have hBw18_w15 := below_step hBw15_w15 hb
  have hBw18_w18 := Below.refl w18.heap.size w18
  obtain rfl : vw18 = .slice A16 ((t11 ++ bytesOf a1 : List Int).length) C16 := he
  refine hS.next (v := .slice A16 ((t11 ++ bytesOf a1 : List Int).length) C16) (d := 6) rfl (by decide) (by rfl) ?_
  clear hS
  intro at19 hS
  refine wpList_nil ?_
  refine hK10 _ _ ?_
  (try clear hK10 K10)
  refine wp_seq_k (fun K20 hK20 => ?_)
  refine wp_seq_k (fun K21 hK21 => ?_)
  refine reg_seq (N := 39) (bs := [(6, .slice A16 ((t11 ++ bytesOf a1 : List Int).length) C16), (19, .slice A16 ((t11 ++ bytesOf a1 : List Int).length) C16), (18, .string a1), (4, .pointer (some ⟨g4, 0, none⟩))]) (I := fun x => Below w.heap.size w x ∧ Below w3.heap.size w3 x ∧ Below w9.heap.size w9 x ∧ Below w15.heap.size w15 x ∧ Below w18.heap.size w18 x) (ps := [IsV (.slice A16 ((t11 ++ bytesOf a1 : List Int).length) C16), VI ((t11 ++ bytesOf a1 : List Int).length : Int), VI (Int.tmod ((t11 ++ bytesOf a1 : List Int).length : Int) 2), VB (!decide ((Int.tmod ((t11 ++ bytesOf a1 : List Int).length : Int) 2) = 0))]) (by kernel_rfl) ?_ ?_ rfl hS ⟨hBw18_w, hBw18_w3, hBw18_w9, hBw18_w15, hBw18_w18⟩ ?_ ?_
  · exact fun x y hI hb => ⟨below_step hI.1 hb, below_step hI.2.1 hb, below_step hI.2.2.1 hb, below_step hI.2.2.2.1 hb, below_step hI.2.2.2.2 hb⟩
  · exact .v (.v (.v (.v (.nil))))
  · refine .ms 0 rfl rfl rfl ?_
    refine .on rfl (fun a w hS hI hp => does_val (x_len (e := 5) rfl (by kernel_rfl) (hp.V 0 rfl rfl)) rfl) ?_
    refine .on rfl (fun a w hS hI hp => does_val (x_bin rfl (hp.V 1 rfl rfl) (rfl) (b_rem _ _ _ _ _ _ (by decide))) rfl) ?_
    refine .on rfl (fun a w hS hI hp => does_val (x_bin rfl (hp.V 2 rfl rfl) (rfl) (b_neq _ _ _ _ _ _)) rfl) ?_
    exact .nil
  clear hS
  intro at22 w23 hS hI hp
  have hBw23_w := hI.1
  have hBw23_w3 := hI.2.1
  have hBw23_w9 := hI.2.2.1
  have hBw23_w15 := hI.2.2.2.1
  have hBw23_w18 := hI.2.2.2.2
  replace hS := ((hS.nil).cons (hS.get 3 rfl)).cons (hS.get 0 rfl)
  have hv23 : sl _ 23 = .bool (!decide ((Int.tmod ((t11 ++ bytesOf a1 : List Int).length : Int) 2) = 0)) := hp 3 (by decide)
  have hBw23_w23 := Below.refl w23.heap.size w23
  have hS := hS.cons hv23
  clear hp hI hv23
  refine hK21 _ _ ?_
  (try clear hK21 K21)
  refine wp_cond_true ((hS.get 0 rfl).trans (bT (congrArg (!·) (decide_eq_false c4)))) ?_
  refine reg_seq_tail 8 (N := 39) (bs := [(23, .bool (!decide ((Int.tmod ((t11 ++ bytesOf a1 : List Int).length : Int) 2) = 0))), (6, .slice A16 ((t11 ++ bytesOf a1 : List Int).length) C16), (4, .pointer (some ⟨g4, 0, none⟩))]) (I := fun x => Below w.heap.size w x ∧ Below w3.heap.size w3 x ∧ Below w9.heap.size w9 x ∧ Below w15.heap.size w15 x ∧ Below w23.heap.size w23 x) (ps := [IsV (.slice A16 ((t11 ++ bytesOf a1 : List Int).length) C16), IsV (.slice A16 ((t11 ++ bytesOf a1 : List Int).length) C16), VI ((t11 ++ bytesOf a1 : List Int).length : Int), IsV (.slice A16 ((t11 ++ bytesOf a1 : List Int).length) C16), VI ((t11 ++ bytesOf a1 : List Int).length : Int), IsV (.slice A16 ((t11 ++ bytesOf a1 : List Int).length) ((t11 ++ bytesOf a1 : List Int).length)), IsR (Kd.int .u8) 5 w23.heap.size [0], IsR (Kd.int .u8) 5 w23.heap.size ((t11 ++ bytesOf a1 : List Int) ++ [0] : List Int)]) (by kernel_rfl) ?_ ?_ rfl hS ⟨hBw23_w, hBw23_w3, hBw23_w9, hBw23_w15, hBw23_w23⟩ ?_ ?_
  · exact fun x y hI hb => ⟨below_step hI.1 hb, below_step hI.2.1 hb, below_step hI.2.2.1 hb, below_step hI.2.2.2.1 hb, below_step hI.2.2.2.2 hb⟩
  · exact .v (.v (.v (.v (.v (.v (.cons (Stays.r _ _ _ _) (.cons (Stays.r _ _ _ _) (.nil))))))))
  · refine .ms 1 rfl rfl rfl ?_
    refine .ms 1 rfl rfl rfl ?_
    refine .on rfl (fun a w hS hI hp => does_val (x_len (e := 5) rfl (by kernel_rfl) (hp.V 1 rfl rfl)) rfl) ?_
    refine .ms 1 rfl rfl rfl ?_
    refine .on rfl (fun a w hS hI hp => does_val (x_len (e := 5) rfl (by kernel_rfl) (hp.V 3 rfl rfl)) rfl) ?_
    refine .on rfl (fun a w hS hI hp => does_val (x_cutcap (e := 5) (n := (t11 ++ bytesOf a1 : List Int).length) (c := C16) (j := ((t11 ++ bytesOf a1 : List Int).length : Int)) (k := ((t11 ++ bytesOf a1 : List Int).length : Int)) rfl (by kernel_rfl) (by kernel_rfl) (hp.V 0 rfl rfl) (hp.V 2 rfl rfl) (hp.V 4 rfl rfl) (Int.natCast_nonneg _) (Int.le_refl _) (Int.ofNat_le.2 hl16)) rfl) ?_
    refine .on rfl (fun a w hS hI hp => does_lit w23.heap.size 31 5 1 _ [(0, .int .u8 0)] [0] rfl (by kernel_rfl) (by rw [Array.toList_map]; exact (show [(0, a.eval (.const (.int .u8 0)))] = _ from (li_cons (rfl) rfl))) (by kernel_rfl) rfl (hI.2.2.2.2).size (Nat.le_of_ble_eq_true rfl)) ?_
    refine .on rfl (fun a w hS hI hp => (IsC.of_r (hp.V 6 rfl rfl)).elim fun A_ h_ => h_.elim fun c_ h_ => h_.elim fun hv_ h_ => h_.elim fun hl_ hc_ => does_capped (B := w23.heap.size) (.tmp 29) (.tmp 30) 31 5 (.int .u8 0) 1 rfl (by kernel_rfl) (by kernel_rfl) rfl (by decide) (t11 ++ bytesOf a1 : List Int) [0] _ _ _ (hp.V 5 rfl rfl) hv_ (by decide) (Kd.C_below hc16 hI.2.2.2.1) (hc_) (hI.2.2.2.2).size c5) ?_
    exact .nil
  clear hS
  intro at24 w25 hS hI hp
  have hBw25_w := hI.1
  have hBw25_w3 := hI.2.1
  have hBw25_w9 := hI.2.2.1
  have hBw25_w15 := hI.2.2.2.1
  have hBw25_w23 := hI.2.2.2.2
  replace hS := ((hS.nil).cons (hS.get 2 rfl)).cons (hS.get 1 rfl)
  obtain ⟨A26, C26, hv31, hl26, hc26⟩ := Kd.R_reads (show Kd.R (Kd.int .u8) 5 w25 w23.heap.size (fun _ => True) (sl _ 31) ((t11 ++ bytesOf a1 : List Int) ++ [0] : List Int) from hp 7 (by decide))
  have ho26 : Kd.R (Kd.int .u8) 5 w25 w23.heap.size (fun _ => True) (.slice A26 ((t11 ++ bytesOf a1 : List Int) ++ [0] : List Int).length C26) ((t11 ++ bytesOf a1 : List Int) ++ [0] : List Int) := hv31 ▸ (hp 7 (by decide))
  have hBw25_w25 := Below.refl w25.heap.size w25
  have hS := hS.cons hv31
  clear hp hI hv31
  show wpList _ _ _ [_] _ _
  refine list_step rfl (R := fun v w' => Below _ _ w' ∧ (IsV (.slice A26 (((t11 ++ bytesOf a1 : List Int) ++ [0] : List Int).length) C26)) v w') (does_val (x_assign rfl (hS.get 0 rfl)) rfl) ?_
  rintro vw27 w27 ⟨hb, he⟩
  have hBw27_w := below_step hBw25_w hb
  have hBw27_w3 := below_step hBw25_w3 hb
  have hBw27_w9 := below_step hBw25_w9 hb
  have hBw27_w15 := below_step hBw25_w15 hb
  have hBw27_w23 := below_step hBw25_w23 hb
  have hBw27_w25 := below_step hBw25_w25 hb
  have hBw27_w27 := Below.refl w27.heap.size w27
  obtain rfl : vw27 = .slice A26 (((t11 ++ bytesOf a1 : List Int) ++ [0] : List Int).length) C26 := he
  replace hS := ((hS.nil).cons (hS.get 2 rfl)).cons (hS.get 0 rfl)
  refine hS.next (v := .slice A26 (((t11 ++ bytesOf a1 : List Int) ++ [0] : List Int).length) C26) (d := 6) rfl (by decide) (by rfl) ?_
  clear hS
  intro at28 hS
  refine wpList_nil ?_
  refine hK20 _ _ ?_
  (try clear hK20 K20)
  refine wp_seq_k (fun K29 hK29 => ?_)
  refine wp_seq_k (fun K30 hK30 => ?_)
  refine reg_seq (N := 39) (bs := [(6, .slice A26 (((t11 ++ bytesOf a1 : List Int) ++ [0] : List Int).length) C26), (31, .slice A26 (((t11 ++ bytesOf a1 : List Int) ++ [0] : List Int).length) C26), (4, .pointer (some ⟨g4, 0, none⟩))]) (I := fun x => Below w.heap.size w x ∧ Below w3.heap.size w3 x ∧ Below w23.heap.size w23 x ∧ Below w25.heap.size w25 x ∧ Below w27.heap.size w27 x) (ps := [IsV (.slice A26 (((t11 ++ bytesOf a1 : List Int) ++ [0] : List Int).length) C26), VI (((t11 ++ bytesOf a1 : List Int) ++ [0] : List Int).length : Int), VB (decide ((((t11 ++ bytesOf a1 : List Int) ++ [0] : List Int).length : Int) > 400))]) (by kernel_rfl) ?_ ?_ rfl hS ⟨hBw27_w, hBw27_w3, hBw27_w23, hBw27_w25, hBw27_w27⟩ ?_ ?_
  · exact fun x y hI hb => ⟨below_step hI.1 hb, below_step hI.2.1 hb, below_step hI.2.2.1 hb, below_step hI.2.2.2.1 hb, below_step hI.2.2.2.2 hb⟩
  · exact .v (.v (.v (.nil)))
  · refine .ms 0 rfl rfl rfl ?_
    refine .on rfl (fun a w hS hI hp => does_val (x_len (e := 5) rfl (by kernel_rfl) (hp.V 0 rfl rfl)) rfl) ?_
    refine .on rfl (fun a w hS hI hp => does_val (x_bin rfl (hp.V 1 rfl rfl) (rfl) (b_gtr _ _ _ _ _ _)) rfl) ?_
    exact .nil
  clear hS
  intro at31 w32 hS hI hp
  have hBw32_w := hI.1
  have hBw32_w3 := hI.2.1
  have hBw32_w23 := hI.2.2.1
  have hBw32_w25 := hI.2.2.2.1
  have hBw32_w27 := hI.2.2.2.2
  replace hS := ((hS.nil).cons (hS.get 2 rfl)).cons (hS.get 0 rfl)
  have hv34 : sl _ 34 = .bool (decide ((((t11 ++ bytesOf a1 : List Int) ++ [0] : List Int).length : Int) > 400)) := hp 2 (by decide)
  have hBw32_w32 := Below.refl w32.heap.size w32
  have hS := hS.cons hv34
  clear hp hI hv34
  refine hK30 _ _ ?_
  (try clear hK30 K30)
  refine wp_cond_false ((hS.get 0 rfl).trans (bF (decide_eq_false c6))) ?_
  refine wp_skip ?_
  refine hK29 _ _ ?_
  (try clear hK29 K29)
  refine wp_seq_k (fun K33 hK33 => ?_)
  refine reg_seq_tail 3 (N := 39) (bs := [(34, .bool (decide ((((t11 ++ bytesOf a1 : List Int) ++ [0] : List Int).length : Int) > 400))), (6, .slice A26 (((t11 ++ bytesOf a1 : List Int) ++ [0] : List Int).length) C26), (4, .pointer (some ⟨g4, 0, none⟩))]) (I := fun x => Below w.heap.size w x ∧ Below w3.heap.size w3 x ∧ Below w23.heap.size w23 x ∧ Below w25.heap.size w25 x ∧ Below w32.heap.size w32 x) (ps := [IsV (.slice A26 (((t11 ++ bytesOf a1 : List Int) ++ [0] : List Int).length) C26), IsV (.string (strOfNums ((t11 ++ bytesOf a1 : List Int) ++ [0] : List Int))), IsV (.agg #[.int .i64 1, .string (strOfNums ((t11 ++ bytesOf a1 : List Int) ++ [0] : List Int))])]) (by kernel_rfl) ?_ ?_ rfl hS ⟨hBw32_w, hBw32_w3, hBw32_w23, hBw32_w25, hBw32_w32⟩ ?_ ?_
  · exact fun x y hI hb => ⟨below_step hI.1 hb, below_step hI.2.1 hb, below_step hI.2.2.1 hb, below_step hI.2.2.2.1 hb, below_step hI.2.2.2.2 hb⟩
  · exact .v (.v (.v (.nil)))
  · refine .ms 1 rfl rfl rfl ?_
    refine .on rfl (fun a w hS hI hp => does_val (x_conv rfl (hp.V 0 rfl rfl) (Kd.C_string (by kernel_rfl) (e := 5) (by kernel_rfl) (by kernel_rfl) (Kd.C_below hc26 hI.2.2.2.1))) rfl) ?_
    refine .on rfl (fun a w hS hI hp => does_val (x_build (vs := [(0, .int .i64 1), (1, .string (strOfNums ((t11 ++ bytesOf a1 : List Int) ++ [0] : List Int)))]) rfl (by rw [Array.toList_map]; exact (show [(0, a.eval (.const (.int .i64 1))), (1, a.eval (.tmp 37))] = _ from (li_cons (rfl) (li_cons (hp.V 1 rfl rfl) rfl)))) (by kernel_rfl)) rfl) ?_
    exact .nil
  clear hS
  intro at34 w35 hS hI hp
  have hBw35_w := hI.1
  have hBw35_w3 := hI.2.1
  have hBw35_w23 := hI.2.2.1
  have hBw35_w25 := hI.2.2.2.1
  have hBw35_w32 := hI.2.2.2.2
  replace hS := (hS.nil).cons (hS.get 2 rfl)
  have hv38 : sl _ 38 = .agg #[.int .i64 1, .string (strOfNums ((t11 ++ bytesOf a1 : List Int) ++ [0] : List Int))] := hp 2 (by decide)
  have hBw35_w35 := Below.refl w35.heap.size w35
  have hS := hS.cons hv38
  clear hp hI hv38
  show wpList _ _ _ [_, _] _ _
  refine list_step rfl (does_storeAll (g := g4) (cs := #[.int .i64 1, .string (strOfNums ((t11 ++ bytesOf a1 : List Int) ++ [0] : List Int))]) rfl (hS.get 1 rfl) (hS.get 0 rfl) ((hBw35_w3.block g4 (blk_lt hbxg4)).trans hbxg4) (by kernel_rfl) (by kernel_rfl) (by kernel_rfl)) ?_
  rintro vw36 w36 ⟨rfl, hbxw36, hT⟩
  have hBw36_w := hT.below hBw35_w hgeg4 (hBw35_w).size
  have hBw36_w36 := Below.refl w36.heap.size w36
  clear hT
  refine list_step rfl (R := fun v w' => Below _ _ w' ∧ (VB true) v w') (does_val (x_assign rfl (rfl)) rfl) ?_
  rintro vw37 w37 ⟨hb, he⟩
  have hBw37_w := below_step hBw36_w hb
  have hBw37_w36 := below_step hBw36_w36 hb
  have hBw37_w37 := Below.refl w37.heap.size w37
  obtain rfl : vw37 = .bool true := he
  refine hS.next (v := .bool true) (d := 5) rfl (by decide) (by rfl) ?_
  clear hS
  intro at38 hS
  refine wpList_nil ?_
  refine hK33 _ _ ?_
  (try clear hK33 K33)
  refine wp_ret ?_
  (try simp only [Exit.then, Exit.inBlock, Exit.jump, Exit.noGoto])
  exact bodyPost_ret (v := .tuple #[.agg #[.int .i64 1, .string (strOfNums ((t11 ++ bytesOf a1 : List Int) ++ [0] : List Int))], .bool true]) (results_list (rs := [.cell 4 26, .tmp 5]) rfl (by simp) (Vals.cell g4 26 #[.int .i64 1, .string (strOfNums ((t11 ++ bytesOf a1 : List Int) ++ [0] : List Int))] (0, 0) _ (hS.get 2 rfl) ((hBw37_w36.block g4 (blk_lt hbxw36)).trans hbxw36) Try.underlying26 rfl (by kernel_rfl) (Vals.at (hS.get 0 rfl) .nil))) hS.nodef ⟨rfl, hBw37_w⟩
/-! ### carillonlaw00_Ids: function 28 -/
def carillonlaw00_Ids.f (l0 : List Int) : Option (List Int) := if ([] : List Int).length + l0.length < 17592186044416 then (some (([] : List Int) ++ l0)) else (none)
set_option maxHeartbeats 8000000 in
set_option maxRecDepth 100000 in
theorem carillonlaw00_Ids.calls (A0 : Option Addr) (c0 : Nat) (l0 : List Int) (r : List Int) (w : World) (hr0 : Kd.C (Kd.int .u64) w A0 l0.length l0) (hc0 : l0.length ≤ c0) (h : carillonlaw00_Ids.f l0 = some r) :
    Calls Try.prog 28 #[.slice A0 l0.length c0] w fun e w' => ∃ v0_ : Value, e = .returned (v0_) ∧ Kd.R (Kd.int .u64) 58 w' w.heap.size (fun _ => True) v0_ r ∧ Below w.heap.size w w' := by
  have HR0 := Aside0.mk hr0
  have HC0 := Aside0.mk hc0
  clear hr0 hc0
  have HB := Aside0.mk (Below.refl w.heap.size w)
  have H : (if ([] : List Int).length + l0.length < 17592186044416 then (some (([] : List Int) ++ l0)) else (none)) = some r := h
  clear h
  by_cases c2 : ([] : List Int).length + l0.length < 17592186044416
  · rw [if_pos c2] at H
    have LMc2 := Aside0.mk c2
    clear c2
    obtain ⟨y157, hy157⟩ : ∃ y_ : List Int, y_ = (([] : List Int) ++ l0) := ⟨_, rfl⟩
    replace H : (some y157) = some r := by first | (rw [hy157]; with_reducible exact H) | (have H2_ := (Option.bind_some _ _).symm.trans H; rw [hy157]; with_reducible exact H2_) | (have H2_ := (Option.bind_some _ _).symm.trans H; with_reducible exact H2_) | with_reducible exact H | (rw [hy157]; exact H) | exact H
    have Ny157 := Aside0.mk hy157
    clear hy157
    obtain rfl := Option.some.inj H
    go_enter Try.func28, Try.ntmps28
    go_wp2_with (first | ((with_reducible refine gate_builtin (b := .append) (xs := #[.const (.slice none 0 0), .tmp 3]) rfl ?_); at_builtin; refine Kd.R_append_rows (Kd.int .u64) (w0 := w) w.heap.size rfl (.const (.slice none 0 0)) (.tmp 3) 45 58 (.int .u64 0) 8 rfl Try.underlying45 info58 rfl (by decide) (by omega) (.slice none 0 0) ([] : List Int) l0 _ _ _ (fun _ => True) (fun _ => False) rfl rfl ?aO ?aR (fun _ _ h => h) (fun _ h => h.elim) ?aF ?aB ?aS ?aL ?_; (case aR => repeat (first | exact HR0.out | (with_reducible refine Kd.C_alloc ?_ _) | (with_reducible refine Kd.C_drewN ?_ _) | (with_reducible refine Kd.C_drew ?_))); (case aB => exact (by repeat (first | (with_reducible first | exact HB.out | apply below_alloc | apply pw_below_drewN | apply below_drew1) | exact HB.out))); (case aF => exact (fun _ _ => trivial)); (case aO => exact ((Kd.R_nil _ _ _ _ (fun _ => True)))); (case aS => exact (below_size (by repeat (first | (with_reducible first | exact HB.out | apply below_alloc | apply pw_below_drewN | apply below_drew1) | exact HB.out)))); (case aL => have := LMc2.out; omega); intro v158 w3 ho hb hg hat; rw [← Ny157.out] at ho; have n0_ := Aside0.mk (hb); have n1_ := Aside0.mk (ho); clear HB; have HB := n0_; have HO159 := n1_; clear n0_ n1_; clear ho hb hg hat))
    all_goals
      go_ret
      exact ⟨_, by first | rfl | (simp [errW_none, errW_some] <;> rfl) | (simp [*, errW_none, errW_some] <;> rfl), by (with_reducible repeat (first | apply Kd.R_alloc | apply Kd.R_drewN | apply Kd.R_drew)); exact HO159.out, by repeat (first | (with_reducible first | exact HB.out | apply below_alloc | apply pw_below_drewN | apply below_drew1) | exact HB.out)⟩
  · rw [if_neg c2] at H
    exact absurd H (by simp)
/-! ### carillonref01_PutId: function 46 -/
def carillonref01_PutId.f (k : Nat) (a0 : Int) : Option (List Int) := (carillonref01_Put.f k (wrap64 (a0)) 8).bind fun t160 => (some t160)
set_option maxHeartbeats 8000000 in
set_option maxRecDepth 100000 in
theorem carillonref01_PutId.calls (k : Nat) (a0 : Int) (r : List Int) (w : World) (h : carillonref01_PutId.f k a0 = some r) :
    Calls Try.prog 46 #[.int .u64 a0] w fun e w' => ∃ v0_ : Value, e = .returned (v0_) ∧ Kd.R (Kd.int .u8) 5 w' w.heap.size (fun _ => True) v0_ r ∧ Below w.heap.size w w' := by
  have HB := Aside0.mk (Below.refl w.heap.size w)
  have H : ((carillonref01_Put.f k (wrap64 (a0)) 8).bind fun t160 => (some t160)) = some r := h
  clear h
  replace H := Option.bind_eq_some_iff.mp H
  obtain ⟨t160, A20, H⟩ := H
  replace H : (some t160) = some r := H
  have A2 := Aside0.mk A20
  clear A20
  obtain rfl := Option.some.inj H
  go_enter Try.func46, Try.ntmps46
  go_wp2_with (first | ((with_reducible refine gate_callee (f := 41) rfl ?_); refine goesL_ (some 5) rfl rfl Try.func41 (by kernel_rfl) rfl #[.int .i64 (wrap64 (a0)), .int .i64 8] rfl (by (try simp only [List.map_toArray, List.map_cons, List.map_nil]); first | done | rfl | (simp only [List.length_drop, List.length_take]; rfl)) ?_; (with_reducible refine (carillonref01_Put.calls k (wrap64 (a0)) 8 t160 _ A2.out).mono ?_); rintro e w3 ⟨v161, rfl, ho0, hb⟩; refine ⟨_, rfl, ?_⟩; have n0_ := Aside0.mk (Kd.R_lower ho0 (below_size (by repeat (first | (with_reducible first | exact HB.out | apply below_alloc | apply pw_below_drewN | apply below_drew1) | exact HB.out)))); have n1_ := Aside0.mk (below_step (by repeat (first | (with_reducible first | exact HB.out | apply below_alloc | apply pw_below_drewN | apply below_drew1) | exact HB.out)) hb); clear HB; have HO162 := n0_; have HB := n1_; clear n0_ n1_; (try clear hb); (try clear hb2); (try clear hk); (try clear hi); (try clear ho0)))
  all_goals
    go_ret
    exact ⟨_, by first | rfl | (simp [errW_none, errW_some] <;> rfl) | (simp [*, errW_none, errW_some] <;> rfl), by (with_reducible repeat (first | apply Kd.R_alloc | apply Kd.R_drewN | apply Kd.R_drew)); exact HO162.out, by repeat (first | (with_reducible first | exact HB.out | apply below_alloc | apply pw_below_drewN | apply below_drew1) | exact HB.out)⟩
/-! ### carillonref08_Path: function 29 -/
def carillonref08_Path.l0 : Nat → List Int → List Int → Int → Option (Int × ByteArray × Bool)
  | 0, _, _, _ => none
  | k + 1, x0, x4, x5 => if x5 < (x0.length : Int) then (if 0 ≤ x5 then ((carillonref01_PutId.f k (rd x0 x5)).bind fun t165 => (if x4.length + t165.length < 140737488355328 then (carillonref08_Path.l0 k x0 (x4 ++ t165) (wrap64 (x5 + 1))) else (none))) else (none)) else (some (8, strOfNums x4, true))
def carillonref08_Path.f (k : Nat) (l0 : List Int) : Option (Int × ByteArray × Bool) := if (l0.length : Int) > 16 then (some (0, (⟨#[]⟩ : ByteArray), false)) else (carillonref08_Path.l0 k l0 ([] : List Int) 0)
set_option maxHeartbeats 8000000 in
set_option maxRecDepth 100000 in
theorem carillonref08_Path.calls (k : Nat) (A0 : Option Addr) (c0 : Nat) (l0 : List Int) (r1 : Int) (r2 : ByteArray) (r3 : Bool) (w : World) (hr0 : Kd.C (Kd.int .u64) w A0 l0.length l0) (hc0 : l0.length ≤ c0) (h : carillonref08_Path.f k l0 = some (r1, r2, r3)) :
    Calls Try.prog 29 #[.slice A0 l0.length c0] w fun e w' => e = .returned (.tuple #[.agg #[.int .i64 r1, .string r2], .bool r3]) ∧ Below w.heap.size w w' := by
  have hu26 := Try.underlying26
  have HR0 := Aside0.mk hr0
  have HC0 := Aside0.mk hc0
  clear hr0 hc0
  have HB := Aside0.mk (Below.refl w.heap.size w)
  have H : (if (l0.length : Int) > 16 then (some (0, (⟨#[]⟩ : ByteArray), false)) else (carillonref08_Path.l0 k l0 ([] : List Int) 0)) = some (r1, r2, r3) := h
  clear h
  by_cases c2 : (l0.length : Int) > 16
  · rw [if_pos c2] at H
    have c2b0 : decide (16 < (l0.length : Int)) = true := decide_eq_true c2
    have c2b1 : decide (16 < l0.length) = true := decide_eq_true (by omega)
    clear c2
    simp only [Option.some.injEq, Prod.mk.injEq] at H
    obtain ⟨rfl, rfl, rfl⟩ := H
    go_enter Try.func29, Try.ntmps29
    go_wp2_with (first | ((with_reducible refine gate_dst (N := 2) rfl ?_); refine box_event ?hg (N := 2) ?hd (cs := #[.int .i64 0, .string (⟨#[]⟩ : ByteArray)]) (t := 26) ?hr ?_; (case hd => rfl); (case hg => rfl); (case hr => first | (go_simp; done) | (go_simp; rfl)); intro gb163 hg w3 hbox hb; have n0_ := Aside0.mk (below_step (by repeat (first | (with_reducible first | exact HB.out | apply below_alloc | apply pw_below_drewN | apply below_drew1) | exact HB.out)) hb); have n1_ := Aside0.mk (hbox); have n2_ := Aside0.mk ((by rw [hg]; exact (below_size (by repeat (first | (with_reducible first | exact HB.out | apply below_alloc | apply pw_below_drewN | apply below_drew1) | exact HB.out))) : w.heap.size ≤ gb163)); have n3_ := Aside0.mk ((by rw [hg]; exact (below_size (by repeat (first | (with_reducible first | exact HB.out | apply below_alloc | apply pw_below_drewN | apply below_drew1) | exact HB.out))) : w.heap.size ≤ gb163)); clear HB; have HB := n0_; have BK163 := n1_; have GW163 := n2_; have GE163 := n3_; clear n0_ n1_ n2_ n3_; clear hb hbox hg; have hcz4_0 : w3.cell? ⟨gb163, 0, none⟩ = some (.int .i64 0) := (blk_cell BK163.out 0).trans rfl; have hcz4_1 : w3.cell? ⟨gb163, 1, none⟩ = some (.string (⟨#[]⟩ : ByteArray)) := (blk_cell BK163.out 1).trans rfl; have hfz4_0 := blk_frozen BK163.out 0; have hfz4_1 := blk_frozen BK163.out 1))
    refine bodyPost_ret (results_ct rfl _ _ gb163 26 #[.int .i64 0, .string (⟨#[]⟩ : ByteArray)] (0, 0) _ rfl (by (with_reducible repeat (first | refine blk_drewN ?_ _ | refine blk_drew ?_ | refine blk_alloc ?_ _)); refine blk_put (cs := #[.int .i64 0, .string (⟨#[]⟩ : ByteArray)]) ?_ 1 _ rfl; (with_reducible repeat (first | refine blk_drewN ?_ _ | refine blk_drew ?_ | refine blk_alloc ?_ _)); refine blk_put (cs := #[.int .i64 0, .string (⟨#[]⟩ : ByteArray)]) ?_ 0 _ rfl; (with_reducible repeat (first | refine blk_drewN ?_ _ | refine blk_drew ?_ | refine blk_alloc ?_ _)); exact BK163.out) Try.underlying26 rfl (by kernel_rfl)) rfl ?_
    exact ⟨by first | rfl | (simp [errW_none, errW_some] <;> rfl) | (simp [*, errW_none, errW_some] <;> rfl), by repeat (first | (with_reducible first | exact HB.out | apply below_alloc | apply pw_below_drewN | apply below_drew1 | refine below_set ?_ GE163.out) | exact HB.out)⟩
  · rw [if_neg c2] at H
    have c2b0 : decide (16 < (l0.length : Int)) = false := decide_eq_false c2
    have c2b1 : decide (16 < l0.length) = false := decide_eq_false (by omega)
    clear c2
    have H' := Aside0.mk H
    clear H
    go_enter Try.func29, Try.ntmps29
    go_wp2_with (first | ((with_reducible refine gate_dst (N := 2) rfl ?_); refine box_event ?hg (N := 2) ?hd (cs := #[.int .i64 0, .string (⟨#[]⟩ : ByteArray)]) (t := 26) ?hr ?_; (case hd => rfl); (case hg => rfl); (case hr => first | (go_simp; done) | (go_simp; rfl)); intro gb163 hg w5 hbox hb; have n0_ := Aside0.mk (below_step (by repeat (first | (with_reducible first | exact HB.out | apply below_alloc | apply pw_below_drewN | apply below_drew1) | exact HB.out)) hb); have n1_ := Aside0.mk (hbox); have n2_ := Aside0.mk ((by rw [hg]; exact (below_size (by repeat (first | (with_reducible first | exact HB.out | apply below_alloc | apply pw_below_drewN | apply below_drew1) | exact HB.out))) : w.heap.size ≤ gb163)); have n3_ := Aside0.mk ((by rw [hg]; exact (below_size (by repeat (first | (with_reducible first | exact HB.out | apply below_alloc | apply pw_below_drewN | apply below_drew1) | exact HB.out))) : w.heap.size ≤ gb163)); clear HB; have HB := n0_; have BK163 := n1_; have GW163 := n2_; have GE163 := n3_; clear n0_ n1_ n2_ n3_; clear hb hbox hg))
    go_loopg [4, 5] k (fun kq v4 v5 w' => ∃ (x4_1 : List Int) (x5_1 : Int), v5 = .int .i64 x5_1 ∧ Aside0 (carillonref08_Path.l0 kq l0 x4_1 x5_1 = some (r1, r2, r3)) ∧ Aside0 (kq ≤ k) ∧ Aside0 (Kd.R (Kd.int .u8) 5 w' w.heap.size (fun _ => True) v4 x4_1) ∧ Aside0 (w'.heap[gb163]? = some (.cells #[.int .i64 0, .string (⟨#[]⟩ : ByteArray)] 26 (0, 0))) ∧ Aside0 (Below w.heap.size w w'))
    case atStart => exact ⟨(([] : List Int)), (0), (by first | rfl | (simp; done) | (simp [*]; done)), H', ⟨Nat.le_refl _⟩, ⟨by first | exact Kd.R_nil _ _ _ _ _ | exact Kd.N_nil _ _ _ _ _ | exact Kd.V_nil _ _ _ _ _ | exact Kd.Q_nil _ _ _ _ _ | exact Kd.S_nil _ _ _ _ _⟩, ⟨by (with_reducible repeat (first | refine blk_drewN ?_ _ | refine blk_drew ?_ | refine blk_alloc ?_ _)); exact BK163.out⟩, ⟨by repeat (first | (with_reducible first | exact HB.out | apply below_alloc | apply pw_below_drewN | apply below_drew1 | refine below_set ?_ GE163.out) | exact HB.out)⟩⟩
    case round =>
      clear H'
      try clear c2
      try clear c2b0
      try clear c2b1
      try clear p2
      try clear hcz4_0
      try clear hcz4_1
      try clear hfz4_0
      try clear hfz4_1
      obtain ⟨x4_1, x5_1, rfl, HA, HK1, HO_4, BK163, HB⟩ := hrel
      cases gk with
      | zero => exact absurd HA.out (by simp [carillonref08_Path.l0])
      | succ k1 =>
        have H := HA.out
        clear HA
        simp only [carillonref08_Path.l0] at H
        by_cases c6 : x5_1 < (l0.length : Int)
        · rw [if_pos c6] at H
          have c6b0 : decide (x5_1 < (l0.length : Int)) = true := decide_eq_true c6
          clear c6
          by_cases c7 : 0 ≤ x5_1
          · rw [if_pos c7] at H
            have c7b0 : decide (0 ≤ x5_1) = true := decide_eq_true c7
            clear c7
            replace H := Option.bind_eq_some_iff.mp H
            obtain ⟨t165, A80, H⟩ := H
            replace H : (if x4_1.length + t165.length < 140737488355328 then (carillonref08_Path.l0 k1 l0 (x4_1 ++ t165) (wrap64 (x5_1 + 1))) else (none)) = some (r1, r2, r3) := H
            have A8 := Aside0.mk A80
            clear A80
            by_cases c9 : x4_1.length + t165.length < 140737488355328
            · rw [if_pos c9] at H
              have LMc9 := Aside0.mk c9
              clear c9
              obtain ⟨y168, hy168⟩ : ∃ y_ : List Int, y_ = (x4_1 ++ t165) := ⟨_, rfl⟩
              replace H : (carillonref08_Path.l0 k1 l0 y168 (wrap64 (x5_1 + 1))) = some (r1, r2, r3) := by first | (rw [hy168]; with_reducible exact H) | (have H2_ := (Option.bind_some _ _).symm.trans H; rw [hy168]; with_reducible exact H2_) | (have H2_ := (Option.bind_some _ _).symm.trans H; with_reducible exact H2_) | with_reducible exact H | (rw [hy168]; exact H) | exact H
              have Ny168 := Aside0.mk hy168
              clear hy168
              have H' := Aside0.mk H
              clear H
              have p164 : 0 ≤ (x5_1 : Int) := of_decide_eq_true (by first | (with_reducible assumption) | assumption)
              have q164 : x5_1 < (l0.length : Int) := of_decide_eq_true (by first | (with_reducible assumption) | assumption)
              obtain ⟨ad164, e164, hx164_0⟩ := Kd.at_int HR0.out x5_1 p164 q164
              cases e164
              replace hx164_0 := (HB.out.cell (World.block_lt_of_cell? w _ hx164_0)).trans hx164_0
              replace p164 := eq_true p164
              replace q164 := eq_true q164
              go_wp2_with (first | ((with_reducible refine gate_callee (f := 46) rfl ?_); refine goesL_ (some 21) rfl rfl Try.func46 (by kernel_rfl) rfl #[.int .u64 (rd l0 x5_1)] rfl (by (try simp only [List.map_toArray, List.map_cons, List.map_nil]); first | done | rfl | (simp only [List.length_drop, List.length_take]; rfl)) ?_; (with_reducible refine (carillonref01_PutId.calls k1 (rd l0 x5_1) t165 _ A8.out).mono ?_); rintro e w10 ⟨v166, rfl, ho0, hb⟩; refine ⟨_, rfl, ?_⟩; have n0_ := Aside0.mk (Kd.R_elder' (by (with_reducible repeat (first | apply Kd.R_alloc | apply Kd.R_drewN | apply Kd.R_drew)); exact HO_4.out) (Kd.R_base ho0) hb); have n1_ := Aside0.mk (Kd.R_lower (Kd.R_new' ho0 (Kd.R_lt (by (with_reducible repeat (first | apply Kd.R_alloc | apply Kd.R_drewN | apply Kd.R_drew)); exact HO_4.out))) (below_size (by repeat (first | (with_reducible first | exact HB.out | apply below_alloc | apply pw_below_drewN | apply below_drew1 | refine below_set ?_ GE163.out) | exact HB.out)))); have n2_ := Aside0.mk (blk_below (g := gb163) (o := .cells #[.int .i64 0, .string (⟨#[]⟩ : ByteArray)] 26 (0, 0)) (by (with_reducible repeat (first | refine blk_drewN ?_ _ | refine blk_drew ?_ | refine blk_alloc ?_ _)); exact BK163.out) hb); have n3_ := Aside0.mk (below_step (by repeat (first | (with_reducible first | exact HB.out | apply below_alloc | apply pw_below_drewN | apply below_drew1 | refine below_set ?_ GE163.out) | exact HB.out)) hb); clear HO_4; clear BK163; clear HB; have HO_4 := n0_; have HO167 := n1_; have BK163 := n2_; have HB := n3_; clear n0_ n1_ n2_ n3_; (try clear hb); (try clear hb2); (try clear hk); (try clear hi); (try clear ho0); obtain ⟨Ao12, co12, eo12⟩ := Kd.R_slice HO167.out; subst eo12) | ((with_reducible refine gate_builtin (b := .append) (xs := #[.tmp 16, .tmp 21]) rfl ?_); at_builtin; refine Kd.R_append_rows (Kd.int .u8) (w0 := w) w.heap.size rfl (.tmp 16) (.tmp 21) 31 5 (.int .u8 0) 1 rfl Try.underlying31 info5 rfl (by decide) (by omega) u4 x4_1 t165 _ _ _ (fun k_ => some k_ ≠ (.slice Ao12 t165.length co12 : Value).ownBlock) (fun _ => False) rfl rfl ?aO ?aR (fun _ _ h => h) (fun _ h => h.elim) ?aF ?aB ?aS ?aL ?_; (case aR => repeat (first | exact (Kd.R_reads' HO167.out).2.2 | (with_reducible refine Kd.C_alloc ?_ _) | (with_reducible refine Kd.C_drewN ?_ _) | (with_reducible refine Kd.C_drew ?_))); (case aB => exact (by repeat (first | (with_reducible first | exact HB.out | apply below_alloc | apply pw_below_drewN | apply below_drew1 | refine below_set ?_ GE163.out) | exact HB.out))); (case aF => exact (fun k_ hk => Kd.fresh' (Kd.R_lt (by (with_reducible repeat (first | apply Kd.R_alloc | apply Kd.R_drewN | apply Kd.R_drew)); exact HO167.out)) k_ hk)); (case aO => exact (by (with_reducible repeat (first | apply Kd.R_alloc | apply Kd.R_drewN | apply Kd.R_drew)); exact Kd.R_mono HO_4.out (fun _ hk => hk.2))); (case aS => exact (below_size (by repeat (first | (with_reducible first | exact HB.out | apply below_alloc | apply pw_below_drewN | apply below_drew1 | refine below_set ?_ GE163.out) | exact HB.out)))); (case aL => have := LMc9.out; omega); intro v169 w11 ho hb hg hat; rw [← Ny168.out] at ho; have n0_ := Aside0.mk (blk_grown (g := gb163) (o := .cells #[.int .i64 0, .string (⟨#[]⟩ : ByteArray)] 26 (0, 0)) (by (with_reducible repeat (first | refine blk_drewN ?_ _ | refine blk_drew ?_ | refine blk_alloc ?_ _)); exact BK163.out) hg (Kd.R_ne HO_4.out BK163.out (by decide))); have n1_ := Aside0.mk (Kd.R_after (ok := (fun _ => True)) (by (with_reducible repeat (first | apply Kd.R_alloc | apply Kd.R_drewN | apply Kd.R_drew)); exact HO167.out) hg hat); have n2_ := Aside0.mk (hb); have n3_ := Aside0.mk (ho); clear BK163; clear HO167; clear HB; clear HO_4; have BK163 := n0_; have HO167 := n1_; have HB := n2_; have HO170 := n3_; clear n0_ n1_ n2_ n3_; clear ho hb hg hat))
              go_roundg k1
              case measure => have := HK1.out; omega
              case rel => exact ⟨(y168), (wrap64 (x5_1 + 1)), (by first | rfl | (simp; done) | (simp [*]; done)), H', ⟨by have := HK1.out; omega⟩, ⟨by (with_reducible repeat (first | apply Kd.R_alloc | apply Kd.R_drewN | apply Kd.R_drew)); exact Kd.R_mono HO170.out (fun _ hk => trivial)⟩, ⟨by (with_reducible repeat (first | refine blk_drewN ?_ _ | refine blk_drew ?_ | refine blk_alloc ?_ _)); exact BK163.out⟩, ⟨by repeat (first | (with_reducible first | exact HB.out | apply below_alloc | apply pw_below_drewN | apply below_drew1 | refine below_set ?_ GE163.out) | exact HB.out)⟩⟩
            · rw [if_neg c9] at H
              exact absurd H (by simp)
          · rw [if_neg c7] at H
            exact absurd H (by simp)
        · rw [if_neg c6] at H
          have c6b0 : decide (x5_1 < (l0.length : Int)) = false := decide_eq_false c6
          clear c6
          simp only [Option.some.injEq, Prod.mk.injEq] at H
          obtain ⟨rfl, rfl, rfl⟩ := H
          have hcv13 := own_string (P := Try.prog) Try.underlying31 Try.underlying5 Try.underlying9 (Kd.own_of_R HO_4.out)
          have hcz14_0 : wr.cell? ⟨gb163, 0, none⟩ = some (.int .i64 0) := (blk_cell BK163.out 0).trans rfl
          have hcz14_1 : wr.cell? ⟨gb163, 1, none⟩ = some (.string (⟨#[]⟩ : ByteArray)) := (blk_cell BK163.out 1).trans rfl
          have hfz14_0 := blk_frozen BK163.out 0
          have hfz14_1 := blk_frozen BK163.out 1
          go_wp2
          refine bodyPost_ret (results_ct rfl _ _ gb163 26 #[.int .i64 8, .string (strOfNums x4_1)] (0, 0) _ rfl (by (with_reducible repeat (first | refine blk_drewN ?_ _ | refine blk_drew ?_ | refine blk_alloc ?_ _)); refine blk_put (cs := #[.int .i64 8, .string (⟨#[]⟩ : ByteArray)]) ?_ 1 _ rfl; (with_reducible repeat (first | refine blk_drewN ?_ _ | refine blk_drew ?_ | refine blk_alloc ?_ _)); refine blk_put (cs := #[.int .i64 0, .string (⟨#[]⟩ : ByteArray)]) ?_ 0 _ rfl; (with_reducible repeat (first | refine blk_drewN ?_ _ | refine blk_drew ?_ | refine blk_alloc ?_ _)); exact BK163.out) Try.underlying26 rfl (by kernel_rfl)) rfl ?_
          exact ⟨by first | rfl | (simp [errW_none, errW_some] <;> rfl) | (simp [*, errW_none, errW_some] <;> rfl), by repeat (first | (with_reducible first | exact HB.out | apply below_alloc | apply pw_below_drewN | apply below_drew1 | refine below_set ?_ GE163.out) | exact HB.out)⟩
/-! ### carillonref08_Manage: function 30 -/
def carillonref08_Manage.j0 : Nat → Int → ByteArray → Bool → Option (Int × ByteArray × Bool)
  | 0, _, _, _ => none
  | k + 1, x0, x1, x17 => if x17 = true then (some (0, (⟨#[]⟩ : ByteArray), false)) else ((carillonref01_Put.f k x0 2).bind fun t172 => (if t172.length + x1.size < 140737488355328 then ((some (t172 ++ bytesOf x1 : List Int)).bind fun y175 => (if ((y175.length : Int) % 2) = 0 then (if (y175.length : Int) > 400 then (some (0, (⟨#[]⟩ : ByteArray), false)) else (some (1, strOfNums y175, true))) else (if y175.length < 140737488355328 then ((some (y175 ++ [0] : List Int)).bind fun y178 => (if (y178.length : Int) > 400 then (some (0, (⟨#[]⟩ : ByteArray), false)) else (some (1, strOfNums y178, true)))) else (none)))) else (none)))
def carillonref08_Manage.f (k : Nat) (a0 : Int) (a1 : ByteArray) : Option (Int × ByteArray × Bool) := if a0 < 0 then (carillonref08_Manage.j0 k a0 a1 true) else (if a0 > 65535 then (carillonref08_Manage.j0 k a0 a1 true) else (carillonref08_Manage.j0 k a0 a1 (decide ((a1.size : Int) > 400))))
set_option maxHeartbeats 8000000 in
set_option maxRecDepth 100000 in
theorem carillonref08_Manage.calls (k : Nat) (a0 : Int) (a1 : ByteArray) (r1 : Int) (r2 : ByteArray) (r3 : Bool) (w : World) (h : carillonref08_Manage.f k a0 a1 = some (r1, r2, r3)) :
    Calls Try.prog 30 #[.int .i64 a0, .string a1] w fun e w' => e = .returned (.tuple #[.agg #[.int .i64 r1, .string r2], .bool r3]) ∧ Below w.heap.size w w' := by
  have hu26 := Try.underlying26
  have HB := Aside0.mk (Below.refl w.heap.size w)
  have H : (if a0 < 0 then (carillonref08_Manage.j0 k a0 a1 true) else (if a0 > 65535 then (carillonref08_Manage.j0 k a0 a1 true) else (carillonref08_Manage.j0 k a0 a1 (decide ((a1.size : Int) > 400))))) = some (r1, r2, r3) := h
  clear h
  have HC3 := Aside0.mk H
  clear H
  go_enter Try.func30, Try.ntmps30
  go_upto_region 1 with (first | ((with_reducible refine gate_dst (N := 4) rfl ?_); (try (refine gate_guard (by rfl) ?_; dsimp only)); refine box_event ?hg (N := 4) ?hd (cs := #[.int .i64 0, .string (⟨#[]⟩ : ByteArray)]) (t := 26) ?hr ?_; (case hd => rfl); (case hg => rfl); (case hr => first | (go_simp; done) | (go_simp; rfl)); intro gb171 hg w4 hbox hb; have n0_ := Aside0.mk (below_step (by repeat (first | (with_reducible first | exact HB.out | apply below_alloc | apply pw_below_drewN | apply below_drew1) | exact HB.out)) hb); have n1_ := Aside0.mk (hbox); have n2_ := Aside0.mk ((by rw [hg]; exact (below_size (by repeat (first | (with_reducible first | exact HB.out | apply below_alloc | apply pw_below_drewN | apply below_drew1) | exact HB.out))) : w.heap.size ≤ gb171)); have n3_ := Aside0.mk ((by rw [hg]; exact (below_size (by repeat (first | (with_reducible first | exact HB.out | apply below_alloc | apply pw_below_drewN | apply below_drew1) | exact HB.out))) : w.heap.size ≤ gb171)); clear HB; have HB := n0_; have BK171 := n1_; have GW171 := n2_; have GE171 := n3_; clear n0_ n1_ n2_ n3_; clear hb hbox hg))
  (try simp only [Act.put, List.setIfInBounds_toArray, List.set_cons_zero, List.set_cons_succ])
  go_cut [17] (fun v17 wc => ∃ (kq : Nat) (x17_2 : Bool), v17 = .bool x17_2 ∧ Aside0 (carillonref08_Manage.j0 kq a0 a1 x17_2 = some (r1, r2, r3)) ∧ Aside0 (kq ≤ k) ∧ Aside0 (wc.heap[gb171]? = some (.cells #[.int .i64 0, .string (⟨#[]⟩ : ByteArray)] 26 (0, 0))) ∧ Aside0 (Below w.heap.size w wc))
  case first =>
    have H := HC3.out
    clear HC3
    by_cases c5 : a0 < 0
    · rw [if_pos c5] at H
      have c5b0 : decide (a0 < 0) = true := decide_eq_true c5
      clear c5
      (first | rw [c5b0] | (simp only [i64_w, i32_w]; rw [c5b0]) | skip)
      have H' := Aside0.mk H
      clear H
      go_wp2
      go_meet
      case rel => exact ⟨_, (true), (by first | rfl | (simp; done) | (simp [*]; done)), H', ⟨by first | omega | exact Nat.le_refl _⟩, ⟨by (with_reducible repeat (first | refine blk_drewN ?_ _ | refine blk_drew ?_ | refine blk_alloc ?_ _)); exact BK171.out⟩, ⟨by repeat (first | (with_reducible first | exact HB.out | apply below_alloc | apply pw_below_drewN | apply below_drew1 | refine below_set ?_ GE171.out) | exact HB.out)⟩⟩
    · rw [if_neg c5] at H
      have c5b0 : decide (a0 < 0) = false := decide_eq_false c5
      clear c5
      (first | rw [c5b0] | (simp only [i64_w, i32_w]; rw [c5b0]) | skip)
      by_cases c6 : a0 > 65535
      · rw [if_pos c6] at H
        have c6b0 : decide (65535 < a0) = true := decide_eq_true c6
        clear c6
        have H' := Aside0.mk H
        clear H
        go_wp2
        go_meet
        case rel => exact ⟨_, (true), (by first | rfl | (simp; done) | (simp [*]; done)), H', ⟨by first | omega | exact Nat.le_refl _⟩, ⟨by (with_reducible repeat (first | refine blk_drewN ?_ _ | refine blk_drew ?_ | refine blk_alloc ?_ _)); exact BK171.out⟩, ⟨by repeat (first | (with_reducible first | exact HB.out | apply below_alloc | apply pw_below_drewN | apply below_drew1 | refine below_set ?_ GE171.out) | exact HB.out)⟩⟩
      · rw [if_neg c6] at H
        have c6b0 : decide (65535 < a0) = false := decide_eq_false c6
        clear c6
        have H' := Aside0.mk H
        clear H
        go_wp2
        go_meet
        case rel => exact ⟨_, (decide ((a1.size : Int) > 400)), (by first | rfl | (simp; done) | (simp [*]; done)), H', ⟨by first | omega | exact Nat.le_refl _⟩, ⟨by (with_reducible repeat (first | refine blk_drewN ?_ _ | refine blk_drew ?_ | refine blk_alloc ?_ _)); exact BK171.out⟩, ⟨by repeat (first | (with_reducible first | exact HB.out | apply below_alloc | apply pw_below_drewN | apply below_drew1 | refine below_set ?_ GE171.out) | exact HB.out)⟩⟩
  case rest =>
    clear HC3
    try clear p2
    try clear c3
    try clear c5
    try clear c5b0
    try clear c6
    try clear c6b0
    obtain ⟨kq, x17_2, rfl, HA, HJ2, BK171, HB⟩ := hcut
    cases kq with
    | zero => exact absurd HA.out (by simp [carillonref08_Manage.j0])
    | succ kj2 =>
      have H := HA.out
      clear HA
      simp only [carillonref08_Manage.j0] at H
      by_cases c7 : x17_2 = true
      · subst c7
        have H1 : (some (0, (⟨#[]⟩ : ByteArray), false)) = some (r1, r2, r3) := by rw [if_pos rfl] at H; exact H
        clear H
        have H := H1
        clear H1
        simp only [Option.some.injEq, Prod.mk.injEq] at H
        obtain ⟨rfl, rfl, rfl⟩ := H
        have hcz8_0 : wc.cell? ⟨gb171, 0, none⟩ = some (.int .i64 0) := (blk_cell BK171.out 0).trans rfl
        have hcz8_1 : wc.cell? ⟨gb171, 1, none⟩ = some (.string (⟨#[]⟩ : ByteArray)) := (blk_cell BK171.out 1).trans rfl
        have hfz8_0 := blk_frozen BK171.out 0
        have hfz8_1 := blk_frozen BK171.out 1
        go_wp2
        refine bodyPost_ret (results_ct rfl _ _ gb171 26 #[.int .i64 0, .string (⟨#[]⟩ : ByteArray)] (0, 0) _ rfl (by (with_reducible repeat (first | refine blk_drewN ?_ _ | refine blk_drew ?_ | refine blk_alloc ?_ _)); refine blk_put (cs := #[.int .i64 0, .string (⟨#[]⟩ : ByteArray)]) ?_ 1 _ rfl; (with_reducible repeat (first | refine blk_drewN ?_ _ | refine blk_drew ?_ | refine blk_alloc ?_ _)); refine blk_put (cs := #[.int .i64 0, .string (⟨#[]⟩ : ByteArray)]) ?_ 0 _ rfl; (with_reducible repeat (first | refine blk_drewN ?_ _ | refine blk_drew ?_ | refine blk_alloc ?_ _)); exact BK171.out) Try.underlying26 rfl (by kernel_rfl)) rfl ?_
        exact ⟨by first | rfl | (simp [errW_none, errW_some] <;> rfl) | (simp [*, errW_none, errW_some] <;> rfl), by repeat (first | (with_reducible first | exact HB.out | apply below_alloc | apply pw_below_drewN | apply below_drew1 | refine below_set ?_ GE171.out) | exact HB.out)⟩
      · replace c7 := Bool.eq_false_iff.mpr c7
        subst c7
        have H1 : ((carillonref01_Put.f kj2 a0 2).bind fun t172 => (if t172.length + a1.size < 140737488355328 then ((some (t172 ++ bytesOf a1 : List Int)).bind fun y175 => (if ((y175.length : Int) % 2) = 0 then (if (y175.length : Int) > 400 then (some (0, (⟨#[]⟩ : ByteArray), false)) else (some (1, strOfNums y175, true))) else (if y175.length < 140737488355328 then ((some (y175 ++ [0] : List Int)).bind fun y178 => (if (y178.length : Int) > 400 then (some (0, (⟨#[]⟩ : ByteArray), false)) else (some (1, strOfNums y178, true)))) else (none)))) else (none))) = some (r1, r2, r3) := by rw [if_neg (show ¬ (false = true) by decide)] at H; exact H
        clear H
        have H := H1
        clear H1
        replace H := Option.bind_eq_some_iff.mp H
        obtain ⟨t172, A90, H⟩ := H
        replace H : (if t172.length + a1.size < 140737488355328 then ((some (t172 ++ bytesOf a1 : List Int)).bind fun y175 => (if ((y175.length : Int) % 2) = 0 then (if (y175.length : Int) > 400 then (some (0, (⟨#[]⟩ : ByteArray), false)) else (some (1, strOfNums y175, true))) else (if y175.length < 140737488355328 then ((some (y175 ++ [0] : List Int)).bind fun y178 => (if (y178.length : Int) > 400 then (some (0, (⟨#[]⟩ : ByteArray), false)) else (some (1, strOfNums y178, true)))) else (none)))) else (none)) = some (r1, r2, r3) := H
        have A9 := Aside0.mk A90
        clear A90
        by_cases c10 : t172.length + a1.size < 140737488355328
        · rw [if_pos c10] at H
          have LMc10 := Aside0.mk c10
          clear c10
          obtain ⟨y175, hy175⟩ : ∃ y_ : List Int, y_ = (t172 ++ bytesOf a1) := ⟨_, rfl⟩
          replace H : (if ((y175.length : Int) % 2) = 0 then (if (y175.length : Int) > 400 then (some (0, (⟨#[]⟩ : ByteArray), false)) else (some (1, strOfNums y175, true))) else (if y175.length < 140737488355328 then ((some (y175 ++ [0] : List Int)).bind fun y178 => (if (y178.length : Int) > 400 then (some (0, (⟨#[]⟩ : ByteArray), false)) else (some (1, strOfNums y178, true)))) else (none))) = some (r1, r2, r3) := by first | (rw [hy175]; with_reducible exact H) | (have H2_ := (Option.bind_some _ _).symm.trans H; rw [hy175]; with_reducible exact H2_) | (have H2_ := (Option.bind_some _ _).symm.trans H; with_reducible exact H2_) | with_reducible exact H | (rw [hy175]; exact H) | exact H
          have Ny175 := Aside0.mk hy175
          clear hy175
          by_cases c11 : ((y175.length : Int) % 2) = 0
          · rw [if_pos c11] at H
            have c11b0 : (((y175.length : Int) % 2) == 0) = true := beq_iff_eq.mpr c11
            have c11b1 : (((y175.length : Int) % 2) != 0) = false := bne_eq_false_iff_eq.mpr c11
            clear c11
            by_cases c12 : (y175.length : Int) > 400
            · rw [if_pos c12] at H
              have c12b0 : decide (400 < (y175.length : Int)) = true := decide_eq_true c12
              have c12b1 : decide (400 < y175.length) = true := decide_eq_true (by omega)
              clear c12
              simp only [Option.some.injEq, Prod.mk.injEq] at H
              obtain ⟨rfl, rfl, rfl⟩ := H
              go_wp2_with (first | ((with_reducible refine gate_callee (f := 41) rfl ?_); refine goesL_ (some 20) rfl rfl Try.func41 (by kernel_rfl) rfl #[.int .i64 a0, .int .i64 2] rfl (by (try simp only [List.map_toArray, List.map_cons, List.map_nil]); first | done | rfl | (simp only [List.length_drop, List.length_take]; rfl)) ?_; (with_reducible refine (carillonref01_Put.calls kj2 a0 2 t172 _ A9.out).mono ?_); rintro e w13 ⟨v173, rfl, ho0, hb⟩; refine ⟨_, rfl, ?_⟩; have n0_ := Aside0.mk (Kd.R_lower ho0 (below_size (by repeat (first | (with_reducible first | exact HB.out | apply below_alloc | apply pw_below_drewN | apply below_drew1 | refine below_set ?_ GE171.out) | exact HB.out)))); have n1_ := Aside0.mk (blk_below (g := gb171) (o := .cells #[.int .i64 0, .string (⟨#[]⟩ : ByteArray)] 26 (0, 0)) (by (with_reducible repeat (first | refine blk_drewN ?_ _ | refine blk_drew ?_ | refine blk_alloc ?_ _)); exact BK171.out) hb); have n2_ := Aside0.mk (below_step (by repeat (first | (with_reducible first | exact HB.out | apply below_alloc | apply pw_below_drewN | apply below_drew1 | refine below_set ?_ GE171.out) | exact HB.out)) hb); clear BK171; clear HB; have HO174 := n0_; have BK171 := n1_; have HB := n2_; clear n0_ n1_ n2_; (try clear hb); (try clear hb2); (try clear hk); (try clear hi); (try clear ho0)) | (at_builtin; refine print_append_str (w0 := w) w.heap.size rfl (.tmp 20) _ 31 9 5 rfl Try.underlying31 Try.underlying9 info5 v173 t172 a1 rfl rfl ?aO ?aB ?aS ?aL ?_; (case aB => exact (by repeat (first | (with_reducible first | exact HB.out | apply below_alloc | apply pw_below_drewN | apply below_drew1 | refine below_set ?_ GE171.out) | exact HB.out))); (case aO => exact (Kd.own_of_R (by (with_reducible repeat (first | apply Kd.R_alloc | apply Kd.R_drewN | apply Kd.R_drew)); exact HO174.out))); (case aS => exact (below_size (by repeat (first | (with_reducible first | exact HB.out | apply below_alloc | apply pw_below_drewN | apply below_drew1 | refine below_set ?_ GE171.out) | exact HB.out)))); (case aL => have := LMc10.out; omega); intro v176 w14 ho0 hb hg; have ho := Kd.R_of_own (h1 := fun _ => rfl) (ok := fun _ => True) ho0 (fun _ _ => trivial); clear ho0; have hat := True.intro; rw [← Ny175.out] at ho; change Kd.R (Kd.int .u8) 5 w14 w.heap.size (fun _ => True) v176 y175 at ho; have n0_ := Aside0.mk (blk_grown (g := gb171) (o := .cells #[.int .i64 0, .string (⟨#[]⟩ : ByteArray)] 26 (0, 0)) (by (with_reducible repeat (first | refine blk_drewN ?_ _ | refine blk_drew ?_ | refine blk_alloc ?_ _)); exact BK171.out) hg (Kd.R_ne HO174.out BK171.out (by decide))); have n1_ := Aside0.mk (hb); have n2_ := Aside0.mk (ho); clear BK171; clear HB; clear HO174; have BK171 := n0_; have HB := n1_; have HO177 := n2_; clear n0_ n1_ n2_; clear ho hb hg hat; obtain ⟨Ao15, co15, eo15⟩ := Kd.R_slice HO177.out; subst eo15; have hcz16_0 : w14.cell? ⟨gb171, 0, none⟩ = some (.int .i64 0) := (blk_cell BK171.out 0).trans rfl; have hcz16_1 : w14.cell? ⟨gb171, 1, none⟩ = some (.string (⟨#[]⟩ : ByteArray)) := (blk_cell BK171.out 1).trans rfl; have hfz16_0 := blk_frozen BK171.out 0; have hfz16_1 := blk_frozen BK171.out 1))
              refine bodyPost_ret (results_ct rfl _ _ gb171 26 #[.int .i64 0, .string (⟨#[]⟩ : ByteArray)] (0, 0) _ rfl (by (with_reducible repeat (first | refine blk_drewN ?_ _ | refine blk_drew ?_ | refine blk_alloc ?_ _)); refine blk_put (cs := #[.int .i64 0, .string (⟨#[]⟩ : ByteArray)]) ?_ 1 _ rfl; (with_reducible repeat (first | refine blk_drewN ?_ _ | refine blk_drew ?_ | refine blk_alloc ?_ _)); refine blk_put (cs := #[.int .i64 0, .string (⟨#[]⟩ : ByteArray)]) ?_ 0 _ rfl; (with_reducible repeat (first | refine blk_drewN ?_ _ | refine blk_drew ?_ | refine blk_alloc ?_ _)); exact BK171.out) Try.underlying26 rfl (by kernel_rfl)) rfl ?_
              exact ⟨by first | rfl | (simp [errW_none, errW_some] <;> rfl) | (simp [*, errW_none, errW_some] <;> rfl), by repeat (first | (with_reducible first | exact HB.out | apply below_alloc | apply pw_below_drewN | apply below_drew1 | refine below_set ?_ GE171.out) | exact HB.out)⟩
            · rw [if_neg c12] at H
              have c12b0 : decide (400 < (y175.length : Int)) = false := decide_eq_false c12
              have c12b1 : decide (400 < y175.length) = false := decide_eq_false (by omega)
              clear c12
              simp only [Option.some.injEq, Prod.mk.injEq] at H
              obtain ⟨rfl, rfl, rfl⟩ := H
              go_wp2_with (first | ((with_reducible refine gate_callee (f := 41) rfl ?_); refine goesL_ (some 20) rfl rfl Try.func41 (by kernel_rfl) rfl #[.int .i64 a0, .int .i64 2] rfl (by (try simp only [List.map_toArray, List.map_cons, List.map_nil]); first | done | rfl | (simp only [List.length_drop, List.length_take]; rfl)) ?_; (with_reducible refine (carillonref01_Put.calls kj2 a0 2 t172 _ A9.out).mono ?_); rintro e w17 ⟨v173, rfl, ho0, hb⟩; refine ⟨_, rfl, ?_⟩; have n0_ := Aside0.mk (Kd.R_lower ho0 (below_size (by repeat (first | (with_reducible first | exact HB.out | apply below_alloc | apply pw_below_drewN | apply below_drew1 | refine below_set ?_ GE171.out) | exact HB.out)))); have n1_ := Aside0.mk (blk_below (g := gb171) (o := .cells #[.int .i64 0, .string (⟨#[]⟩ : ByteArray)] 26 (0, 0)) (by (with_reducible repeat (first | refine blk_drewN ?_ _ | refine blk_drew ?_ | refine blk_alloc ?_ _)); exact BK171.out) hb); have n2_ := Aside0.mk (below_step (by repeat (first | (with_reducible first | exact HB.out | apply below_alloc | apply pw_below_drewN | apply below_drew1 | refine below_set ?_ GE171.out) | exact HB.out)) hb); clear BK171; clear HB; have HO174 := n0_; have BK171 := n1_; have HB := n2_; clear n0_ n1_ n2_; (try clear hb); (try clear hb2); (try clear hk); (try clear hi); (try clear ho0)) | (at_builtin; refine print_append_str (w0 := w) w.heap.size rfl (.tmp 20) _ 31 9 5 rfl Try.underlying31 Try.underlying9 info5 v173 t172 a1 rfl rfl ?aO ?aB ?aS ?aL ?_; (case aB => exact (by repeat (first | (with_reducible first | exact HB.out | apply below_alloc | apply pw_below_drewN | apply below_drew1 | refine below_set ?_ GE171.out) | exact HB.out))); (case aO => exact (Kd.own_of_R (by (with_reducible repeat (first | apply Kd.R_alloc | apply Kd.R_drewN | apply Kd.R_drew)); exact HO174.out))); (case aS => exact (below_size (by repeat (first | (with_reducible first | exact HB.out | apply below_alloc | apply pw_below_drewN | apply below_drew1 | refine below_set ?_ GE171.out) | exact HB.out)))); (case aL => have := LMc10.out; omega); intro v176 w18 ho0 hb hg; have ho := Kd.R_of_own (h1 := fun _ => rfl) (ok := fun _ => True) ho0 (fun _ _ => trivial); clear ho0; have hat := True.intro; rw [← Ny175.out] at ho; change Kd.R (Kd.int .u8) 5 w18 w.heap.size (fun _ => True) v176 y175 at ho; have n0_ := Aside0.mk (blk_grown (g := gb171) (o := .cells #[.int .i64 0, .string (⟨#[]⟩ : ByteArray)] 26 (0, 0)) (by (with_reducible repeat (first | refine blk_drewN ?_ _ | refine blk_drew ?_ | refine blk_alloc ?_ _)); exact BK171.out) hg (Kd.R_ne HO174.out BK171.out (by decide))); have n1_ := Aside0.mk (hb); have n2_ := Aside0.mk (ho); clear BK171; clear HB; clear HO174; have BK171 := n0_; have HB := n1_; have HO177 := n2_; clear n0_ n1_ n2_; clear ho hb hg hat; obtain ⟨Ao19, co19, eo19⟩ := Kd.R_slice HO177.out; subst eo19; have hcv20 := own_string (P := Try.prog) Try.underlying31 Try.underlying5 Try.underlying9 (Kd.own_of_R HO177.out); have hcz21_0 : w18.cell? ⟨gb171, 0, none⟩ = some (.int .i64 0) := (blk_cell BK171.out 0).trans rfl; have hcz21_1 : w18.cell? ⟨gb171, 1, none⟩ = some (.string (⟨#[]⟩ : ByteArray)) := (blk_cell BK171.out 1).trans rfl; have hfz21_0 := blk_frozen BK171.out 0; have hfz21_1 := blk_frozen BK171.out 1))
              refine bodyPost_ret (results_ct rfl _ _ gb171 26 #[.int .i64 1, .string (strOfNums y175)] (0, 0) _ rfl (by (with_reducible repeat (first | refine blk_drewN ?_ _ | refine blk_drew ?_ | refine blk_alloc ?_ _)); refine blk_put (cs := #[.int .i64 1, .string (⟨#[]⟩ : ByteArray)]) ?_ 1 _ rfl; (with_reducible repeat (first | refine blk_drewN ?_ _ | refine blk_drew ?_ | refine blk_alloc ?_ _)); refine blk_put (cs := #[.int .i64 0, .string (⟨#[]⟩ : ByteArray)]) ?_ 0 _ rfl; (with_reducible repeat (first | refine blk_drewN ?_ _ | refine blk_drew ?_ | refine blk_alloc ?_ _)); exact BK171.out) Try.underlying26 rfl (by kernel_rfl)) rfl ?_
              exact ⟨by first | rfl | (simp [errW_none, errW_some] <;> rfl) | (simp [*, errW_none, errW_some] <;> rfl), by repeat (first | (with_reducible first | exact HB.out | apply below_alloc | apply pw_below_drewN | apply below_drew1 | refine below_set ?_ GE171.out) | exact HB.out)⟩
          · rw [if_neg c11] at H
            have c11b0 : (((y175.length : Int) % 2) == 0) = false := beq_eq_false_iff_ne.mpr c11
            have c11b1 : (((y175.length : Int) % 2) != 0) = true := bne_iff_ne.mpr c11
            by_cases c22 : y175.length < 140737488355328
            · rw [if_pos c22] at H
              have LMc22 := Aside0.mk c22
              clear c22
              obtain ⟨y178, hy178⟩ : ∃ y_ : List Int, y_ = (y175 ++ [0]) := ⟨_, rfl⟩
              replace H : (if (y178.length : Int) > 400 then (some (0, (⟨#[]⟩ : ByteArray), false)) else (some (1, strOfNums y178, true))) = some (r1, r2, r3) := by first | (rw [hy178]; with_reducible exact H) | (have H2_ := (Option.bind_some _ _).symm.trans H; rw [hy178]; with_reducible exact H2_) | (have H2_ := (Option.bind_some _ _).symm.trans H; with_reducible exact H2_) | with_reducible exact H | (rw [hy178]; exact H) | exact H
              have Ny178 := Aside0.mk hy178
              clear hy178
              by_cases c23 : (y178.length : Int) > 400
              · rw [if_pos c23] at H
                have c23b0 : decide (400 < (y178.length : Int)) = true := decide_eq_true c23
                have c23b1 : decide (400 < y178.length) = true := decide_eq_true (by omega)
                clear c23
                simp only [Option.some.injEq, Prod.mk.injEq] at H
                obtain ⟨rfl, rfl, rfl⟩ := H
                go_wp2_with (first | ((with_reducible refine gate_callee (f := 41) rfl ?_); refine goesL_ (some 20) rfl rfl Try.func41 (by kernel_rfl) rfl #[.int .i64 a0, .int .i64 2] rfl (by (try simp only [List.map_toArray, List.map_cons, List.map_nil]); first | done | rfl | (simp only [List.length_drop, List.length_take]; rfl)) ?_; (with_reducible refine (carillonref01_Put.calls kj2 a0 2 t172 _ A9.out).mono ?_); rintro e w24 ⟨v173, rfl, ho0, hb⟩; refine ⟨_, rfl, ?_⟩; have n0_ := Aside0.mk (Kd.R_lower ho0 (below_size (by repeat (first | (with_reducible first | exact HB.out | apply below_alloc | apply pw_below_drewN | apply below_drew1 | refine below_set ?_ GE171.out) | exact HB.out)))); have n1_ := Aside0.mk (blk_below (g := gb171) (o := .cells #[.int .i64 0, .string (⟨#[]⟩ : ByteArray)] 26 (0, 0)) (by (with_reducible repeat (first | refine blk_drewN ?_ _ | refine blk_drew ?_ | refine blk_alloc ?_ _)); exact BK171.out) hb); have n2_ := Aside0.mk (below_step (by repeat (first | (with_reducible first | exact HB.out | apply below_alloc | apply pw_below_drewN | apply below_drew1 | refine below_set ?_ GE171.out) | exact HB.out)) hb); clear BK171; clear HB; have HO174 := n0_; have BK171 := n1_; have HB := n2_; clear n0_ n1_ n2_; (try clear hb); (try clear hb2); (try clear hk); (try clear hi); (try clear ho0)) | (at_builtin; refine print_append_str (w0 := w) w.heap.size rfl (.tmp 20) _ 31 9 5 rfl Try.underlying31 Try.underlying9 info5 v173 t172 a1 rfl rfl ?aO ?aB ?aS ?aL ?_; (case aB => exact (by repeat (first | (with_reducible first | exact HB.out | apply below_alloc | apply pw_below_drewN | apply below_drew1 | refine below_set ?_ GE171.out) | exact HB.out))); (case aO => exact (Kd.own_of_R (by (with_reducible repeat (first | apply Kd.R_alloc | apply Kd.R_drewN | apply Kd.R_drew)); exact HO174.out))); (case aS => exact (below_size (by repeat (first | (with_reducible first | exact HB.out | apply below_alloc | apply pw_below_drewN | apply below_drew1 | refine below_set ?_ GE171.out) | exact HB.out)))); (case aL => have := LMc10.out; omega); intro v176 w25 ho0 hb hg; have ho := Kd.R_of_own (h1 := fun _ => rfl) (ok := fun _ => True) ho0 (fun _ _ => trivial); clear ho0; have hat := True.intro; rw [← Ny175.out] at ho; change Kd.R (Kd.int .u8) 5 w25 w.heap.size (fun _ => True) v176 y175 at ho; have n0_ := Aside0.mk (blk_grown (g := gb171) (o := .cells #[.int .i64 0, .string (⟨#[]⟩ : ByteArray)] 26 (0, 0)) (by (with_reducible repeat (first | refine blk_drewN ?_ _ | refine blk_drew ?_ | refine blk_alloc ?_ _)); exact BK171.out) hg (Kd.R_ne HO174.out BK171.out (by decide))); have n1_ := Aside0.mk (hb); have n2_ := Aside0.mk (ho); clear BK171; clear HB; clear HO174; have BK171 := n0_; have HB := n1_; have HO177 := n2_; clear n0_ n1_ n2_; clear ho hb hg hat; obtain ⟨Ao26, co26, eo26⟩ := Kd.R_slice HO177.out; subst eo26) | ((with_reducible refine gate_builtin (b := .append) (xs := #[.tmp 27, .tmp 28]) rfl ?_); (try (refine gate_guard (by rfl) ?_; dsimp only)); at_builtin; refine Kd.R_append (Kd.int .u8) (w0 := w) w.heap.size rfl (.tmp 27) (.tmp 28) 31 5 (.int .u8 0) 1 rfl Try.underlying31 info5 rfl (by decide) (by omega) (.slice Ao26 y175.length co26) y175 0 [.int .u8 0] (fun _ => True) (fun _ => False) rfl rfl ?aP (fun _ hk => hk.elim) ?aF ?aO ?aB ?aS ?aL ?_; (case aP => exact rfl); (case aB => exact (by repeat (first | (with_reducible first | exact HB.out | apply below_alloc | apply pw_below_drewN | apply below_drew1 | refine below_set ?_ GE171.out) | exact HB.out))); (case aF => exact (fun _ _ => trivial)); (case aO => exact (by (with_reducible repeat (first | apply Kd.R_alloc | apply Kd.R_drewN | apply Kd.R_drew)); exact HO177.out)); (case aS => exact (below_size (by repeat (first | (with_reducible first | exact HB.out | apply below_alloc | apply pw_below_drewN | apply below_drew1 | refine below_set ?_ GE171.out) | exact HB.out)))); (case aL => have := LMc22.out; omega); intro v179 w27 ho hb hg hat; rw [← Ny178.out] at ho; have n0_ := Aside0.mk (blk_grown (g := gb171) (o := .cells #[.int .i64 0, .string (⟨#[]⟩ : ByteArray)] 26 (0, 0)) (by (with_reducible repeat (first | refine blk_drewN ?_ _ | refine blk_drew ?_ | refine blk_alloc ?_ _)); exact BK171.out) hg (Kd.R_ne HO177.out BK171.out (by decide))); have n1_ := Aside0.mk (hb); have n2_ := Aside0.mk (ho); clear BK171; clear HB; clear HO177; have BK171 := n0_; have HB := n1_; have HO180 := n2_; clear n0_ n1_ n2_; clear ho hb hg hat; obtain ⟨Ao28, co28, eo28⟩ := Kd.R_slice HO180.out; subst eo28; have hcz29_0 : w27.cell? ⟨gb171, 0, none⟩ = some (.int .i64 0) := (blk_cell BK171.out 0).trans rfl; have hcz29_1 : w27.cell? ⟨gb171, 1, none⟩ = some (.string (⟨#[]⟩ : ByteArray)) := (blk_cell BK171.out 1).trans rfl; have hfz29_0 := blk_frozen BK171.out 0; have hfz29_1 := blk_frozen BK171.out 1))
                refine bodyPost_ret (results_ct rfl _ _ gb171 26 #[.int .i64 0, .string (⟨#[]⟩ : ByteArray)] (0, 0) _ rfl (by (with_reducible repeat (first | refine blk_drewN ?_ _ | refine blk_drew ?_ | refine blk_alloc ?_ _)); refine blk_put (cs := #[.int .i64 0, .string (⟨#[]⟩ : ByteArray)]) ?_ 1 _ rfl; (with_reducible repeat (first | refine blk_drewN ?_ _ | refine blk_drew ?_ | refine blk_alloc ?_ _)); refine blk_put (cs := #[.int .i64 0, .string (⟨#[]⟩ : ByteArray)]) ?_ 0 _ rfl; (with_reducible repeat (first | refine blk_drewN ?_ _ | refine blk_drew ?_ | refine blk_alloc ?_ _)); exact BK171.out) Try.underlying26 rfl (by kernel_rfl)) rfl ?_
                exact ⟨by first | rfl | (simp [errW_none, errW_some] <;> rfl) | (simp [*, errW_none, errW_some] <;> rfl), by repeat (first | (with_reducible first | exact HB.out | apply below_alloc | apply pw_below_drewN | apply below_drew1 | refine below_set ?_ GE171.out) | exact HB.out)⟩
              · rw [if_neg c23] at H
                have c23b0 : decide (400 < (y178.length : Int)) = false := decide_eq_false c23
                have c23b1 : decide (400 < y178.length) = false := decide_eq_false (by omega)
                clear c23
                simp only [Option.some.injEq, Prod.mk.injEq] at H
                obtain ⟨rfl, rfl, rfl⟩ := H
                go_wp2_with (first | ((with_reducible refine gate_callee (f := 41) rfl ?_); refine goesL_ (some 20) rfl rfl Try.func41 (by kernel_rfl) rfl #[.int .i64 a0, .int .i64 2] rfl (by (try simp only [List.map_toArray, List.map_cons, List.map_nil]); first | done | rfl | (simp only [List.length_drop, List.length_take]; rfl)) ?_; (with_reducible refine (carillonref01_Put.calls kj2 a0 2 t172 _ A9.out).mono ?_); rintro e w30 ⟨v173, rfl, ho0, hb⟩; refine ⟨_, rfl, ?_⟩; have n0_ := Aside0.mk (Kd.R_lower ho0 (below_size (by repeat (first | (with_reducible first | exact HB.out | apply below_alloc | apply pw_below_drewN | apply below_drew1 | refine below_set ?_ GE171.out) | exact HB.out)))); have n1_ := Aside0.mk (blk_below (g := gb171) (o := .cells #[.int .i64 0, .string (⟨#[]⟩ : ByteArray)] 26 (0, 0)) (by (with_reducible repeat (first | refine blk_drewN ?_ _ | refine blk_drew ?_ | refine blk_alloc ?_ _)); exact BK171.out) hb); have n2_ := Aside0.mk (below_step (by repeat (first | (with_reducible first | exact HB.out | apply below_alloc | apply pw_below_drewN | apply below_drew1 | refine below_set ?_ GE171.out) | exact HB.out)) hb); clear BK171; clear HB; have HO174 := n0_; have BK171 := n1_; have HB := n2_; clear n0_ n1_ n2_; (try clear hb); (try clear hb2); (try clear hk); (try clear hi); (try clear ho0)) | (at_builtin; refine print_append_str (w0 := w) w.heap.size rfl (.tmp 20) _ 31 9 5 rfl Try.underlying31 Try.underlying9 info5 v173 t172 a1 rfl rfl ?aO ?aB ?aS ?aL ?_; (case aB => exact (by repeat (first | (with_reducible first | exact HB.out | apply below_alloc | apply pw_below_drewN | apply below_drew1 | refine below_set ?_ GE171.out) | exact HB.out))); (case aO => exact (Kd.own_of_R (by (with_reducible repeat (first | apply Kd.R_alloc | apply Kd.R_drewN | apply Kd.R_drew)); exact HO174.out))); (case aS => exact (below_size (by repeat (first | (with_reducible first | exact HB.out | apply below_alloc | apply pw_below_drewN | apply below_drew1 | refine below_set ?_ GE171.out) | exact HB.out)))); (case aL => have := LMc10.out; omega); intro v176 w31 ho0 hb hg; have ho := Kd.R_of_own (h1 := fun _ => rfl) (ok := fun _ => True) ho0 (fun _ _ => trivial); clear ho0; have hat := True.intro; rw [← Ny175.out] at ho; change Kd.R (Kd.int .u8) 5 w31 w.heap.size (fun _ => True) v176 y175 at ho; have n0_ := Aside0.mk (blk_grown (g := gb171) (o := .cells #[.int .i64 0, .string (⟨#[]⟩ : ByteArray)] 26 (0, 0)) (by (with_reducible repeat (first | refine blk_drewN ?_ _ | refine blk_drew ?_ | refine blk_alloc ?_ _)); exact BK171.out) hg (Kd.R_ne HO174.out BK171.out (by decide))); have n1_ := Aside0.mk (hb); have n2_ := Aside0.mk (ho); clear BK171; clear HB; clear HO174; have BK171 := n0_; have HB := n1_; have HO177 := n2_; clear n0_ n1_ n2_; clear ho hb hg hat; obtain ⟨Ao32, co32, eo32⟩ := Kd.R_slice HO177.out; subst eo32) | ((with_reducible refine gate_builtin (b := .append) (xs := #[.tmp 27, .tmp 28]) rfl ?_); (try (refine gate_guard (by rfl) ?_; dsimp only)); at_builtin; refine Kd.R_append (Kd.int .u8) (w0 := w) w.heap.size rfl (.tmp 27) (.tmp 28) 31 5 (.int .u8 0) 1 rfl Try.underlying31 info5 rfl (by decide) (by omega) (.slice Ao32 y175.length co32) y175 0 [.int .u8 0] (fun _ => True) (fun _ => False) rfl rfl ?aP (fun _ hk => hk.elim) ?aF ?aO ?aB ?aS ?aL ?_; (case aP => exact rfl); (case aB => exact (by repeat (first | (with_reducible first | exact HB.out | apply below_alloc | apply pw_below_drewN | apply below_drew1 | refine below_set ?_ GE171.out) | exact HB.out))); (case aF => exact (fun _ _ => trivial)); (case aO => exact (by (with_reducible repeat (first | apply Kd.R_alloc | apply Kd.R_drewN | apply Kd.R_drew)); exact HO177.out)); (case aS => exact (below_size (by repeat (first | (with_reducible first | exact HB.out | apply below_alloc | apply pw_below_drewN | apply below_drew1 | refine below_set ?_ GE171.out) | exact HB.out)))); (case aL => have := LMc22.out; omega); intro v179 w33 ho hb hg hat; rw [← Ny178.out] at ho; have n0_ := Aside0.mk (blk_grown (g := gb171) (o := .cells #[.int .i64 0, .string (⟨#[]⟩ : ByteArray)] 26 (0, 0)) (by (with_reducible repeat (first | refine blk_drewN ?_ _ | refine blk_drew ?_ | refine blk_alloc ?_ _)); exact BK171.out) hg (Kd.R_ne HO177.out BK171.out (by decide))); have n1_ := Aside0.mk (hb); have n2_ := Aside0.mk (ho); clear BK171; clear HB; clear HO177; have BK171 := n0_; have HB := n1_; have HO180 := n2_; clear n0_ n1_ n2_; clear ho hb hg hat; obtain ⟨Ao34, co34, eo34⟩ := Kd.R_slice HO180.out; subst eo34; have hcv35 := own_string (P := Try.prog) Try.underlying31 Try.underlying5 Try.underlying9 (Kd.own_of_R HO180.out); have hcz36_0 : w33.cell? ⟨gb171, 0, none⟩ = some (.int .i64 0) := (blk_cell BK171.out 0).trans rfl; have hcz36_1 : w33.cell? ⟨gb171, 1, none⟩ = some (.string (⟨#[]⟩ : ByteArray)) := (blk_cell BK171.out 1).trans rfl; have hfz36_0 := blk_frozen BK171.out 0; have hfz36_1 := blk_frozen BK171.out 1))
                refine bodyPost_ret (results_ct rfl _ _ gb171 26 #[.int .i64 1, .string (strOfNums y178)] (0, 0) _ rfl (by (with_reducible repeat (first | refine blk_drewN ?_ _ | refine blk_drew ?_ | refine blk_alloc ?_ _)); refine blk_put (cs := #[.int .i64 1, .string (⟨#[]⟩ : ByteArray)]) ?_ 1 _ rfl; (with_reducible repeat (first | refine blk_drewN ?_ _ | refine blk_drew ?_ | refine blk_alloc ?_ _)); refine blk_put (cs := #[.int .i64 0, .string (⟨#[]⟩ : ByteArray)]) ?_ 0 _ rfl; (with_reducible repeat (first | refine blk_drewN ?_ _ | refine blk_drew ?_ | refine blk_alloc ?_ _)); exact BK171.out) Try.underlying26 rfl (by kernel_rfl)) rfl ?_
                exact ⟨by first | rfl | (simp [errW_none, errW_some] <;> rfl) | (simp [*, errW_none, errW_some] <;> rfl), by repeat (first | (with_reducible first | exact HB.out | apply below_alloc | apply pw_below_drewN | apply below_drew1 | refine below_set ?_ GE171.out) | exact HB.out)⟩
            · rw [if_neg c22] at H
              exact absurd H (by simp)
        · rw [if_neg c10] at H
          exact absurd H (by simp)
end Go.Proofs.Ytgmiokocipmbaaa.P
