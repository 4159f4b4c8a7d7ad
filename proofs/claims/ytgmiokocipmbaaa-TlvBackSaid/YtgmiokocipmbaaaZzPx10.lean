/- Functions and loops of the given program as Lean functions, and that the code comes to what they say: written by this session's own program; Lean checks it. -/
import Derived.Test.YtgmiokocipmbaaaZzPx0
import Derived.Test.YtgmiokocipmbaaaZzPx2
import Derived.Test.YtgmiokocipmbaaaZzPx6
namespace Go.Proofs.Ytgmiokocipmbaaa.P
open Go.RowKit Go.Proofs.YtgmiokocipmbaaaW.PrintWords Go.Proofs.YtgmiokocipmbaaaW.PrintLast Go.Proofs.YtgmiokocipmbaaaW.PrintMore
attribute [local go_sem] max2_int min2_int max_two min_two max_three min_three max_four min_four   -- for this text's walks alone
set_option linter.unusedVariables false
set_option linter.unusedSimpArgs false
/-! ### tlv_Manage: function 27: by our own printer -/
def tlv_Manage.f (a0 : Int) (a1 : ByteArray) : Option (Int × ByteArray × Bool) := (tlv_in.f a0 0 65535).bind fun t7 => (if t7 = true then (if (a1.size : Int) > 400 then (some (0, (⟨#[]⟩ : ByteArray), false)) else ((octets_Put.f [] a0 2).bind fun t11 => (if t11.length + a1.size ≤ 140737488355328 then (if (Int.tmod ((t11 ++ bytesOf a1 : List Int).length : Int) 2) = 0 then (if ((t11 ++ bytesOf a1 : List Int).length : Int) > 400 then (some (0, (⟨#[]⟩ : ByteArray), false)) else (some (1, strOfNums (t11 ++ bytesOf a1 : List Int), true))) else (if ((t11 ++ bytesOf a1 : List Int).length + [0].length) * 1 ≤ 140737488355328 then (if (((t11 ++ bytesOf a1 : List Int) ++ [0] : List Int).length : Int) > 400 then (some (0, (⟨#[]⟩ : ByteArray), false)) else (some (1, strOfNums ((t11 ++ bytesOf a1 : List Int) ++ [0] : List Int), true))) else (none))) else (none)))) else (some (0, (⟨#[]⟩ : ByteArray), false)))
open Go.Proofs.Ytgmiokocipmbaaa.E in
set_option maxHeartbeats 60000000 in
set_option maxRecDepth 100000 in
theorem tlv_Manage.calls (a0 : Int) (a1 : ByteArray) (r1 : Int) (r2 : ByteArray) (r3 : Bool) (w : World) (h : tlv_Manage.f a0 a1 = some (r1, r2, r3)) :
    Calls Try.prog 27 #[.int .i64 a0, .string a1] w fun e w' => e = .returned (.tuple #[.agg #[.int .i64 r1, .string r2], .bool r3]) ∧ Below w.heap.size w w' := by
  have H := h
  clear h
  unfold tlv_Manage.f at H
  obtain ⟨t7, At7, H⟩ := Option.bind_eq_some_iff.mp H
  by_cases c1 : t7 = true
  rotate_left
  · rw [if_neg c1] at H
    simp only [Option.some.injEq, Prod.mk.injEq] at H
    obtain ⟨rfl, rfl, rfl⟩ := H
    refine calls_of_wp (fn := Try.f27) (by kernel_rfl) rfl ?_
    have hS := St.enter #[.int .i64 a0, .string a1] 39 (by simp) [(0, .int .i64 a0), (1, .string a1)] (by simp)
    have HB0 := Below.refl w.heap.size w
    refine wp_seq_k (fun K1 hK1 => ?_)
    refine reg_seq (N := 39) (bs := [(0, .int .i64 a0), (1, .string a1)]) (I := fun x => Below w.heap.size w x) (ps := [IsB #[.int .i64 0, .string (⟨#[]⟩ : ByteArray)] 26 w.heap.size, VB false]) (by kernel_rfl) ?_ ?_ rfl hS HB0 ?_ ?_
    · exact fun x y hI hb => below_step hI hb
    · exact .cons (Stays.b _ _ _) (.v (.nil))
    · refine .on rfl (fun a w hS hI hp => does_var (x_alloc rfl (by kernel_rfl)) (hI).size) ?_
      refine .on rfl (fun a w hS hI hp => does_val (x_assign rfl (rfl)) rfl) ?_
      exact .nil
    clear hS
    intro at2 w3 hS hI hp
    have hBw3_w := hI
    obtain ⟨g4, hv4, hgeg4, hbxg4⟩ := (show IsB _ 26 _ (sl _ 4) _ from hp 0 (by decide))
    have hBw3_w3 := Below.refl w3.heap.size w3
    have hS := hS.cons hv4
    clear hp hI hv4
    refine hK1 _ _ ?_
    (try clear hK1 K1)
    refine wp_seq_k (fun K5 hK5 => ?_)
    refine wp_seq_k (fun K6 hK6 => ?_)
    refine reg_seq (N := 39) (bs := [(4, .pointer (some ⟨g4, 0, none⟩)), (0, .int .i64 a0), (1, .string a1)]) (I := fun x => Below w.heap.size w x ∧ Below w3.heap.size w3 x) (ps := [VI a0, VB t7, VB (!t7), VB (!t7), VU, VU, VU, VB true]) (by kernel_rfl) ?_ ?_ rfl hS ⟨hBw3_w, hBw3_w3⟩ ?_ ?_
    · exact fun x y hI hb => ⟨below_step hI.1 hb, below_step hI.2 hb⟩
    · exact .v (.v (.v (.v (.v (.v (.v (.v (.nil))))))))
    · refine .ms 1 rfl rfl rfl ?_
      refine .on rfl (fun a w hS hI hp => does_call (by kernel_rfl) (ar3 (hp.V 0 rfl rfl) (rfl) (rfl)) ((tlv_in.calls a0 0 65535 t7 _  At7).mono fun _ _ h => ⟨_, h.1, h.2.below, rfl⟩)) ?_
      refine .on rfl (fun a w hS hI hp => does_val (x_not rfl (hp.V 1 rfl rfl)) rfl) ?_
      refine .mv 2 rfl rfl rfl rfl ?_
      iterate 3 refine .sn 3 10 rfl rfl rfl rfl rfl ((congrArg (!·) (Bool.eq_false_iff.2 c1))) ?_
      refine .on rfl (fun a w hS hI hp => does_val (x_pickT rfl ((hp.V 3 rfl rfl).trans (bT (congrArg (!·) (Bool.eq_false_iff.2 c1)))) (rfl)) rfl) ?_
      exact .nil
    clear hS
    intro at8 w9 hS hI hp
    have hBw9_w := hI.1
    have hBw9_w3 := hI.2
    have hv14 : sl _ 14 = .bool true := hp 7 (by decide)
    have hBw9_w9 := Below.refl w9.heap.size w9
    have hS := hS.cons hv14
    clear hp hI hv14
    refine hK6 _ _ ?_
    (try clear hK6 K6)
    refine wp_cond_true ((hS.get 0 rfl).trans (bT rfl)) ?_
    refine wp_seq_k (fun K10 hK10 => ?_)
    refine reg_seq_tail 1 (N := 39) (bs := [(14, .bool true), (4, .pointer (some ⟨g4, 0, none⟩)), (0, .int .i64 a0), (1, .string a1)]) (I := fun x => Below w.heap.size w x ∧ Below w3.heap.size w3 x ∧ Below w9.heap.size w9 x) (ps := [IsV (.agg #[.int .i64 0, .string (⟨#[]⟩ : ByteArray)])]) (by kernel_rfl) ?_ ?_ rfl hS ⟨hBw9_w, hBw9_w3, hBw9_w9⟩ ?_ ?_
    · exact fun x y hI hb => ⟨below_step hI.1 hb, below_step hI.2.1 hb, below_step hI.2.2 hb⟩
    · exact .v (.nil)
    · refine .on rfl (fun a w hS hI hp => does_val (x_build (vs := []) rfl (by rw [Array.toList_map]; exact (show [] = _ from rfl)) (by kernel_rfl)) rfl) ?_
      exact .nil
    clear hS
    intro at11 w12 hS hI hp
    have hBw12_w := hI.1
    have hBw12_w3 := hI.2.1
    have hBw12_w9 := hI.2.2
    replace hS := (hS.nil).cons (hS.get 1 rfl)
    have hv15 : sl _ 15 = .agg #[.int .i64 0, .string (⟨#[]⟩ : ByteArray)] := hp 0 (by decide)
    have hBw12_w12 := Below.refl w12.heap.size w12
    have hS := hS.cons hv15
    clear hp hI hv15
    show wpList _ _ _ [_, _] _ _
    refine list_step rfl (does_storeAll (g := g4) (cs := #[.int .i64 0, .string (⟨#[]⟩ : ByteArray)]) rfl (hS.get 1 rfl) (hS.get 0 rfl) ((hBw12_w3.block g4 (blk_lt hbxg4)).trans hbxg4) (by kernel_rfl) (by kernel_rfl) (by kernel_rfl)) ?_
    rintro vw13 w13 ⟨rfl, hbxw13, hT⟩
    have hBw13_w := hT.below hBw12_w hgeg4 (hBw12_w).size
    have hBw13_w13 := Below.refl w13.heap.size w13
    clear hT
    refine list_step rfl (R := fun v w' => Below _ _ w' ∧ (VB false) v w') (does_val (x_assign rfl (rfl)) rfl) ?_
    rintro vw14 w14 ⟨hb, he⟩
    have hBw14_w := below_step hBw13_w hb
    have hBw14_w13 := below_step hBw13_w13 hb
    have hBw14_w14 := Below.refl w14.heap.size w14
    obtain rfl : vw14 = .bool false := he
    refine hS.next (v := .bool false) (d := 5) rfl (by decide) (by rfl) ?_
    clear hS
    intro at15 hS
    refine wpList_nil ?_
    refine hK10 _ _ ?_
    (try clear hK10 K10)
    refine wp_ret ?_
    (try simp only [Exit.then, Exit.inBlock, Exit.jump, Exit.noGoto])
    exact bodyPost_ret (v := .tuple #[.agg #[.int .i64 0, .string (⟨#[]⟩ : ByteArray)], .bool false]) (results_list (rs := [.cell 4 26, .tmp 5]) rfl (by simp) (Vals.cell g4 26 #[.int .i64 0, .string (⟨#[]⟩ : ByteArray)] (0, 0) _ (hS.get 2 rfl) ((hBw14_w13.block g4 (blk_lt hbxw13)).trans hbxw13) Try.underlying26 rfl (by kernel_rfl) (Vals.at (hS.get 0 rfl) .nil))) hS.nodef ⟨rfl, hBw14_w⟩
  rw [if_pos c1] at H
  by_cases c2 : (a1.size : Int) > 400
  · rw [if_pos c2] at H
    simp only [Option.some.injEq, Prod.mk.injEq] at H
    obtain ⟨rfl, rfl, rfl⟩ := H
    refine calls_of_wp (fn := Try.f27) (by kernel_rfl) rfl ?_
    have hS := St.enter #[.int .i64 a0, .string a1] 39 (by simp) [(0, .int .i64 a0), (1, .string a1)] (by simp)
    have HB0 := Below.refl w.heap.size w
    refine wp_seq_k (fun K1 hK1 => ?_)
    refine reg_seq (N := 39) (bs := [(0, .int .i64 a0), (1, .string a1)]) (I := fun x => Below w.heap.size w x) (ps := [IsB #[.int .i64 0, .string (⟨#[]⟩ : ByteArray)] 26 w.heap.size, VB false]) (by kernel_rfl) ?_ ?_ rfl hS HB0 ?_ ?_
    · exact fun x y hI hb => below_step hI hb
    · exact .cons (Stays.b _ _ _) (.v (.nil))
    · refine .on rfl (fun a w hS hI hp => does_var (x_alloc rfl (by kernel_rfl)) (hI).size) ?_
      refine .on rfl (fun a w hS hI hp => does_val (x_assign rfl (rfl)) rfl) ?_
      exact .nil
    clear hS
    intro at2 w3 hS hI hp
    have hBw3_w := hI
    obtain ⟨g4, hv4, hgeg4, hbxg4⟩ := (show IsB _ 26 _ (sl _ 4) _ from hp 0 (by decide))
    have hBw3_w3 := Below.refl w3.heap.size w3
    have hS := hS.cons hv4
    clear hp hI hv4
    refine hK1 _ _ ?_
    (try clear hK1 K1)
    refine wp_seq_k (fun K5 hK5 => ?_)
    refine wp_seq_k (fun K6 hK6 => ?_)
    refine reg_seq (N := 39) (bs := [(4, .pointer (some ⟨g4, 0, none⟩)), (0, .int .i64 a0), (1, .string a1)]) (I := fun x => Below w.heap.size w x ∧ Below w3.heap.size w3 x) (ps := [VI a0, VB t7, VB (!t7), VB (!t7), IsV (.string a1), VI (a1.size : Int), VB (decide ((a1.size : Int) > 400)), VB (decide ((a1.size : Int) > 400))]) (by kernel_rfl) ?_ ?_ rfl hS ⟨hBw3_w, hBw3_w3⟩ ?_ ?_
    · exact fun x y hI hb => ⟨below_step hI.1 hb, below_step hI.2 hb⟩
    · exact .v (.v (.v (.v (.v (.v (.v (.v (.nil))))))))
    · refine .ms 1 rfl rfl rfl ?_
      refine .on rfl (fun a w hS hI hp => does_call (by kernel_rfl) (ar3 (hp.V 0 rfl rfl) (rfl) (rfl)) ((tlv_in.calls a0 0 65535 t7 _  At7).mono fun _ _ h => ⟨_, h.1, h.2.below, rfl⟩)) ?_
      refine .on rfl (fun a w hS hI hp => does_val (x_not rfl (hp.V 1 rfl rfl)) rfl) ?_
      refine .mv 2 rfl rfl rfl rfl ?_
      refine .oy 3 10 rfl rfl rfl rfl rfl ((congrArg (!·) c1)) (fun a w hS hI hp => does_val (x_move rfl (hS.get 2 rfl)) rfl) ?_
      refine .oy 3 10 rfl rfl rfl rfl rfl ((congrArg (!·) c1)) (fun a w hS hI hp => does_val (x_lenS rfl (by kernel_rfl) (hp.V 4 rfl rfl)) rfl) ?_
      refine .oy 3 10 rfl rfl rfl rfl rfl ((congrArg (!·) c1)) (fun a w hS hI hp => does_val (x_bin rfl (hp.V 5 rfl rfl) (rfl) (b_gtr _ _ _ _ _ _)) rfl) ?_
      refine .on rfl (fun a w hS hI hp => does_val (x_pickF rfl ((hp.V 3 rfl rfl).trans (bF (congrArg (!·) c1))) (hp.V 6 rfl rfl)) rfl) ?_
      exact .nil
    clear hS
    intro at8 w9 hS hI hp
    have hBw9_w := hI.1
    have hBw9_w3 := hI.2
    have hv14 : sl _ 14 = .bool (decide ((a1.size : Int) > 400)) := hp 7 (by decide)
    have hBw9_w9 := Below.refl w9.heap.size w9
    have hS := hS.cons hv14
    clear hp hI hv14
    refine hK6 _ _ ?_
    (try clear hK6 K6)
    refine wp_cond_true ((hS.get 0 rfl).trans (bT (decide_eq_true c2))) ?_
    refine wp_seq_k (fun K10 hK10 => ?_)
    refine reg_seq_tail 1 (N := 39) (bs := [(14, .bool (decide ((a1.size : Int) > 400))), (4, .pointer (some ⟨g4, 0, none⟩)), (0, .int .i64 a0), (1, .string a1)]) (I := fun x => Below w.heap.size w x ∧ Below w3.heap.size w3 x ∧ Below w9.heap.size w9 x) (ps := [IsV (.agg #[.int .i64 0, .string (⟨#[]⟩ : ByteArray)])]) (by kernel_rfl) ?_ ?_ rfl hS ⟨hBw9_w, hBw9_w3, hBw9_w9⟩ ?_ ?_
    · exact fun x y hI hb => ⟨below_step hI.1 hb, below_step hI.2.1 hb, below_step hI.2.2 hb⟩
    · exact .v (.nil)
    · refine .on rfl (fun a w hS hI hp => does_val (x_build (vs := []) rfl (by rw [Array.toList_map]; exact (show [] = _ from rfl)) (by kernel_rfl)) rfl) ?_
      exact .nil
    clear hS
    intro at11 w12 hS hI hp
    have hBw12_w := hI.1
    have hBw12_w3 := hI.2.1
    have hBw12_w9 := hI.2.2
    replace hS := (hS.nil).cons (hS.get 1 rfl)
    have hv15 : sl _ 15 = .agg #[.int .i64 0, .string (⟨#[]⟩ : ByteArray)] := hp 0 (by decide)
    have hBw12_w12 := Below.refl w12.heap.size w12
    have hS := hS.cons hv15
    clear hp hI hv15
    show wpList _ _ _ [_, _] _ _
    refine list_step rfl (does_storeAll (g := g4) (cs := #[.int .i64 0, .string (⟨#[]⟩ : ByteArray)]) rfl (hS.get 1 rfl) (hS.get 0 rfl) ((hBw12_w3.block g4 (blk_lt hbxg4)).trans hbxg4) (by kernel_rfl) (by kernel_rfl) (by kernel_rfl)) ?_
    rintro vw13 w13 ⟨rfl, hbxw13, hT⟩
    have hBw13_w := hT.below hBw12_w hgeg4 (hBw12_w).size
    have hBw13_w13 := Below.refl w13.heap.size w13
    clear hT
    refine list_step rfl (R := fun v w' => Below _ _ w' ∧ (VB false) v w') (does_val (x_assign rfl (rfl)) rfl) ?_
    rintro vw14 w14 ⟨hb, he⟩
    have hBw14_w := below_step hBw13_w hb
    have hBw14_w13 := below_step hBw13_w13 hb
    have hBw14_w14 := Below.refl w14.heap.size w14
    obtain rfl : vw14 = .bool false := he
    refine hS.next (v := .bool false) (d := 5) rfl (by decide) (by rfl) ?_
    clear hS
    intro at15 hS
    refine wpList_nil ?_
    refine hK10 _ _ ?_
    (try clear hK10 K10)
    refine wp_ret ?_
    (try simp only [Exit.then, Exit.inBlock, Exit.jump, Exit.noGoto])
    exact bodyPost_ret (v := .tuple #[.agg #[.int .i64 0, .string (⟨#[]⟩ : ByteArray)], .bool false]) (results_list (rs := [.cell 4 26, .tmp 5]) rfl (by simp) (Vals.cell g4 26 #[.int .i64 0, .string (⟨#[]⟩ : ByteArray)] (0, 0) _ (hS.get 2 rfl) ((hBw14_w13.block g4 (blk_lt hbxw13)).trans hbxw13) Try.underlying26 rfl (by kernel_rfl) (Vals.at (hS.get 0 rfl) .nil))) hS.nodef ⟨rfl, hBw14_w⟩
  rw [if_neg c2] at H
  obtain ⟨t11, At11, H⟩ := Option.bind_eq_some_iff.mp H
  by_cases c3 : t11.length + a1.size ≤ 140737488355328
  rotate_left
  · rw [if_neg c3] at H
    exact absurd H (by simp)
  rw [if_pos c3] at H
  by_cases c4 : (Int.tmod ((t11 ++ bytesOf a1 : List Int).length : Int) 2) = 0
  · rw [if_pos c4] at H
    by_cases c5 : ((t11 ++ bytesOf a1 : List Int).length : Int) > 400
    · rw [if_pos c5] at H
      simp only [Option.some.injEq, Prod.mk.injEq] at H
      obtain ⟨rfl, rfl, rfl⟩ := H
      refine calls_of_wp (fn := Try.f27) (by kernel_rfl) rfl ?_
      have hS := St.enter #[.int .i64 a0, .string a1] 39 (by simp) [(0, .int .i64 a0), (1, .string a1)] (by simp)
      have HB0 := Below.refl w.heap.size w
      refine wp_seq_k (fun K1 hK1 => ?_)
      refine reg_seq (N := 39) (bs := [(0, .int .i64 a0), (1, .string a1)]) (I := fun x => Below w.heap.size w x) (ps := [IsB #[.int .i64 0, .string (⟨#[]⟩ : ByteArray)] 26 w.heap.size, VB false]) (by kernel_rfl) ?_ ?_ rfl hS HB0 ?_ ?_
      · exact fun x y hI hb => below_step hI hb
      · exact .cons (Stays.b _ _ _) (.v (.nil))
      · refine .on rfl (fun a w hS hI hp => does_var (x_alloc rfl (by kernel_rfl)) (hI).size) ?_
        refine .on rfl (fun a w hS hI hp => does_val (x_assign rfl (rfl)) rfl) ?_
        exact .nil
      clear hS
      intro at2 w3 hS hI hp
      have hBw3_w := hI
      obtain ⟨g4, hv4, hgeg4, hbxg4⟩ := (show IsB _ 26 _ (sl _ 4) _ from hp 0 (by decide))
      have hBw3_w3 := Below.refl w3.heap.size w3
      have hS := hS.cons hv4
      clear hp hI hv4
      refine hK1 _ _ ?_
      (try clear hK1 K1)
      refine wp_seq_k (fun K5 hK5 => ?_)
      refine wp_seq_k (fun K6 hK6 => ?_)
      refine reg_seq (N := 39) (bs := [(4, .pointer (some ⟨g4, 0, none⟩)), (0, .int .i64 a0), (1, .string a1)]) (I := fun x => Below w.heap.size w x ∧ Below w3.heap.size w3 x) (ps := [VI a0, VB t7, VB (!t7), VB (!t7), IsV (.string a1), VI (a1.size : Int), VB (decide ((a1.size : Int) > 400)), VB (decide ((a1.size : Int) > 400))]) (by kernel_rfl) ?_ ?_ rfl hS ⟨hBw3_w, hBw3_w3⟩ ?_ ?_
      · exact fun x y hI hb => ⟨below_step hI.1 hb, below_step hI.2 hb⟩
      · exact .v (.v (.v (.v (.v (.v (.v (.v (.nil))))))))
      · refine .ms 1 rfl rfl rfl ?_
        refine .on rfl (fun a w hS hI hp => does_call (by kernel_rfl) (ar3 (hp.V 0 rfl rfl) (rfl) (rfl)) ((tlv_in.calls a0 0 65535 t7 _  At7).mono fun _ _ h => ⟨_, h.1, h.2.below, rfl⟩)) ?_
        refine .on rfl (fun a w hS hI hp => does_val (x_not rfl (hp.V 1 rfl rfl)) rfl) ?_
        refine .mv 2 rfl rfl rfl rfl ?_
        refine .oy 3 10 rfl rfl rfl rfl rfl ((congrArg (!·) c1)) (fun a w hS hI hp => does_val (x_move rfl (hS.get 2 rfl)) rfl) ?_
        refine .oy 3 10 rfl rfl rfl rfl rfl ((congrArg (!·) c1)) (fun a w hS hI hp => does_val (x_lenS rfl (by kernel_rfl) (hp.V 4 rfl rfl)) rfl) ?_
        refine .oy 3 10 rfl rfl rfl rfl rfl ((congrArg (!·) c1)) (fun a w hS hI hp => does_val (x_bin rfl (hp.V 5 rfl rfl) (rfl) (b_gtr _ _ _ _ _ _)) rfl) ?_
        refine .on rfl (fun a w hS hI hp => does_val (x_pickF rfl ((hp.V 3 rfl rfl).trans (bF (congrArg (!·) c1))) (hp.V 6 rfl rfl)) rfl) ?_
        exact .nil
      clear hS
      intro at8 w9 hS hI hp
      have hBw9_w := hI.1
      have hBw9_w3 := hI.2
      have hv14 : sl _ 14 = .bool (decide ((a1.size : Int) > 400)) := hp 7 (by decide)
      have hBw9_w9 := Below.refl w9.heap.size w9
      have hS := hS.cons hv14
      clear hp hI hv14
      refine hK6 _ _ ?_
      (try clear hK6 K6)
      refine wp_cond_false ((hS.get 0 rfl).trans (bF (decide_eq_false c2))) ?_
      refine wp_skip ?_
      refine hK5 _ _ ?_
      (try clear hK5 K5)
      refine wp_seq_k (fun K10 hK10 => ?_)
      refine reg_seq_tail 3 (N := 39) (bs := [(14, .bool (decide ((a1.size : Int) > 400))), (4, .pointer (some ⟨g4, 0, none⟩)), (0, .int .i64 a0), (1, .string a1)]) (I := fun x => Below w.heap.size w x ∧ Below w3.heap.size w3 x ∧ Below w9.heap.size w9 x) (ps := [VI a0, IsR (Kd.int .u8) 5 w9.heap.size t11, IsV (.string a1)]) (by kernel_rfl) ?_ ?_ rfl hS ⟨hBw9_w, hBw9_w3, hBw9_w9⟩ ?_ ?_
      · exact fun x y hI hb => ⟨below_step hI.1 hb, below_step hI.2.1 hb, below_step hI.2.2 hb⟩
      · exact .v (.cons (Stays.r _ _ _ _) (.v (.nil)))
      · refine .ms 2 rfl rfl rfl ?_
        refine .on rfl (fun a w hS hI hp => does_call (by kernel_rfl) (ar3 (rfl) (hp.V 0 rfl rfl) (rfl)) ((octets_Put.calls _ _ [] a0 2 t11 _ (Kd.C_nil _ _) (Nat.le_refl _) At11).mono fun _ _ h => h.elim fun v0 h => ⟨v0, h.1, h.2.2, Kd.R_lower h.2.1 hI.2.2.size⟩)) ?_
        refine .ms 3 rfl rfl rfl ?_
        exact .nil
      clear hS
      intro at12 w13 hS hI hp
      have hBw13_w := hI.1
      have hBw13_w3 := hI.2.1
      have hBw13_w9 := hI.2.2
      replace hS := (hS.nil).cons (hS.get 1 rfl)
      obtain ⟨A14, C14, hv17, hl14, hc14⟩ := Kd.R_reads (show Kd.R (Kd.int .u8) 5 w13 w9.heap.size (fun _ => True) (sl _ 17) t11 from hp 1 (by decide))
      have ho14 : Kd.R (Kd.int .u8) 5 w13 w9.heap.size (fun _ => True) (.slice A14 t11.length C14) t11 := hv17 ▸ (hp 1 (by decide))
      have hv18 : sl _ 18 = .string a1 := hp 2 (by decide)
      have hBw13_w13 := Below.refl w13.heap.size w13
      have hS := hS.cons hv17
      have hS := hS.cons hv18
      clear hp hI hv17 hv18
      show wpList _ _ _ [_, _] _ _
      refine list_step rfl (does_moreS (W := w9) (.tmp 17) (.tmp 18) 31 9 5 rfl (by kernel_rfl) (by kernel_rfl) (by kernel_rfl) _ t11 a1 (hS.get 1 rfl) (hS.get 0 rfl) (Kd.R_below ho14 hBw13_w13) (hBw13_w9) c3) ?_
      rintro vw15 w15 ⟨hb, hr, hk⟩
      clear hk
      have hBw15_w := below_step hBw9_w hb
      have hBw15_w3 := below_step hBw9_w3 hb
      have hBw15_w9 := hb
      replace hS := ((hS.nil).cons (hS.get 2 rfl)).cons (hS.get 0 rfl)
      have hBw15_w15 := Below.refl w15.heap.size w15
      obtain ⟨A16, C16, rfl, hl16, hc16⟩ := Kd.R_reads hr
      have hr16 := hr
      clear hr
      refine hS.next (v := .slice A16 ((t11 ++ bytesOf a1 : List Int).length) C16) (d := 19) rfl (by decide) (by rfl) ?_
      clear hS
      intro at17 hS
      refine list_step rfl (R := fun v w' => Below _ _ w' ∧ (IsV (.slice A16 ((t11 ++ bytesOf a1 : List Int).length) C16)) v w') (does_val (x_assign rfl (hS.get 0 rfl)) rfl) ?_
      rintro vw18 w18 ⟨hb, he⟩
      have hBw18_w := below_step hBw15_w hb
      have hBw18_w3 := below_step hBw15_w3 hb
      have hBw18_w9 := below_step hBw15_w9 hb
      have hBw18_w15 := below_step hBw15_w15 hb
      have hBw18_w18 := Below.refl w18.heap.size w18
      obtain rfl : vw18 = .slice A16 ((t11 ++ bytesOf a1 : List Int).length) C16 := he
      refine hS.next (v := .slice A16 ((t11 ++ bytesOf a1 : List Int).length) C16) (d := 6) rfl (by decide) (by rfl) ?_
      clear hS
      intro at19 hS
      refine wpList_nil ?_
      refine hK10 _ _ ?_
      (try clear hK10 K10)
      refine wp_seq_k (fun K20 hK20 => ?_)
      refine wp_seq_k (fun K21 hK21 => ?_)
      refine reg_seq (N := 39) (bs := [(6, .slice A16 ((t11 ++ bytesOf a1 : List Int).length) C16), (19, .slice A16 ((t11 ++ bytesOf a1 : List Int).length) C16), (18, .string a1), (4, .pointer (some ⟨g4, 0, none⟩))]) (I := fun x => Below w.heap.size w x ∧ Below w3.heap.size w3 x ∧ Below w9.heap.size w9 x ∧ Below w15.heap.size w15 x ∧ Below w18.heap.size w18 x) (ps := [IsV (.slice A16 ((t11 ++ bytesOf a1 : List Int).length) C16), VI ((t11 ++ bytesOf a1 : List Int).length : Int), VI (Int.tmod ((t11 ++ bytesOf a1 : List Int).length : Int) 2), VB (!decide ((Int.tmod ((t11 ++ bytesOf a1 : List Int).length : Int) 2) = 0))]) (by kernel_rfl) ?_ ?_ rfl hS ⟨hBw18_w, hBw18_w3, hBw18_w9, hBw18_w15, hBw18_w18⟩ ?_ ?_
      · exact fun x y hI hb => ⟨below_step hI.1 hb, below_step hI.2.1 hb, below_step hI.2.2.1 hb, below_step hI.2.2.2.1 hb, below_step hI.2.2.2.2 hb⟩
      · exact .v (.v (.v (.v (.nil))))
      · refine .ms 0 rfl rfl rfl ?_
        refine .on rfl (fun a w hS hI hp => does_val (x_len (e := 5) rfl (by kernel_rfl) (hp.V 0 rfl rfl)) rfl) ?_
        refine .on rfl (fun a w hS hI hp => does_val (x_bin rfl (hp.V 1 rfl rfl) (rfl) (b_rem _ _ _ _ _ _ (by decide))) rfl) ?_
        refine .on rfl (fun a w hS hI hp => does_val (x_bin rfl (hp.V 2 rfl rfl) (rfl) (b_neq _ _ _ _ _ _)) rfl) ?_
        exact .nil
      clear hS
      intro at22 w23 hS hI hp
      have hBw23_w := hI.1
      have hBw23_w3 := hI.2.1
      have hBw23_w9 := hI.2.2.1
      have hBw23_w15 := hI.2.2.2.1
      have hBw23_w18 := hI.2.2.2.2
      replace hS := ((hS.nil).cons (hS.get 3 rfl)).cons (hS.get 0 rfl)
      have hv23 : sl _ 23 = .bool (!decide ((Int.tmod ((t11 ++ bytesOf a1 : List Int).length : Int) 2) = 0)) := hp 3 (by decide)
      have hBw23_w23 := Below.refl w23.heap.size w23
      have hS := hS.cons hv23
      clear hp hI hv23
      refine hK21 _ _ ?_
      (try clear hK21 K21)
      refine wp_cond_false ((hS.get 0 rfl).trans (bF (congrArg (!·) (decide_eq_true c4)))) ?_
      refine wp_skip ?_
      refine hK20 _ _ ?_
      (try clear hK20 K20)
      refine wp_seq_k (fun K24 hK24 => ?_)
      refine wp_seq_k (fun K25 hK25 => ?_)
      refine reg_seq (N := 39) (bs := [(23, .bool (!decide ((Int.tmod ((t11 ++ bytesOf a1 : List Int).length : Int) 2) = 0))), (6, .slice A16 ((t11 ++ bytesOf a1 : List Int).length) C16), (4, .pointer (some ⟨g4, 0, none⟩))]) (I := fun x => Below w.heap.size w x ∧ Below w3.heap.size w3 x ∧ Below w9.heap.size w9 x ∧ Below w15.heap.size w15 x ∧ Below w23.heap.size w23 x) (ps := [IsV (.slice A16 ((t11 ++ bytesOf a1 : List Int).length) C16), VI ((t11 ++ bytesOf a1 : List Int).length : Int), VB (decide (((t11 ++ bytesOf a1 : List Int).length : Int) > 400))]) (by kernel_rfl) ?_ ?_ rfl hS ⟨hBw23_w, hBw23_w3, hBw23_w9, hBw23_w15, hBw23_w23⟩ ?_ ?_
      · exact fun x y hI hb => ⟨below_step hI.1 hb, below_step hI.2.1 hb, below_step hI.2.2.1 hb, below_step hI.2.2.2.1 hb, below_step hI.2.2.2.2 hb⟩
      · exact .v (.v (.v (.nil)))
      · refine .ms 1 rfl rfl rfl ?_
        refine .on rfl (fun a w hS hI hp => does_val (x_len (e := 5) rfl (by kernel_rfl) (hp.V 0 rfl rfl)) rfl) ?_
        refine .on rfl (fun a w hS hI hp => does_val (x_bin rfl (hp.V 1 rfl rfl) (rfl) (b_gtr _ _ _ _ _ _)) rfl) ?_
        exact .nil
      clear hS
      intro at26 w27 hS hI hp
      have hBw27_w := hI.1
      have hBw27_w3 := hI.2.1
      have hBw27_w9 := hI.2.2.1
      have hBw27_w15 := hI.2.2.2.1
      have hBw27_w23 := hI.2.2.2.2
      replace hS := ((hS.nil).cons (hS.get 2 rfl)).cons (hS.get 1 rfl)
      have hv34 : sl _ 34 = .bool (decide (((t11 ++ bytesOf a1 : List Int).length : Int) > 400)) := hp 2 (by decide)
      have hBw27_w27 := Below.refl w27.heap.size w27
      have hS := hS.cons hv34
      clear hp hI hv34
      refine hK25 _ _ ?_
      (try clear hK25 K25)
      refine wp_cond_true ((hS.get 0 rfl).trans (bT (decide_eq_true c5))) ?_
      refine wp_seq_k (fun K28 hK28 => ?_)
      refine reg_seq_tail 1 (N := 39) (bs := [(34, .bool (decide (((t11 ++ bytesOf a1 : List Int).length : Int) > 400))), (6, .slice A16 ((t11 ++ bytesOf a1 : List Int).length) C16), (4, .pointer (some ⟨g4, 0, none⟩))]) (I := fun x => Below w.heap.size w x ∧ Below w3.heap.size w3 x ∧ Below w9.heap.size w9 x ∧ Below w15.heap.size w15 x ∧ Below w27.heap.size w27 x) (ps := [IsV (.agg #[.int .i64 0, .string (⟨#[]⟩ : ByteArray)])]) (by kernel_rfl) ?_ ?_ rfl hS ⟨hBw27_w, hBw27_w3, hBw27_w9, hBw27_w15, hBw27_w27⟩ ?_ ?_
      · exact fun x y hI hb => ⟨below_step hI.1 hb, below_step hI.2.1 hb, below_step hI.2.2.1 hb, below_step hI.2.2.2.1 hb, below_step hI.2.2.2.2 hb⟩
      · exact .v (.nil)
      · refine .on rfl (fun a w hS hI hp => does_val (x_build (vs := []) rfl (by rw [Array.toList_map]; exact (show [] = _ from rfl)) (by kernel_rfl)) rfl) ?_
        exact .nil
      clear hS
      intro at29 w30 hS hI hp
      have hBw30_w := hI.1
      have hBw30_w3 := hI.2.1
      have hBw30_w9 := hI.2.2.1
      have hBw30_w15 := hI.2.2.2.1
      have hBw30_w27 := hI.2.2.2.2
      replace hS := (hS.nil).cons (hS.get 2 rfl)
      have hv35 : sl _ 35 = .agg #[.int .i64 0, .string (⟨#[]⟩ : ByteArray)] := hp 0 (by decide)
      have hBw30_w30 := Below.refl w30.heap.size w30
      have hS := hS.cons hv35
      clear hp hI hv35
      show wpList _ _ _ [_, _] _ _
      refine list_step rfl (does_storeAll (g := g4) (cs := #[.int .i64 0, .string (⟨#[]⟩ : ByteArray)]) rfl (hS.get 1 rfl) (hS.get 0 rfl) ((hBw30_w3.block g4 (blk_lt hbxg4)).trans hbxg4) (by kernel_rfl) (by kernel_rfl) (by kernel_rfl)) ?_
      rintro vw31 w31 ⟨rfl, hbxw31, hT⟩
      have hBw31_w := hT.below hBw30_w hgeg4 (hBw30_w).size
      have hBw31_w31 := Below.refl w31.heap.size w31
      clear hT
      refine list_step rfl (R := fun v w' => Below _ _ w' ∧ (VB false) v w') (does_val (x_assign rfl (rfl)) rfl) ?_
      rintro vw32 w32 ⟨hb, he⟩
      have hBw32_w := below_step hBw31_w hb
      have hBw32_w31 := below_step hBw31_w31 hb
      have hBw32_w32 := Below.refl w32.heap.size w32
      obtain rfl : vw32 = .bool false := he
      refine hS.next (v := .bool false) (d := 5) rfl (by decide) (by rfl) ?_
      clear hS
      intro at33 hS
      refine wpList_nil ?_
      refine hK28 _ _ ?_
      (try clear hK28 K28)
      refine wp_ret ?_
      (try simp only [Exit.then, Exit.inBlock, Exit.jump, Exit.noGoto])
      exact bodyPost_ret (v := .tuple #[.agg #[.int .i64 0, .string (⟨#[]⟩ : ByteArray)], .bool false]) (results_list (rs := [.cell 4 26, .tmp 5]) rfl (by simp) (Vals.cell g4 26 #[.int .i64 0, .string (⟨#[]⟩ : ByteArray)] (0, 0) _ (hS.get 2 rfl) ((hBw32_w31.block g4 (blk_lt hbxw31)).trans hbxw31) Try.underlying26 rfl (by kernel_rfl) (Vals.at (hS.get 0 rfl) .nil))) hS.nodef ⟨rfl, hBw32_w⟩
    rw [if_neg c5] at H
    simp only [Option.some.injEq, Prod.mk.injEq] at H
    obtain ⟨rfl, rfl, rfl⟩ := H
    refine calls_of_wp (fn := Try.f27) (by kernel_rfl) rfl ?_
    have hS := St.enter #[.int .i64 a0, .string a1] 39 (by simp) [(0, .int .i64 a0), (1, .string a1)] (by simp)
    have HB0 := Below.refl w.heap.size w
    refine wp_seq_k (fun K1 hK1 => ?_)
    refine reg_seq (N := 39) (bs := [(0, .int .i64 a0), (1, .string a1)]) (I := fun x => Below w.heap.size w x) (ps := [IsB #[.int .i64 0, .string (⟨#[]⟩ : ByteArray)] 26 w.heap.size, VB false]) (by kernel_rfl) ?_ ?_ rfl hS HB0 ?_ ?_
    · exact fun x y hI hb => below_step hI hb
    · exact .cons (Stays.b _ _ _) (.v (.nil))
    · refine .on rfl (fun a w hS hI hp => does_var (x_alloc rfl (by kernel_rfl)) (hI).size) ?_
      refine .on rfl (fun a w hS hI hp => does_val (x_assign rfl (rfl)) rfl) ?_
      exact .nil
    clear hS
    intro at2 w3 hS hI hp
    have hBw3_w := hI
    obtain ⟨g4, hv4, hgeg4, hbxg4⟩ := (show IsB _ 26 _ (sl _ 4) _ from hp 0 (by decide))
    have hBw3_w3 := Below.refl w3.heap.size w3
    have hS := hS.cons hv4
    clear hp hI hv4
    refine hK1 _ _ ?_
    (try clear hK1 K1)
    refine wp_seq_k (fun K5 hK5 => ?_)
    refine wp_seq_k (fun K6 hK6 => ?_)
    refine reg_seq (N := 39) (bs := [(4, .pointer (some ⟨g4, 0, none⟩)), (0, .int .i64 a0), (1, .string a1)]) (I := fun x => Below w.heap.size w x ∧ Below w3.heap.size w3 x) (ps := [VI a0, VB t7, VB (!t7), VB (!t7), IsV (.string a1), VI (a1.size : Int), VB (decide ((a1.size : Int) > 400)), VB (decide ((a1.size : Int) > 400))]) (by kernel_rfl) ?_ ?_ rfl hS ⟨hBw3_w, hBw3_w3⟩ ?_ ?_
    · exact fun x y hI hb => ⟨below_step hI.1 hb, below_step hI.2 hb⟩
    · exact .v (.v (.v (.v (.v (.v (.v (.v (.nil))))))))
    · refine .ms 1 rfl rfl rfl ?_
      refine .on rfl (fun a w hS hI hp => does_call (by kernel_rfl) (ar3 (hp.V 0 rfl rfl) (rfl) (rfl)) ((tlv_in.calls a0 0 65535 t7 _  At7).mono fun _ _ h => ⟨_, h.1, h.2.below, rfl⟩)) ?_
      refine .on rfl (fun a w hS hI hp => does_val (x_not rfl (hp.V 1 rfl rfl)) rfl) ?_
      refine .mv 2 rfl rfl rfl rfl ?_
      refine .oy 3 10 rfl rfl rfl rfl rfl ((congrArg (!·) c1)) (fun a w hS hI hp => does_val (x_move rfl (hS.get 2 rfl)) rfl) ?_
      refine .oy 3 10 rfl rfl rfl rfl rfl ((congrArg (!·) c1)) (fun a w hS hI hp => does_val (x_lenS rfl (by kernel_rfl) (hp.V 4 rfl rfl)) rfl) ?_
      refine .oy 3 10 rfl rfl rfl rfl rfl ((congrArg (!·) c1)) (fun a w hS hI hp => does_val (x_bin rfl (hp.V 5 rfl rfl) (rfl) (b_gtr _ _ _ _ _ _)) rfl) ?_
      refine .on rfl (fun a w hS hI hp => does_val (x_pickF rfl ((hp.V 3 rfl rfl).trans (bF (congrArg (!·) c1))) (hp.V 6 rfl rfl)) rfl) ?_
      exact .nil
    clear hS
    intro at8 w9 hS hI hp
    have hBw9_w := hI.1
    have hBw9_w3 := hI.2
    have hv14 : sl _ 14 = .bool (decide ((a1.size : Int) > 400)) := hp 7 (by decide)
    have hBw9_w9 := Below.refl w9.heap.size w9
    have hS := hS.cons hv14
    clear hp hI hv14
    refine hK6 _ _ ?_
    (try clear hK6 K6)
    refine wp_cond_false ((hS.get 0 rfl).trans (bF (decide_eq_false c2))) ?_
    refine wp_skip ?_
    refine hK5 _ _ ?_
    (try clear hK5 K5)
    refine wp_seq_k (fun K10 hK10 => ?_)
    refine reg_seq_tail 3 (N := 39) (bs := [(14, .bool (decide ((a1.size : Int) > 400))), (4, .pointer (some ⟨g4, 0, none⟩)), (0, .int .i64 a0), (1, .string a1)]) (I := fun x => Below w.heap.size w x ∧ Below w3.heap.size w3 x ∧ Below w9.heap.size w9 x) (ps := [VI a0, IsR (Kd.int .u8) 5 w9.heap.size t11, IsV (.string a1)]) (by kernel_rfl) ?_ ?_ rfl hS ⟨hBw9_w, hBw9_w3, hBw9_w9⟩ ?_ ?_
    · exact fun x y hI hb => ⟨below_step hI.1 hb, below_step hI.2.1 hb, below_step hI.2.2 hb⟩
    · exact .v (.cons (Stays.r _ _ _ _) (.v (.nil)))
    · refine .ms 2 rfl rfl rfl ?_
      refine .on rfl (fun a w hS hI hp => does_call (by kernel_rfl) (ar3 (rfl) (hp.V 0 rfl rfl) (rfl)) ((octets_Put.calls _ _ [] a0 2 t11 _ (Kd.C_nil _ _) (Nat.le_refl _) At11).mono fun _ _ h => h.elim fun v0 h => ⟨v0, h.1, h.2.2, Kd.R_lower h.2.1 hI.2.2.size⟩)) ?_
      refine .ms 3 rfl rfl rfl ?_
      exact .nil
    clear hS
    intro at12 w13 hS hI hp
    have hBw13_w := hI.1
    have hBw13_w3 := hI.2.1
    have hBw13_w9 := hI.2.2
    replace hS := (hS.nil).cons (hS.get 1 rfl)
    obtain ⟨A14, C14, hv17, hl14, hc14⟩ := Kd.R_reads (show Kd.R (Kd.int .u8) 5 w13 w9.heap.size (fun _ => True) (sl _ 17) t11 from hp 1 (by decide))
    have ho14 : Kd.R (Kd.int .u8) 5 w13 w9.heap.size (fun _ => True) (.slice A14 t11.length C14) t11 := hv17 ▸ (hp 1 (by decide))
    have hv18 : sl _ 18 = .string a1 := hp 2 (by decide)
    have hBw13_w13 := Below.refl w13.heap.size w13
    have hS := hS.cons hv17
    have hS := hS.cons hv18
    clear hp hI hv17 hv18
    show wpList _ _ _ [_, _] _ _
    refine list_step rfl (does_moreS (W := w9) (.tmp 17) (.tmp 18) 31 9 5 rfl (by kernel_rfl) (by kernel_rfl) (by kernel_rfl) _ t11 a1 (hS.get 1 rfl) (hS.get 0 rfl) (Kd.R_below ho14 hBw13_w13) (hBw13_w9) c3) ?_
    rintro vw15 w15 ⟨hb, hr, hk⟩
    clear hk
    have hBw15_w := below_step hBw9_w hb
    have hBw15_w3 := below_step hBw9_w3 hb
    have hBw15_w9 := hb
    replace hS := ((hS.nil).cons (hS.get 2 rfl)).cons (hS.get 0 rfl)
    have hBw15_w15 := Below.refl w15.heap.size w15
    obtain ⟨A16, C16, rfl, hl16, hc16⟩ := Kd.R_reads hr
    have hr16 := hr
    clear hr
    refine hS.next (v := .slice A16 ((t11 ++ bytesOf a1 : List Int).length) C16) (d := 19) rfl (by decide) (by rfl) ?_
    clear hS
    intro at17 hS
    refine list_step rfl (R := fun v w' => Below _ _ w' ∧ (IsV (.slice A16 ((t11 ++ bytesOf a1 : List Int).length) C16)) v w') (does_val (x_assign rfl (hS.get 0 rfl)) rfl) ?_
    rintro vw18 w18 ⟨hb, he⟩
    have hBw18_w := below_step hBw15_w hb
    have hBw18_w3 := below_step hBw15_w3 hb
    have hBw18_w9 := below_step hBw15_w9 hb
    have hBw18_w15 := below_step hBw15_w15 hb
    have hBw18_w18 := Below.refl w18.heap.size w18
    obtain rfl : vw18 = .slice A16 ((t11 ++ bytesOf a1 : List Int).length) C16 := he
    refine hS.next (v := .slice A16 ((t11 ++ bytesOf a1 : List Int).length) C16) (d := 6) rfl (by decide) (by rfl) ?_
    clear hS
    intro at19 hS
    refine wpList_nil ?_
    refine hK10 _ _ ?_
    (try clear hK10 K10)
    refine wp_seq_k (fun K20 hK20 => ?_)
    refine wp_seq_k (fun K21 hK21 => ?_)
    refine reg_seq (N := 39) (bs := [(6, .slice A16 ((t11 ++ bytesOf a1 : List Int).length) C16), (19, .slice A16 ((t11 ++ bytesOf a1 : List Int).length) C16), (18, .string a1), (4, .pointer (some ⟨g4, 0, none⟩))]) (I := fun x => Below w.heap.size w x ∧ Below w3.heap.size w3 x ∧ Below w9.heap.size w9 x ∧ Below w15.heap.size w15 x ∧ Below w18.heap.size w18 x) (ps := [IsV (.slice A16 ((t11 ++ bytesOf a1 : List Int).length) C16), VI ((t11 ++ bytesOf a1 : List Int).length : Int), VI (Int.tmod ((t11 ++ bytesOf a1 : List Int).length : Int) 2), VB (!decide ((Int.tmod ((t11 ++ bytesOf a1 : List Int).length : Int) 2) = 0))]) (by kernel_rfl) ?_ ?_ rfl hS ⟨hBw18_w, hBw18_w3, hBw18_w9, hBw18_w15, hBw18_w18⟩ ?_ ?_
    · exact fun x y hI hb => ⟨below_step hI.1 hb, below_step hI.2.1 hb, below_step hI.2.2.1 hb, below_step hI.2.2.2.1 hb, below_step hI.2.2.2.2 hb⟩
    · exact .v (.v (.v (.v (.nil))))
    · refine .ms 0 rfl rfl rfl ?_
      refine .on rfl (fun a w hS hI hp => does_val (x_len (e := 5) rfl (by kernel_rfl) (hp.V 0 rfl rfl)) rfl) ?_
      refine .on rfl (fun a w hS hI hp => does_val (x_bin rfl (hp.V 1 rfl rfl) (rfl) (b_rem _ _ _ _ _ _ (by decide))) rfl) ?_
      refine .on rfl (fun a w hS hI hp => does_val (x_bin rfl (hp.V 2 rfl rfl) (rfl) (b_neq _ _ _ _ _ _)) rfl) ?_
      exact .nil
    clear hS
    intro at22 w23 hS hI hp
    have hBw23_w := hI.1
    have hBw23_w3 := hI.2.1
    have hBw23_w9 := hI.2.2.1
    have hBw23_w15 := hI.2.2.2.1
    have hBw23_w18 := hI.2.2.2.2
    replace hS := ((hS.nil).cons (hS.get 3 rfl)).cons (hS.get 0 rfl)
    have hv23 : sl _ 23 = .bool (!decide ((Int.tmod ((t11 ++ bytesOf a1 : List Int).length : Int) 2) = 0)) := hp 3 (by decide)
    have hBw23_w23 := Below.refl w23.heap.size w23
    have hS := hS.cons hv23
    clear hp hI hv23
    refine hK21 _ _ ?_
    (try clear hK21 K21)
    refine wp_cond_false ((hS.get 0 rfl).trans (bF (congrArg (!·) (decide_eq_true c4)))) ?_
    refine wp_skip ?_
    refine hK20 _ _ ?_
    (try clear hK20 K20)
    refine wp_seq_k (fun K24 hK24 => ?_)
    refine wp_seq_k (fun K25 hK25 => ?_)
    refine reg_seq (N := 39) (bs := [(23, .bool (!decide ((Int.tmod ((t11 ++ bytesOf a1 : List Int).length : Int) 2) = 0))), (6, .slice A16 ((t11 ++ bytesOf a1 : List Int).length) C16), (4, .pointer (some ⟨g4, 0, none⟩))]) (I := fun x => Below w.heap.size w x ∧ Below w3.heap.size w3 x ∧ Below w9.heap.size w9 x ∧ Below w15.heap.size w15 x ∧ Below w23.heap.size w23 x) (ps := [IsV (.slice A16 ((t11 ++ bytesOf a1 : List Int).length) C16), VI ((t11 ++ bytesOf a1 : List Int).length : Int), VB (decide (((t11 ++ bytesOf a1 : List Int).length : Int) > 400))]) (by kernel_rfl) ?_ ?_ rfl hS ⟨hBw23_w, hBw23_w3, hBw23_w9, hBw23_w15, hBw23_w23⟩ ?_ ?_
    · exact fun x y hI hb => ⟨below_step hI.1 hb, below_step hI.2.1 hb, below_step hI.2.2.1 hb, below_step hI.2.2.2.1 hb, below_step hI.2.2.2.2 hb⟩
    · exact .v (.v (.v (.nil)))
    · refine .ms 1 rfl rfl rfl ?_
      refine .on rfl (fun a w hS hI hp => does_val (x_len (e := 5) rfl (by kernel_rfl) (hp.V 0 rfl rfl)) rfl) ?_
      refine .on rfl (fun a w hS hI hp => does_val (x_bin rfl (hp.V 1 rfl rfl) (rfl) (b_gtr _ _ _ _ _ _)) rfl) ?_
      exact .nil
    clear hS
    intro at26 w27 hS hI hp
    have hBw27_w := hI.1
    have hBw27_w3 := hI.2.1
    have hBw27_w9 := hI.2.2.1
    have hBw27_w15 := hI.2.2.2.1
    have hBw27_w23 := hI.2.2.2.2
    replace hS := ((hS.nil).cons (hS.get 2 rfl)).cons (hS.get 1 rfl)
    have hv34 : sl _ 34 = .bool (decide (((t11 ++ bytesOf a1 : List Int).length : Int) > 400)) := hp 2 (by decide)
    have hBw27_w27 := Below.refl w27.heap.size w27
    have hS := hS.cons hv34
    clear hp hI hv34
    refine hK25 _ _ ?_
    (try clear hK25 K25)
    refine wp_cond_false ((hS.get 0 rfl).trans (bF (decide_eq_false c5))) ?_
    refine wp_skip ?_
    refine hK24 _ _ ?_
    (try clear hK24 K24)
    refine wp_seq_k (fun K28 hK28 => ?_)
    refine reg_seq_tail 3 (N := 39) (bs := [(34, .bool (decide (((t11 ++ bytesOf a1 : List Int).length : Int) > 400))), (6, .slice A16 ((t11 ++ bytesOf a1 : List Int).length) C16), (4, .pointer (some ⟨g4, 0, none⟩))]) (I := fun x => Below w.heap.size w x ∧ Below w3.heap.size w3 x ∧ Below w9.heap.size w9 x ∧ Below w15.heap.size w15 x ∧ Below w27.heap.size w27 x) (ps := [IsV (.slice A16 ((t11 ++ bytesOf a1 : List Int).length) C16), IsV (.string (strOfNums (t11 ++ bytesOf a1 : List Int))), IsV (.agg #[.int .i64 1, .string (strOfNums (t11 ++ bytesOf a1 : List Int))])]) (by kernel_rfl) ?_ ?_ rfl hS ⟨hBw27_w, hBw27_w3, hBw27_w9, hBw27_w15, hBw27_w27⟩ ?_ ?_
    · exact fun x y hI hb => ⟨below_step hI.1 hb, below_step hI.2.1 hb, below_step hI.2.2.1 hb, below_step hI.2.2.2.1 hb, below_step hI.2.2.2.2 hb⟩
    · exact .v (.v (.v (.nil)))
    · refine .ms 1 rfl rfl rfl ?_
      refine .on rfl (fun a w hS hI hp => does_val (x_conv rfl (hp.V 0 rfl rfl) (Kd.C_string (by kernel_rfl) (e := 5) (by kernel_rfl) (by kernel_rfl) (Kd.C_below hc16 hI.2.2.2.1))) rfl) ?_
      refine .on rfl (fun a w hS hI hp => does_val (x_build (vs := [(0, .int .i64 1), (1, .string (strOfNums (t11 ++ bytesOf a1 : List Int)))]) rfl (by rw [Array.toList_map]; exact (show [(0, a.eval (.const (.int .i64 1))), (1, a.eval (.tmp 37))] = _ from (li_cons (rfl) (li_cons (hp.V 1 rfl rfl) rfl)))) (by kernel_rfl)) rfl) ?_
      exact .nil
    clear hS
    intro at29 w30 hS hI hp
    have hBw30_w := hI.1
    have hBw30_w3 := hI.2.1
    have hBw30_w9 := hI.2.2.1
    have hBw30_w15 := hI.2.2.2.1
    have hBw30_w27 := hI.2.2.2.2
    replace hS := (hS.nil).cons (hS.get 2 rfl)
    have hv38 : sl _ 38 = .agg #[.int .i64 1, .string (strOfNums (t11 ++ bytesOf a1 : List Int))] := hp 2 (by decide)
    have hBw30_w30 := Below.refl w30.heap.size w30
    have hS := hS.cons hv38
    clear hp hI hv38
    show wpList _ _ _ [_, _] _ _
    refine list_step rfl (does_storeAll (g := g4) (cs := #[.int .i64 1, .string (strOfNums (t11 ++ bytesOf a1 : List Int))]) rfl (hS.get 1 rfl) (hS.get 0 rfl) ((hBw30_w3.block g4 (blk_lt hbxg4)).trans hbxg4) (by kernel_rfl) (by kernel_rfl) (by kernel_rfl)) ?_
    rintro vw31 w31 ⟨rfl, hbxw31, hT⟩
    have hBw31_w := hT.below hBw30_w hgeg4 (hBw30_w).size
    have hBw31_w31 := Below.refl w31.heap.size w31
    clear hT
    refine list_step rfl (R := fun v w' => Below _ _ w' ∧ (VB true) v w') (does_val (x_assign rfl (rfl)) rfl) ?_
    rintro vw32 w32 ⟨hb, he⟩
    have hBw32_w := below_step hBw31_w hb
    have hBw32_w31 := below_step hBw31_w31 hb
    have hBw32_w32 := Below.refl w32.heap.size w32
    obtain rfl : vw32 = .bool true := he
    refine hS.next (v := .bool true) (d := 5) rfl (by decide) (by rfl) ?_
    clear hS
    intro at33 hS
    refine wpList_nil ?_
    refine hK28 _ _ ?_
    (try clear hK28 K28)
    refine wp_ret ?_
    (try simp only [Exit.then, Exit.inBlock, Exit.jump, Exit.noGoto])
    exact bodyPost_ret (v := .tuple #[.agg #[.int .i64 1, .string (strOfNums (t11 ++ bytesOf a1 : List Int))], .bool true]) (results_list (rs := [.cell 4 26, .tmp 5]) rfl (by simp) (Vals.cell g4 26 #[.int .i64 1, .string (strOfNums (t11 ++ bytesOf a1 : List Int))] (0, 0) _ (hS.get 2 rfl) ((hBw32_w31.block g4 (blk_lt hbxw31)).trans hbxw31) Try.underlying26 rfl (by kernel_rfl) (Vals.at (hS.get 0 rfl) .nil))) hS.nodef ⟨rfl, hBw32_w⟩
  rw [if_neg c4] at H
  by_cases c5 : ((t11 ++ bytesOf a1 : List Int).length + [0].length) * 1 ≤ 140737488355328
  rotate_left
  · rw [if_neg c5] at H
    exact absurd H (by simp)
  rw [if_pos c5] at H
  by_cases c6 : (((t11 ++ bytesOf a1 : List Int) ++ [0] : List Int).length : Int) > 400
  · rw [if_pos c6] at H
    simp only [Option.some.injEq, Prod.mk.injEq] at H
    obtain ⟨rfl, rfl, rfl⟩ := H
    refine calls_of_wp (fn := Try.f27) (by kernel_rfl) rfl ?_
    have hS := St.enter #[.int .i64 a0, .string a1] 39 (by simp) [(0, .int .i64 a0), (1, .string a1)] (by simp)
    have HB0 := Below.refl w.heap.size w
    refine wp_seq_k (fun K1 hK1 => ?_)
    refine reg_seq (N := 39) (bs := [(0, .int .i64 a0), (1, .string a1)]) (I := fun x => Below w.heap.size w x) (ps := [IsB #[.int .i64 0, .string (⟨#[]⟩ : ByteArray)] 26 w.heap.size, VB false]) (by kernel_rfl) ?_ ?_ rfl hS HB0 ?_ ?_
    · exact fun x y hI hb => below_step hI hb
    · exact .cons (Stays.b _ _ _) (.v (.nil))
    · refine .on rfl (fun a w hS hI hp => does_var (x_alloc rfl (by kernel_rfl)) (hI).size) ?_
      refine .on rfl (fun a w hS hI hp => does_val (x_assign rfl (rfl)) rfl) ?_
      exact .nil
    clear hS
    intro at2 w3 hS hI hp
    have hBw3_w := hI
    obtain ⟨g4, hv4, hgeg4, hbxg4⟩ := (show IsB _ 26 _ (sl _ 4) _ from hp 0 (by decide))
    have hBw3_w3 := Below.refl w3.heap.size w3
    have hS := hS.cons hv4
    clear hp hI hv4
    refine hK1 _ _ ?_
    (try clear hK1 K1)
    refine wp_seq_k (fun K5 hK5 => ?_)
    refine wp_seq_k (fun K6 hK6 => ?_)
    refine reg_seq (N := 39) (bs := [(4, .pointer (some ⟨g4, 0, none⟩)), (0, .int .i64 a0), (1, .string a1)]) (I := fun x => Below w.heap.size w x ∧ Below w3.heap.size w3 x) (ps := [VI a0, VB t7, VB (!t7), VB (!t7), IsV (.string a1), VI (a1.size : Int), VB (decide ((a1.size : Int) > 400)), VB (decide ((a1.size : Int) > 400))]) (by kernel_rfl) ?_ ?_ rfl hS ⟨hBw3_w, hBw3_w3⟩ ?_ ?_
    · exact fun x y hI hb => ⟨below_step hI.1 hb, below_step hI.2 hb⟩
    · exact .v (.v (.v (.v (.v (.v (.v (.v (.nil))))))))
    · refine .ms 1 rfl rfl rfl ?_
      refine .on rfl (fun a w hS hI hp => does_call (by kernel_rfl) (ar3 (hp.V 0 rfl rfl) (rfl) (rfl)) ((tlv_in.calls a0 0 65535 t7 _  At7).mono fun _ _ h => ⟨_, h.1, h.2.below, rfl⟩)) ?_
      refine .on rfl (fun a w hS hI hp => does_val (x_not rfl (hp.V 1 rfl rfl)) rfl) ?_
      refine .mv 2 rfl rfl rfl rfl ?_
      refine .oy 3 10 rfl rfl rfl rfl rfl ((congrArg (!·) c1)) (fun a w hS hI hp => does_val (x_move rfl (hS.get 2 rfl)) rfl) ?_
      refine .oy 3 10 rfl rfl rfl rfl rfl ((congrArg (!·) c1)) (fun a w hS hI hp => does_val (x_lenS rfl (by kernel_rfl) (hp.V 4 rfl rfl)) rfl) ?_
      refine .oy 3 10 rfl rfl rfl rfl rfl ((congrArg (!·) c1)) (fun a w hS hI hp => does_val (x_bin rfl (hp.V 5 rfl rfl) (rfl) (b_gtr _ _ _ _ _ _)) rfl) ?_
      refine .on rfl (fun a w hS hI hp => does_val (x_pickF rfl ((hp.V 3 rfl rfl).trans (bF (congrArg (!·) c1))) (hp.V 6 rfl rfl)) rfl) ?_
      exact .nil
    clear hS
    intro at8 w9 hS hI hp
    have hBw9_w := hI.1
    have hBw9_w3 := hI.2
    have hv14 : sl _ 14 = .bool (decide ((a1.size : Int) > 400)) := hp 7 (by decide)
    have hBw9_w9 := Below.refl w9.heap.size w9
    have hS := hS.cons hv14
    clear hp hI hv14
    refine hK6 _ _ ?_
    (try clear hK6 K6)
    refine wp_cond_false ((hS.get 0 rfl).trans (bF (decide_eq_false c2))) ?_
    refine wp_skip ?_
    refine hK5 _ _ ?_
    (try clear hK5 K5)
    refine wp_seq_k (fun K10 hK10 => ?_)
    refine reg_seq_tail 3 (N := 39) (bs := [(14, .bool (decide ((a1.size : Int) > 400))), (4, .pointer (some ⟨g4, 0, none⟩)), (0, .int .i64 a0), (1, .string a1)]) (I := fun x => Below w.heap.size w x ∧ Below w3.heap.size w3 x ∧ Below w9.heap.size w9 x) (ps := [VI a0, IsR (Kd.int .u8) 5 w9.heap.size t11, IsV (.string a1)]) (by kernel_rfl) ?_ ?_ rfl hS ⟨hBw9_w, hBw9_w3, hBw9_w9⟩ ?_ ?_
    · exact fun x y hI hb => ⟨below_step hI.1 hb, below_step hI.2.1 hb, below_step hI.2.2 hb⟩
    · exact .v (.cons (Stays.r _ _ _ _) (.v (.nil)))
    · refine .ms 2 rfl rfl rfl ?_
      refine .on rfl (fun a w hS hI hp => does_call (by kernel_rfl) (ar3 (rfl) (hp.V 0 rfl rfl) (rfl)) ((octets_Put.calls _ _ [] a0 2 t11 _ (Kd.C_nil _ _) (Nat.le_refl _) At11).mono fun _ _ h => h.elim fun v0 h => ⟨v0, h.1, h.2.2, Kd.R_lower h.2.1 hI.2.2.size⟩)) ?_
      refine .ms 3 rfl rfl rfl ?_
      exact .nil
    clear hS
    intro at12 w13 hS hI hp
    have hBw13_w := hI.1
    have hBw13_w3 := hI.2.1
    have hBw13_w9 := hI.2.2
    replace hS := (hS.nil).cons (hS.get 1 rfl)
    obtain ⟨A14, C14, hv17, hl14, hc14⟩ := Kd.R_reads (show Kd.R (Kd.int .u8) 5 w13 w9.heap.size (fun _ => True) (sl _ 17) t11 from hp 1 (by decide))
    have ho14 : Kd.R (Kd.int .u8) 5 w13 w9.heap.size (fun _ => True) (.slice A14 t11.length C14) t11 := hv17 ▸ (hp 1 (by decide))
    have hv18 : sl _ 18 = .string a1 := hp 2 (by decide)
    have hBw13_w13 := Below.refl w13.heap.size w13
    have hS := hS.cons hv17
    have hS := hS.cons hv18
    clear hp hI hv17 hv18
    show wpList _ _ _ [_, _] _ _
    refine list_step rfl (does_moreS (W := w9) (.tmp 17) (.tmp 18) 31 9 5 rfl (by kernel_rfl) (by kernel_rfl) (by kernel_rfl) _ t11 a1 (hS.get 1 rfl) (hS.get 0 rfl) (Kd.R_below ho14 hBw13_w13) (hBw13_w9) c3) ?_
    rintro vw15 w15 ⟨hb, hr, hk⟩
    clear hk
    have hBw15_w := below_step hBw9_w hb
    have hBw15_w3 := below_step hBw9_w3 hb
    have hBw15_w9 := hb
    replace hS := ((hS.nil).cons (hS.get 2 rfl)).cons (hS.get 0 rfl)
    have hBw15_w15 := Below.refl w15.heap.size w15
    obtain ⟨A16, C16, rfl, hl16, hc16⟩ := Kd.R_reads hr
    have hr16 := hr
    clear hr
    refine hS.next (v := .slice A16 ((t11 ++ bytesOf a1 : List Int).length) C16) (d := 19) rfl (by decide) (by rfl) ?_
    clear hS
    intro at17 hS
    refine list_step rfl (R := fun v w' => Below _ _ w' ∧ (IsV (.slice A16 ((t11 ++ bytesOf a1 : List Int).length) C16)) v w') (does_val (x_assign rfl (hS.get 0 rfl)) rfl) ?_
    rintro vw18 w18 ⟨hb, he⟩
    have hBw18_w := below_step hBw15_w hb
    have hBw18_w3 := below_step hBw15_w3 hb
    have hBw18_w9 := below_step hBw15_w9 hb
    have hBw18_w15 := below_step hBw15_w15 hb
    have hBw18_w18 := Below.refl w18.heap.size w18
    obtain rfl : vw18 = .slice A16 ((t11 ++ bytesOf a1 : List Int).length) C16 := he
    refine hS.next (v := .slice A16 ((t11 ++ bytesOf a1 : List Int).length) C16) (d := 6) rfl (by decide) (by rfl) ?_
    clear hS
    intro at19 hS
    refine wpList_nil ?_
    refine hK10 _ _ ?_
    (try clear hK10 K10)
    refine wp_seq_k (fun K20 hK20 => ?_)
    refine wp_seq_k (fun K21 hK21 => ?_)
    refine reg_seq (N := 39) (bs := [(6, .slice A16 ((t11 ++ bytesOf a1 : List Int).length) C16), (19, .slice A16 ((t11 ++ bytesOf a1 : List Int).length) C16), (18, .string a1), (4, .pointer (some ⟨g4, 0, none⟩))]) (I := fun x => Below w.heap.size w x ∧ Below w3.heap.size w3 x ∧ Below w9.heap.size w9 x ∧ Below w15.heap.size w15 x ∧ Below w18.heap.size w18 x) (ps := [IsV (.slice A16 ((t11 ++ bytesOf a1 : List Int).length) C16), VI ((t11 ++ bytesOf a1 : List Int).length : Int), VI (Int.tmod ((t11 ++ bytesOf a1 : List Int).length : Int) 2), VB (!decide ((Int.tmod ((t11 ++ bytesOf a1 : List Int).length : Int) 2) = 0))]) (by kernel_rfl) ?_ ?_ rfl hS ⟨hBw18_w, hBw18_w3, hBw18_w9, hBw18_w15, hBw18_w18⟩ ?_ ?_
    · exact fun x y hI hb => ⟨below_step hI.1 hb, below_step hI.2.1 hb, below_step hI.2.2.1 hb, below_step hI.2.2.2.1 hb, below_step hI.2.2.2.2 hb⟩
    · exact .v (.v (.v (.v (.nil))))
    · refine .ms 0 rfl rfl rfl ?_
      refine .on rfl (fun a w hS hI hp => does_val (x_len (e := 5) rfl (by kernel_rfl) (hp.V 0 rfl rfl)) rfl) ?_
      refine .on rfl (fun a w hS hI hp => does_val (x_bin rfl (hp.V 1 rfl rfl) (rfl) (b_rem _ _ _ _ _ _ (by decide))) rfl) ?_
      refine .on rfl (fun a w hS hI hp => does_val (x_bin rfl (hp.V 2 rfl rfl) (rfl) (b_neq _ _ _ _ _ _)) rfl) ?_
      exact .nil
    clear hS
    intro at22 w23 hS hI hp
    have hBw23_w := hI.1
    have hBw23_w3 := hI.2.1
    have hBw23_w9 := hI.2.2.1
    have hBw23_w15 := hI.2.2.2.1
    have hBw23_w18 := hI.2.2.2.2
    replace hS := ((hS.nil).cons (hS.get 3 rfl)).cons (hS.get 0 rfl)
    have hv23 : sl _ 23 = .bool (!decide ((Int.tmod ((t11 ++ bytesOf a1 : List Int).length : Int) 2) = 0)) := hp 3 (by decide)
    have hBw23_w23 := Below.refl w23.heap.size w23
    have hS := hS.cons hv23
    clear hp hI hv23
    refine hK21 _ _ ?_
    (try clear hK21 K21)
    refine wp_cond_true ((hS.get 0 rfl).trans (bT (congrArg (!·) (decide_eq_false c4)))) ?_
    refine reg_seq_tail 8 (N := 39) (bs := [(23, .bool (!decide ((Int.tmod ((t11 ++ bytesOf a1 : List Int).length : Int) 2) = 0))), (6, .slice A16 ((t11 ++ bytesOf a1 : List Int).length) C16), (4, .pointer (some ⟨g4, 0, none⟩))]) (I := fun x => Below w.heap.size w x ∧ Below w3.heap.size w3 x ∧ Below w9.heap.size w9 x ∧ Below w15.heap.size w15 x ∧ Below w23.heap.size w23 x) (ps := [IsV (.slice A16 ((t11 ++ bytesOf a1 : List Int).length) C16), IsV (.slice A16 ((t11 ++ bytesOf a1 : List Int).length) C16), VI ((t11 ++ bytesOf a1 : List Int).length : Int), IsV (.slice A16 ((t11 ++ bytesOf a1 : List Int).length) C16), VI ((t11 ++ bytesOf a1 : List Int).length : Int), IsV (.slice A16 ((t11 ++ bytesOf a1 : List Int).length) ((t11 ++ bytesOf a1 : List Int).length)), IsR (Kd.int .u8) 5 w23.heap.size [0], IsR (Kd.int .u8) 5 w23.heap.size ((t11 ++ bytesOf a1 : List Int) ++ [0] : List Int)]) (by kernel_rfl) ?_ ?_ rfl hS ⟨hBw23_w, hBw23_w3, hBw23_w9, hBw23_w15, hBw23_w23⟩ ?_ ?_
    · exact fun x y hI hb => ⟨below_step hI.1 hb, below_step hI.2.1 hb, below_step hI.2.2.1 hb, below_step hI.2.2.2.1 hb, below_step hI.2.2.2.2 hb⟩
    · exact .v (.v (.v (.v (.v (.v (.cons (Stays.r _ _ _ _) (.cons (Stays.r _ _ _ _) (.nil))))))))
    · refine .ms 1 rfl rfl rfl ?_
      refine .ms 1 rfl rfl rfl ?_
      refine .on rfl (fun a w hS hI hp => does_val (x_len (e := 5) rfl (by kernel_rfl) (hp.V 1 rfl rfl)) rfl) ?_
      refine .ms 1 rfl rfl rfl ?_
      refine .on rfl (fun a w hS hI hp => does_val (x_len (e := 5) rfl (by kernel_rfl) (hp.V 3 rfl rfl)) rfl) ?_
      refine .on rfl (fun a w hS hI hp => does_val (x_cutcap (e := 5) (n := (t11 ++ bytesOf a1 : List Int).length) (c := C16) (j := ((t11 ++ bytesOf a1 : List Int).length : Int)) (k := ((t11 ++ bytesOf a1 : List Int).length : Int)) rfl (by kernel_rfl) (by kernel_rfl) (hp.V 0 rfl rfl) (hp.V 2 rfl rfl) (hp.V 4 rfl rfl) (Int.natCast_nonneg _) (Int.le_refl _) (Int.ofNat_le.2 hl16)) rfl) ?_
      refine .on rfl (fun a w hS hI hp => does_lit w23.heap.size 31 5 1 _ [(0, .int .u8 0)] [0] rfl (by kernel_rfl) (by rw [Array.toList_map]; exact (show [(0, a.eval (.const (.int .u8 0)))] = _ from (li_cons (rfl) rfl))) (by kernel_rfl) rfl (hI.2.2.2.2).size (Nat.le_of_ble_eq_true rfl)) ?_
      refine .on rfl (fun a w hS hI hp => (IsC.of_r (hp.V 6 rfl rfl)).elim fun A_ h_ => h_.elim fun c_ h_ => h_.elim fun hv_ h_ => h_.elim fun hl_ hc_ => does_capped (B := w23.heap.size) (.tmp 29) (.tmp 30) 31 5 (.int .u8 0) 1 rfl (by kernel_rfl) (by kernel_rfl) rfl (by decide) (t11 ++ bytesOf a1 : List Int) [0] _ _ _ (hp.V 5 rfl rfl) hv_ (by decide) (Kd.C_below hc16 hI.2.2.2.1) (hc_) (hI.2.2.2.2).size c5) ?_
      exact .nil
    clear hS
    intro at24 w25 hS hI hp
    have hBw25_w := hI.1
    have hBw25_w3 := hI.2.1
    have hBw25_w9 := hI.2.2.1
    have hBw25_w15 := hI.2.2.2.1
    have hBw25_w23 := hI.2.2.2.2
    replace hS := ((hS.nil).cons (hS.get 2 rfl)).cons (hS.get 1 rfl)
    obtain ⟨A26, C26, hv31, hl26, hc26⟩ := Kd.R_reads (show Kd.R (Kd.int .u8) 5 w25 w23.heap.size (fun _ => True) (sl _ 31) ((t11 ++ bytesOf a1 : List Int) ++ [0] : List Int) from hp 7 (by decide))
    have ho26 : Kd.R (Kd.int .u8) 5 w25 w23.heap.size (fun _ => True) (.slice A26 ((t11 ++ bytesOf a1 : List Int) ++ [0] : List Int).length C26) ((t11 ++ bytesOf a1 : List Int) ++ [0] : List Int) := hv31 ▸ (hp 7 (by decide))
    have hBw25_w25 := Below.refl w25.heap.size w25
    have hS := hS.cons hv31
    clear hp hI hv31
    show wpList _ _ _ [_] _ _
    refine list_step rfl (R := fun v w' => Below _ _ w' ∧ (IsV (.slice A26 (((t11 ++ bytesOf a1 : List Int) ++ [0] : List Int).length) C26)) v w') (does_val (x_assign rfl (hS.get 0 rfl)) rfl) ?_
    rintro vw27 w27 ⟨hb, he⟩
    have hBw27_w := below_step hBw25_w hb
    have hBw27_w3 := below_step hBw25_w3 hb
    have hBw27_w9 := below_step hBw25_w9 hb
    have hBw27_w15 := below_step hBw25_w15 hb
    have hBw27_w23 := below_step hBw25_w23 hb
    have hBw27_w25 := below_step hBw25_w25 hb
    have hBw27_w27 := Below.refl w27.heap.size w27
    obtain rfl : vw27 = .slice A26 (((t11 ++ bytesOf a1 : List Int) ++ [0] : List Int).length) C26 := he
    replace hS := ((hS.nil).cons (hS.get 2 rfl)).cons (hS.get 0 rfl)
    refine hS.next (v := .slice A26 (((t11 ++ bytesOf a1 : List Int) ++ [0] : List Int).length) C26) (d := 6) rfl (by decide) (by rfl) ?_
    clear hS
    intro at28 hS
    refine wpList_nil ?_
    refine hK20 _ _ ?_
    (try clear hK20 K20)
    refine wp_seq_k (fun K29 hK29 => ?_)
    refine wp_seq_k (fun K30 hK30 => ?_)
    refine reg_seq (N := 39) (bs := [(6, .slice A26 (((t11 ++ bytesOf a1 : List Int) ++ [0] : List Int).length) C26), (31, .slice A26 (((t11 ++ bytesOf a1 : List Int) ++ [0] : List Int).length) C26), (4, .pointer (some ⟨g4, 0, none⟩))]) (I := fun x => Below w.heap.size w x ∧ Below w3.heap.size w3 x ∧ Below w23.heap.size w23 x ∧ Below w25.heap.size w25 x ∧ Below w27.heap.size w27 x) (ps := [IsV (.slice A26 (((t11 ++ bytesOf a1 : List Int) ++ [0] : List Int).length) C26), VI (((t11 ++ bytesOf a1 : List Int) ++ [0] : List Int).length : Int), VB (decide ((((t11 ++ bytesOf a1 : List Int) ++ [0] : List Int).length : Int) > 400))]) (by kernel_rfl) ?_ ?_ rfl hS ⟨hBw27_w, hBw27_w3, hBw27_w23, hBw27_w25, hBw27_w27⟩ ?_ ?_
    · exact fun x y hI hb => ⟨below_step hI.1 hb, below_step hI.2.1 hb, below_step hI.2.2.1 hb, below_step hI.2.2.2.1 hb, below_step hI.2.2.2.2 hb⟩
    · exact .v (.v (.v (.nil)))
    · refine .ms 0 rfl rfl rfl ?_
      refine .on rfl (fun a w hS hI hp => does_val (x_len (e := 5) rfl (by kernel_rfl) (hp.V 0 rfl rfl)) rfl) ?_
      refine .on rfl (fun a w hS hI hp => does_val (x_bin rfl (hp.V 1 rfl rfl) (rfl) (b_gtr _ _ _ _ _ _)) rfl) ?_
      exact .nil
    clear hS
    intro at31 w32 hS hI hp
    have hBw32_w := hI.1
    have hBw32_w3 := hI.2.1
    have hBw32_w23 := hI.2.2.1
    have hBw32_w25 := hI.2.2.2.1
    have hBw32_w27 := hI.2.2.2.2
    replace hS := ((hS.nil).cons (hS.get 2 rfl)).cons (hS.get 0 rfl)
    have hv34 : sl _ 34 = .bool (decide ((((t11 ++ bytesOf a1 : List Int) ++ [0] : List Int).length : Int) > 400)) := hp 2 (by decide)
    have hBw32_w32 := Below.refl w32.heap.size w32
    have hS := hS.cons hv34
    clear hp hI hv34
    refine hK30 _ _ ?_
    (try clear hK30 K30)
    refine wp_cond_true ((hS.get 0 rfl).trans (bT (decide_eq_true c6))) ?_
    refine wp_seq_k (fun K33 hK33 => ?_)
    refine reg_seq_tail 1 (N := 39) (bs := [(34, .bool (decide ((((t11 ++ bytesOf a1 : List Int) ++ [0] : List Int).length : Int) > 400))), (6, .slice A26 (((t11 ++ bytesOf a1 : List Int) ++ [0] : List Int).length) C26), (4, .pointer (some ⟨g4, 0, none⟩))]) (I := fun x => Below w.heap.size w x ∧ Below w3.heap.size w3 x ∧ Below w23.heap.size w23 x ∧ Below w25.heap.size w25 x ∧ Below w32.heap.size w32 x) (ps := [IsV (.agg #[.int .i64 0, .string (⟨#[]⟩ : ByteArray)])]) (by kernel_rfl) ?_ ?_ rfl hS ⟨hBw32_w, hBw32_w3, hBw32_w23, hBw32_w25, hBw32_w32⟩ ?_ ?_
    · exact fun x y hI hb => ⟨below_step hI.1 hb, below_step hI.2.1 hb, below_step hI.2.2.1 hb, below_step hI.2.2.2.1 hb, below_step hI.2.2.2.2 hb⟩
    · exact .v (.nil)
    · refine .on rfl (fun a w hS hI hp => does_val (x_build (vs := []) rfl (by rw [Array.toList_map]; exact (show [] = _ from rfl)) (by kernel_rfl)) rfl) ?_
      exact .nil
    clear hS
    intro at34 w35 hS hI hp
    have hBw35_w := hI.1
    have hBw35_w3 := hI.2.1
    have hBw35_w23 := hI.2.2.1
    have hBw35_w25 := hI.2.2.2.1
    have hBw35_w32 := hI.2.2.2.2
    replace hS := (hS.nil).cons (hS.get 2 rfl)
    have hv35 : sl _ 35 = .agg #[.int .i64 0, .string (⟨#[]⟩ : ByteArray)] := hp 0 (by decide)
    have hBw35_w35 := Below.refl w35.heap.size w35
    have hS := hS.cons hv35
    clear hp hI hv35
    show wpList _ _ _ [_, _] _ _
    refine list_step rfl (does_storeAll (g := g4) (cs := #[.int .i64 0, .string (⟨#[]⟩ : ByteArray)]) rfl (hS.get 1 rfl) (hS.get 0 rfl) ((hBw35_w3.block g4 (blk_lt hbxg4)).trans hbxg4) (by kernel_rfl) (by kernel_rfl) (by kernel_rfl)) ?_
    rintro vw36 w36 ⟨rfl, hbxw36, hT⟩
    have hBw36_w := hT.below hBw35_w hgeg4 (hBw35_w).size
    have hBw36_w36 := Below.refl w36.heap.size w36
    clear hT
    refine list_step rfl (R := fun v w' => Below _ _ w' ∧ (VB false) v w') (does_val (x_assign rfl (rfl)) rfl) ?_
    rintro vw37 w37 ⟨hb, he⟩
    have hBw37_w := below_step hBw36_w hb
    have hBw37_w36 := below_step hBw36_w36 hb
    have hBw37_w37 := Below.refl w37.heap.size w37
    obtain rfl : vw37 = .bool false := he
    refine hS.next (v := .bool false) (d := 5) rfl (by decide) (by rfl) ?_
    clear hS
    intro at38 hS
    refine wpList_nil ?_
    refine hK33 _ _ ?_
    (try clear hK33 K33)
    refine wp_ret ?_
    (try simp only [Exit.then, Exit.inBlock, Exit.jump, Exit.noGoto])
    exact bodyPost_ret (v := .tuple #[.agg #[.int .i64 0, .string (⟨#[]⟩ : ByteArray)], .bool false]) (results_list (rs := [.cell 4 26, .tmp 5]) rfl (by simp) (Vals.cell g4 26 #[.int .i64 0, .string (⟨#[]⟩ : ByteArray)] (0, 0) _ (hS.get 2 rfl) ((hBw37_w36.block g4 (blk_lt hbxw36)).trans hbxw36) Try.underlying26 rfl (by kernel_rfl) (Vals.at (hS.get 0 rfl) .nil))) hS.nodef ⟨rfl, hBw37_w⟩
  rw [if_neg c6] at H
  simp only [Option.some.injEq, Prod.mk.injEq] at H
  obtain ⟨rfl, rfl, rfl⟩ := H
  refine calls_of_wp (fn := Try.f27) (by kernel_rfl) rfl ?_
  have hS := St.enter #[.int .i64 a0, .string a1] 39 (by simp) [(0, .int .i64 a0), (1, .string a1)] (by simp)
  have HB0 := Below.refl w.heap.size w
  refine wp_seq_k (fun K1 hK1 => ?_)
  refine reg_seq (N := 39) (bs := [(0, .int .i64 a0), (1, .string a1)]) (I := fun x => Below w.heap.size w x) (ps := [IsB #[.int .i64 0, .string (⟨#[]⟩ : ByteArray)] 26 w.heap.size, VB false]) (by kernel_rfl) ?_ ?_ rfl hS HB0 ?_ ?_
  · exact fun x y hI hb => below_step hI hb
  · exact .cons (Stays.b _ _ _) (.v (.nil))
  · refine .on rfl (fun a w hS hI hp => does_var (x_alloc rfl (by kernel_rfl)) (hI).size) ?_
    refine .on rfl (fun a w hS hI hp => does_val (x_assign rfl (rfl)) rfl) ?_
    exact .nil
  clear hS
  intro at2 w3 hS hI hp
  have hBw3_w := hI
  obtain ⟨g4, hv4, hgeg4, hbxg4⟩ := (show IsB _ 26 _ (sl _ 4) _ from hp 0 (by decide))
  have hBw3_w3 := Below.refl w3.heap.size w3
  have hS := hS.cons hv4
  clear hp hI hv4
  refine hK1 _ _ ?_
  (try clear hK1 K1)
  refine wp_seq_k (fun K5 hK5 => ?_)
  refine wp_seq_k (fun K6 hK6 => ?_)
  refine reg_seq (N := 39) (bs := [(4, .pointer (some ⟨g4, 0, none⟩)), (0, .int .i64 a0), (1, .string a1)]) (I := fun x => Below w.heap.size w x ∧ Below w3.heap.size w3 x) (ps := [VI a0, VB t7, VB (!t7), VB (!t7), IsV (.string a1), VI (a1.size : Int), VB (decide ((a1.size : Int) > 400)), VB (decide ((a1.size : Int) > 400))]) (by kernel_rfl) ?_ ?_ rfl hS ⟨hBw3_w, hBw3_w3⟩ ?_ ?_
  · exact fun x y hI hb => ⟨below_step hI.1 hb, below_step hI.2 hb⟩
  · exact .v (.v (.v (.v (.v (.v (.v (.v (.nil))))))))
  · refine .ms 1 rfl rfl rfl ?_
    refine .on rfl (fun a w hS hI hp => does_call (by kernel_rfl) (ar3 (hp.V 0 rfl rfl) (rfl) (rfl)) ((tlv_in.calls a0 0 65535 t7 _  At7).mono fun _ _ h => ⟨_, h.1, h.2.below, rfl⟩)) ?_
    refine .on rfl (fun a w hS hI hp => does_val (x_not rfl (hp.V 1 rfl rfl)) rfl) ?_
    refine .mv 2 rfl rfl rfl rfl ?_
    refine .oy 3 10 rfl rfl rfl rfl rfl ((congrArg (!·) c1)) (fun a w hS hI hp => does_val (x_move rfl (hS.get 2 rfl)) rfl) ?_
    refine .oy 3 10 rfl rfl rfl rfl rfl ((congrArg (!·) c1)) (fun a w hS hI hp => does_val (x_lenS rfl (by kernel_rfl) (hp.V 4 rfl rfl)) rfl) ?_
    refine .oy 3 10 rfl rfl rfl rfl rfl ((congrArg (!·) c1)) (fun a w hS hI hp => does_val (x_bin rfl (hp.V 5 rfl rfl) (rfl) (b_gtr _ _ _ _ _ _)) rfl) ?_
    refine .on rfl (fun a w hS hI hp => does_val (x_pickF rfl ((hp.V 3 rfl rfl).trans (bF (congrArg (!·) c1))) (hp.V 6 rfl rfl)) rfl) ?_
    exact .nil
  clear hS
  intro at8 w9 hS hI hp
  have hBw9_w := hI.1
  have hBw9_w3 := hI.2
  have hv14 : sl _ 14 = .bool (decide ((a1.size : Int) > 400)) := hp 7 (by decide)
  have hBw9_w9 := Below.refl w9.heap.size w9
  have hS := hS.cons hv14
  clear hp hI hv14
  refine hK6 _ _ ?_
  (try clear hK6 K6)
  refine wp_cond_false ((hS.get 0 rfl).trans (bF (decide_eq_false c2))) ?_
  refine wp_skip ?_
  refine hK5 _ _ ?_
  (try clear hK5 K5)
  refine wp_seq_k (fun K10 hK10 => ?_)
  refine reg_seq_tail 3 (N := 39) (bs := [(14, .bool (decide ((a1.size : Int) > 400))), (4, .pointer (some ⟨g4, 0, none⟩)), (0, .int .i64 a0), (1, .string a1)]) (I := fun x => Below w.heap.size w x ∧ Below w3.heap.size w3 x ∧ Below w9.heap.size w9 x) (ps := [VI a0, IsR (Kd.int .u8) 5 w9.heap.size t11, IsV (.string a1)]) (by kernel_rfl) ?_ ?_ rfl hS ⟨hBw9_w, hBw9_w3, hBw9_w9⟩ ?_ ?_
  · exact fun x y hI hb => ⟨below_step hI.1 hb, below_step hI.2.1 hb, below_step hI.2.2 hb⟩
  · exact .v (.cons (Stays.r _ _ _ _) (.v (.nil)))
  · refine .ms 2 rfl rfl rfl ?_
    refine .on rfl (fun a w hS hI hp => does_call (by kernel_rfl) (ar3 (rfl) (hp.V 0 rfl rfl) (rfl)) ((octets_Put.calls _ _ [] a0 2 t11 _ (Kd.C_nil _ _) (Nat.le_refl _) At11).mono fun _ _ h => h.elim fun v0 h => ⟨v0, h.1, h.2.2, Kd.R_lower h.2.1 hI.2.2.size⟩)) ?_
    refine .ms 3 rfl rfl rfl ?_
    exact .nil
  clear hS
  intro at12 w13 hS hI hp
  have hBw13_w := hI.1
  have hBw13_w3 := hI.2.1
  have hBw13_w9 := hI.2.2
  replace hS := (hS.nil).cons (hS.get 1 rfl)
  obtain ⟨A14, C14, hv17, hl14, hc14⟩ := Kd.R_reads (show Kd.R (Kd.int .u8) 5 w13 w9.heap.size (fun _ => True) (sl _ 17) t11 from hp 1 (by decide))
  have ho14 : Kd.R (Kd.int .u8) 5 w13 w9.heap.size (fun _ => True) (.slice A14 t11.length C14) t11 := hv17 ▸ (hp 1 (by decide))
  have hv18 : sl _ 18 = .string a1 := hp 2 (by decide)
  have hBw13_w13 := Below.refl w13.heap.size w13
  have hS := hS.cons hv17
  have hS := hS.cons hv18
  clear hp hI hv17 hv18
  show wpList _ _ _ [_, _] _ _
  refine list_step rfl (does_moreS (W := w9) (.tmp 17) (.tmp 18) 31 9 5 rfl (by kernel_rfl) (by kernel_rfl) (by kernel_rfl) _ t11 a1 (hS.get 1 rfl) (hS.get 0 rfl) (Kd.R_below ho14 hBw13_w13) (hBw13_w9) c3) ?_
  rintro vw15 w15 ⟨hb, hr, hk⟩
  clear hk
  have hBw15_w := below_step hBw9_w hb
  have hBw15_w3 := below_step hBw9_w3 hb
  have hBw15_w9 := hb
  replace hS := ((hS.nil).cons (hS.get 2 rfl)).cons (hS.get 0 rfl)
  have hBw15_w15 := Below.refl w15.heap.size w15
  obtain ⟨A16, C16, rfl, hl16, hc16⟩ := Kd.R_reads hr
  have hr16 := hr
  clear hr
  refine hS.next (v := .slice A16 ((t11 ++ bytesOf a1 : List Int).length) C16) (d := 19) rfl (by decide) (by rfl) ?_
  clear hS
  intro at17 hS
  refine list_step rfl (R := fun v w' => Below _ _ w' ∧ (IsV (.slice A16 ((t11 ++ bytesOf a1 : List Int).length) C16)) v w') (does_val (x_assign rfl (hS.get 0 rfl)) rfl) ?_
  rintro vw18 w18 ⟨hb, he⟩
  have hBw18_w := below_step hBw15_w hb
  have hBw18_w3 := below_step hBw15_w3 hb
  have hBw18_w9 := below_step hBw15_w9 hb
  have hBw18_w15 := below_step hBw15_w15 hb
  have hBw18_w18 := Below.refl w18.heap.size w18
  obtain rfl : vw18 = .slice A16 ((t11 ++ bytesOf a1 : List Int).length) C16 := he
  refine hS.next (v := .slice A16 ((t11 ++ bytesOf a1 : List Int).length) C16) (d := 6) rfl (by decide) (by rfl) ?_
  clear hS
  intro at19 hS
  refine wpList_nil ?_
  refine hK10 _ _ ?_
  (try clear hK10 K10)
  refine wp_seq_k (fun K20 hK20 => ?_)
  refine wp_seq_k (fun K21 hK21 => ?_)
  refine reg_seq (N := 39) (bs := [(6, .slice A16 ((t11 ++ bytesOf a1 : List Int).length) C16), (19, .slice A16 ((t11 ++ bytesOf a1 : List Int).length) C16), (18, .string a1), (4, .pointer (some ⟨g4, 0, none⟩))]) (I := fun x => Below w.heap.size w x ∧ Below w3.heap.size w3 x ∧ Below w9.heap.size w9 x ∧ Below w15.heap.size w15 x ∧ Below w18.heap.size w18 x) (ps := [IsV (.slice A16 ((t11 ++ bytesOf a1 : List Int).length) C16), VI ((t11 ++ bytesOf a1 : List Int).length : Int), VI (Int.tmod ((t11 ++ bytesOf a1 : List Int).length : Int) 2), VB (!decide ((Int.tmod ((t11 ++ bytesOf a1 : List Int).length : Int) 2) = 0))]) (by kernel_rfl) ?_ ?_ rfl hS ⟨hBw18_w, hBw18_w3, hBw18_w9, hBw18_w15, hBw18_w18⟩ ?_ ?_
  · exact fun x y hI hb => ⟨below_step hI.1 hb, below_step hI.2.1 hb, below_step hI.2.2.1 hb, below_step hI.2.2.2.1 hb, below_step hI.2.2.2.2 hb⟩
  · exact .v (.v (.v (.v (.nil))))
  · refine .ms 0 rfl rfl rfl ?_
    refine .on rfl (fun a w hS hI hp => does_val (x_len (e := 5) rfl (by kernel_rfl) (hp.V 0 rfl rfl)) rfl) ?_
    refine .on rfl (fun a w hS hI hp => does_val (x_bin rfl (hp.V 1 rfl rfl) (rfl) (b_rem _ _ _ _ _ _ (by decide))) rfl) ?_
    refine .on rfl (fun a w hS hI hp => does_val (x_bin rfl (hp.V 2 rfl rfl) (rfl) (b_neq _ _ _ _ _ _)) rfl) ?_
    exact .nil
  clear hS
  intro at22 w23 hS hI hp
  have hBw23_w := hI.1
  have hBw23_w3 := hI.2.1
  have hBw23_w9 := hI.2.2.1
  have hBw23_w15 := hI.2.2.2.1
  have hBw23_w18 := hI.2.2.2.2
  replace hS := ((hS.nil).cons (hS.get 3 rfl)).cons (hS.get 0 rfl)
  have hv23 : sl _ 23 = .bool (!decide ((Int.tmod ((t11 ++ bytesOf a1 : List Int).length : Int) 2) = 0)) := hp 3 (by decide)
  have hBw23_w23 := Below.refl w23.heap.size w23
  have hS := hS.cons hv23
  clear hp hI hv23
  refine hK21 _ _ ?_
  (try clear hK21 K21)
  refine wp_cond_true ((hS.get 0 rfl).trans (bT (congrArg (!·) (decide_eq_false c4)))) ?_
  refine reg_seq_tail 8 (N := 39) (bs := [(23, .bool (!decide ((Int.tmod ((t11 ++ bytesOf a1 : List Int).length : Int) 2) = 0))), (6, .slice A16 ((t11 ++ bytesOf a1 : List Int).length) C16), (4, .pointer (some ⟨g4, 0, none⟩))]) (I := fun x => Below w.heap.size w x ∧ Below w3.heap.size w3 x ∧ Below w9.heap.size w9 x ∧ Below w15.heap.size w15 x ∧ Below w23.heap.size w23 x) (ps := [IsV (.slice A16 ((t11 ++ bytesOf a1 : List Int).length) C16), IsV (.slice A16 ((t11 ++ bytesOf a1 : List Int).length) C16), VI ((t11 ++ bytesOf a1 : List Int).length : Int), IsV (.slice A16 ((t11 ++ bytesOf a1 : List Int).length) C16), VI ((t11 ++ bytesOf a1 : List Int).length : Int), IsV (.slice A16 ((t11 ++ bytesOf a1 : List Int).length) ((t11 ++ bytesOf a1 : List Int).length)), IsR (Kd.int .u8) 5 w23.heap.size [0], IsR (Kd.int .u8) 5 w23.heap.size ((t11 ++ bytesOf a1 : List Int) ++ [0] : List Int)]) (by kernel_rfl) ?_ ?_ rfl hS ⟨hBw23_w, hBw23_w3, hBw23_w9, hBw23_w15, hBw23_w23⟩ ?_ ?_
  · exact fun x y hI hb => ⟨below_step hI.1 hb, below_step hI.2.1 hb, below_step hI.2.2.1 hb, below_step hI.2.2.2.1 hb, below_step hI.2.2.2.2 hb⟩
  · exact .v (.v (.v (.v (.v (.v (.cons (Stays.r _ _ _ _) (.cons (Stays.r _ _ _ _) (.nil))))))))
  · refine .ms 1 rfl rfl rfl ?_
    refine .ms 1 rfl rfl rfl ?_
    refine .on rfl (fun a w hS hI hp => does_val (x_len (e := 5) rfl (by kernel_rfl) (hp.V 1 rfl rfl)) rfl) ?_
    refine .ms 1 rfl rfl rfl ?_
    refine .on rfl (fun a w hS hI hp => does_val (x_len (e := 5) rfl (by kernel_rfl) (hp.V 3 rfl rfl)) rfl) ?_
    refine .on rfl (fun a w hS hI hp => does_val (x_cutcap (e := 5) (n := (t11 ++ bytesOf a1 : List Int).length) (c := C16) (j := ((t11 ++ bytesOf a1 : List Int).length : Int)) (k := ((t11 ++ bytesOf a1 : List Int).length : Int)) rfl (by kernel_rfl) (by kernel_rfl) (hp.V 0 rfl rfl) (hp.V 2 rfl rfl) (hp.V 4 rfl rfl) (Int.natCast_nonneg _) (Int.le_refl _) (Int.ofNat_le.2 hl16)) rfl) ?_
    refine .on rfl (fun a w hS hI hp => does_lit w23.heap.size 31 5 1 _ [(0, .int .u8 0)] [0] rfl (by kernel_rfl) (by rw [Array.toList_map]; exact (show [(0, a.eval (.const (.int .u8 0)))] = _ from (li_cons (rfl) rfl))) (by kernel_rfl) rfl (hI.2.2.2.2).size (Nat.le_of_ble_eq_true rfl)) ?_
    refine .on rfl (fun a w hS hI hp => (IsC.of_r (hp.V 6 rfl rfl)).elim fun A_ h_ => h_.elim fun c_ h_ => h_.elim fun hv_ h_ => h_.elim fun hl_ hc_ => does_capped (B := w23.heap.size) (.tmp 29) (.tmp 30) 31 5 (.int .u8 0) 1 rfl (by kernel_rfl) (by kernel_rfl) rfl (by decide) (t11 ++ bytesOf a1 : List Int) [0] _ _ _ (hp.V 5 rfl rfl) hv_ (by decide) (Kd.C_below hc16 hI.2.2.2.1) (hc_) (hI.2.2.2.2).size c5) ?_
    exact .nil
  clear hS
  intro at24 w25 hS hI hp
  have hBw25_w := hI.1
  have hBw25_w3 := hI.2.1
  have hBw25_w9 := hI.2.2.1
  have hBw25_w15 := hI.2.2.2.1
  have hBw25_w23 := hI.2.2.2.2
  replace hS := ((hS.nil).cons (hS.get 2 rfl)).cons (hS.get 1 rfl)
  obtain ⟨A26, C26, hv31, hl26, hc26⟩ := Kd.R_reads (show Kd.R (Kd.int .u8) 5 w25 w23.heap.size (fun _ => True) (sl _ 31) ((t11 ++ bytesOf a1 : List Int) ++ [0] : List Int) from hp 7 (by decide))
  have ho26 : Kd.R (Kd.int .u8) 5 w25 w23.heap.size (fun _ => True) (.slice A26 ((t11 ++ bytesOf a1 : List Int) ++ [0] : List Int).length C26) ((t11 ++ bytesOf a1 : List Int) ++ [0] : List Int) := hv31 ▸ (hp 7 (by decide))
  have hBw25_w25 := Below.refl w25.heap.size w25
  have hS := hS.cons hv31
  clear hp hI hv31
  show wpList _ _ _ [_] _ _
  refine list_step rfl (R := fun v w' => Below _ _ w' ∧ (IsV (.slice A26 (((t11 ++ bytesOf a1 : List Int) ++ [0] : List Int).length) C26)) v w') (does_val (x_assign rfl (hS.get 0 rfl)) rfl) ?_
  rintro vw27 w27 ⟨hb, he⟩
  have hBw27_w := below_step hBw25_w hb
  have hBw27_w3 := below_step hBw25_w3 hb
  have hBw27_w9 := below_step hBw25_w9 hb
  have hBw27_w15 := below_step hBw25_w15 hb
  have hBw27_w23 := below_step hBw25_w23 hb
  have hBw27_w25 := below_step hBw25_w25 hb
  have hBw27_w27 := Below.refl w27.heap.size w27
  obtain rfl : vw27 = .slice A26 (((t11 ++ bytesOf a1 : List Int) ++ [0] : List Int).length) C26 := he
  replace hS := ((hS.nil).cons (hS.get 2 rfl)).cons (hS.get 0 rfl)
  refine hS.next (v := .slice A26 (((t11 ++ bytesOf a1 : List Int) ++ [0] : List Int).length) C26) (d := 6) rfl (by decide) (by rfl) ?_
  clear hS
  intro at28 hS
  refine wpList_nil ?_
  refine hK20 _ _ ?_
  (try clear hK20 K20)
  refine wp_seq_k (fun K29 hK29 => ?_)
  refine wp_seq_k (fun K30 hK30 => ?_)
  refine reg_seq (N := 39) (bs := [(6, .slice A26 (((t11 ++ bytesOf a1 : List Int) ++ [0] : List Int).length) C26), (31, .slice A26 (((t11 ++ bytesOf a1 : List Int) ++ [0] : List Int).length) C26), (4, .pointer (some ⟨g4, 0, none⟩))]) (I := fun x => Below w.heap.size w x ∧ Below w3.heap.size w3 x ∧ Below w23.heap.size w23 x ∧ Below w25.heap.size w25 x ∧ Below w27.heap.size w27 x) (ps := [IsV (.slice A26 (((t11 ++ bytesOf a1 : List Int) ++ [0] : List Int).length) C26), VI (((t11 ++ bytesOf a1 : List Int) ++ [0] : List Int).length : Int), VB (decide ((((t11 ++ bytesOf a1 : List Int) ++ [0] : List Int).length : Int) > 400))]) (by kernel_rfl) ?_ ?_ rfl hS ⟨hBw27_w, hBw27_w3, hBw27_w23, hBw27_w25, hBw27_w27⟩ ?_ ?_
  · exact fun x y hI hb => ⟨below_step hI.1 hb, below_step hI.2.1 hb, below_step hI.2.2.1 hb, below_step hI.2.2.2.1 hb, below_step hI.2.2.2.2 hb⟩
  · exact .v (.v (.v (.nil)))
  · refine .ms 0 rfl rfl rfl ?_
    refine .on rfl (fun a w hS hI hp => does_val (x_len (e := 5) rfl (by kernel_rfl) (hp.V 0 rfl rfl)) rfl) ?_
    refine .on rfl (fun a w hS hI hp => does_val (x_bin rfl (hp.V 1 rfl rfl) (rfl) (b_gtr _ _ _ _ _ _)) rfl) ?_
    exact .nil
  clear hS
  intro at31 w32 hS hI hp
  have hBw32_w := hI.1
  have hBw32_w3 := hI.2.1
  have hBw32_w23 := hI.2.2.1
  have hBw32_w25 := hI.2.2.2.1
  have hBw32_w27 := hI.2.2.2.2
  replace hS := ((hS.nil).cons (hS.get 2 rfl)).cons (hS.get 0 rfl)
  have hv34 : sl _ 34 = .bool (decide ((((t11 ++ bytesOf a1 : List Int) ++ [0] : List Int).length : Int) > 400)) := hp 2 (by decide)
  have hBw32_w32 := Below.refl w32.heap.size w32
  have hS := hS.cons hv34
  clear hp hI hv34
  refine hK30 _ _ ?_
  (try clear hK30 K30)
  refine wp_cond_false ((hS.get 0 rfl).trans (bF (decide_eq_false c6))) ?_
  refine wp_skip ?_
  refine hK29 _ _ ?_
  (try clear hK29 K29)
  refine wp_seq_k (fun K33 hK33 => ?_)
  refine reg_seq_tail 3 (N := 39) (bs := [(34, .bool (decide ((((t11 ++ bytesOf a1 : List Int) ++ [0] : List Int).length : Int) > 400))), (6, .slice A26 (((t11 ++ bytesOf a1 : List Int) ++ [0] : List Int).length) C26), (4, .pointer (some ⟨g4, 0, none⟩))]) (I := fun x => Below w.heap.size w x ∧ Below w3.heap.size w3 x ∧ Below w23.heap.size w23 x ∧ Below w25.heap.size w25 x ∧ Below w32.heap.size w32 x) (ps := [IsV (.slice A26 (((t11 ++ bytesOf a1 : List Int) ++ [0] : List Int).length) C26), IsV (.string (strOfNums ((t11 ++ bytesOf a1 : List Int) ++ [0] : List Int))), IsV (.agg #[.int .i64 1, .string (strOfNums ((t11 ++ bytesOf a1 : List Int) ++ [0] : List Int))])]) (by kernel_rfl) ?_ ?_ rfl hS ⟨hBw32_w, hBw32_w3, hBw32_w23, hBw32_w25, hBw32_w32⟩ ?_ ?_
  · exact fun x y hI hb => ⟨below_step hI.1 hb, below_step hI.2.1 hb, below_step hI.2.2.1 hb, below_step hI.2.2.2.1 hb, below_step hI.2.2.2.2 hb⟩
  · exact .v (.v (.v (.nil)))
  · refine .ms 1 rfl rfl rfl ?_
    refine .on rfl (fun a w hS hI hp => does_val (x_conv rfl (hp.V 0 rfl rfl) (Kd.C_string (by kernel_rfl) (e := 5) (by kernel_rfl) (by kernel_rfl) (Kd.C_below hc26 hI.2.2.2.1))) rfl) ?_
    refine .on rfl (fun a w hS hI hp => does_val (x_build (vs := [(0, .int .i64 1), (1, .string (strOfNums ((t11 ++ bytesOf a1 : List Int) ++ [0] : List Int)))]) rfl (by rw [Array.toList_map]; exact (show [(0, a.eval (.const (.int .i64 1))), (1, a.eval (.tmp 37))] = _ from (li_cons (rfl) (li_cons (hp.V 1 rfl rfl) rfl)))) (by kernel_rfl)) rfl) ?_
    exact .nil
  clear hS
  intro at34 w35 hS hI hp
  have hBw35_w := hI.1
  have hBw35_w3 := hI.2.1
  have hBw35_w23 := hI.2.2.1
  have hBw35_w25 := hI.2.2.2.1
  have hBw35_w32 := hI.2.2.2.2
  replace hS := (hS.nil).cons (hS.get 2 rfl)
  have hv38 : sl _ 38 = .agg #[.int .i64 1, .string (strOfNums ((t11 ++ bytesOf a1 : List Int) ++ [0] : List Int))] := hp 2 (by decide)
  have hBw35_w35 := Below.refl w35.heap.size w35
  have hS := hS.cons hv38
  clear hp hI hv38
  show wpList _ _ _ [_, _] _ _
  refine list_step rfl (does_storeAll (g := g4) (cs := #[.int .i64 1, .string (strOfNums ((t11 ++ bytesOf a1 : List Int) ++ [0] : List Int))]) rfl (hS.get 1 rfl) (hS.get 0 rfl) ((hBw35_w3.block g4 (blk_lt hbxg4)).trans hbxg4) (by kernel_rfl) (by kernel_rfl) (by kernel_rfl)) ?_
  rintro vw36 w36 ⟨rfl, hbxw36, hT⟩
  have hBw36_w := hT.below hBw35_w hgeg4 (hBw35_w).size
  have hBw36_w36 := Below.refl w36.heap.size w36
  clear hT
  refine list_step rfl (R := fun v w' => Below _ _ w' ∧ (VB true) v w') (does_val (x_assign rfl (rfl)) rfl) ?_
  rintro vw37 w37 ⟨hb, he⟩
  have hBw37_w := below_step hBw36_w hb
  have hBw37_w36 := below_step hBw36_w36 hb
  have hBw37_w37 := Below.refl w37.heap.size w37
  obtain rfl : vw37 = .bool true := he
  refine hS.next (v := .bool true) (d := 5) rfl (by decide) (by rfl) ?_
  clear hS
  intro at38 hS
  refine wpList_nil ?_
  refine hK33 _ _ ?_
  (try clear hK33 K33)
  refine wp_ret ?_
  (try simp only [Exit.then, Exit.inBlock, Exit.jump, Exit.noGoto])
  exact bodyPost_ret (v := .tuple #[.agg #[.int .i64 1, .string (strOfNums ((t11 ++ bytesOf a1 : List Int) ++ [0] : List Int))], .bool true]) (results_list (rs := [.cell 4 26, .tmp 5]) rfl (by simp) (Vals.cell g4 26 #[.int .i64 1, .string (strOfNums ((t11 ++ bytesOf a1 : List Int) ++ [0] : List Int))] (0, 0) _ (hS.get 2 rfl) ((hBw37_w36.block g4 (blk_lt hbxw36)).trans hbxw36) Try.underlying26 rfl (by kernel_rfl) (Vals.at (hS.get 0 rfl) .nil))) hS.nodef ⟨rfl, hBw37_w⟩
/-! ### carillonlaw00_Ids: function 28 -/
def carillonlaw00_Ids.f (l0 : List Int) : Option (List Int) := if ([] : List Int).length + l0.length < 17592186044416 then (some (([] : List Int) ++ l0)) else (none)
set_option maxHeartbeats 8000000 in
set_option maxRecDepth 100000 in
theorem carillonlaw00_Ids.calls (A0 : Option Addr) (c0 : Nat) (l0 : List Int) (r : List Int) (w : World) (hr0 : Kd.C (Kd.int .u64) w A0 l0.length l0) (hc0 : l0.length ≤ c0) (h : carillonlaw00_Ids.f l0 = some r) :
    Calls Try.prog 28 #[.slice A0 l0.length c0] w fun e w' => ∃ v0_ : Value, e = .returned (v0_) ∧ Kd.R (Kd.int .u64) 58 w' w.heap.size (fun _ => True) v0_ r ∧ Below w.heap.size w w' := by
  have HR0 := Aside0.mk hr0
  have HC0 := Aside0.mk hc0
  clear hr0 hc0
  have HB := Aside0.mk (Below.refl w.heap.size w)
  have H : (if ([] : List Int).length + l0.length < 17592186044416 then (some (([] : List Int) ++ l0)) else (none)) = some r := h
  clear h
  by_cases c2 : ([] : List Int).length + l0.length < 17592186044416
  · rw [if_pos c2] at H
    have LMc2 := Aside0.mk c2
    clear c2
    obtain ⟨y137, hy137⟩ : ∃ y_ : List Int, y_ = (([] : List Int) ++ l0) := ⟨_, rfl⟩
    replace H : (some y137) = some r := by first | (rw [hy137]; with_reducible exact H) | (have H2_ := (Option.bind_some _ _).symm.trans H; rw [hy137]; with_reducible exact H2_) | (have H2_ := (Option.bind_some _ _).symm.trans H; with_reducible exact H2_) | with_reducible exact H | (rw [hy137]; exact H) | exact H
    have Ny137 := Aside0.mk hy137
    clear hy137
    obtain rfl := Option.some.inj H
    go_enter Try.func28, Try.ntmps28
    go_wp2_with (first | ((with_reducible refine gate_builtin (b := .append) (xs := #[.const (.slice none 0 0), .tmp 3]) rfl ?_); at_builtin; refine Kd.R_append_rows (Kd.int .u64) (w0 := w) w.heap.size rfl (.const (.slice none 0 0)) (.tmp 3) 45 58 (.int .u64 0) 8 rfl Try.underlying45 info58 rfl (by decide) (by omega) (.slice none 0 0) ([] : List Int) l0 _ _ _ (fun _ => True) (fun _ => False) rfl rfl ?aO ?aR (fun _ _ h => h) (fun _ h => h.elim) ?aF ?aB ?aS ?aL ?_; (case aR => repeat (first | exact HR0.out | (with_reducible refine Kd.C_alloc ?_ _) | (with_reducible refine Kd.C_drewN ?_ _) | (with_reducible refine Kd.C_drew ?_))); (case aB => exact (by repeat (first | (with_reducible first | exact HB.out | apply below_alloc | apply pw_below_drewN | apply below_drew1) | exact HB.out))); (case aF => exact (fun _ _ => trivial)); (case aO => exact ((Kd.R_nil _ _ _ _ (fun _ => True)))); (case aS => exact (below_size (by repeat (first | (with_reducible first | exact HB.out | apply below_alloc | apply pw_below_drewN | apply below_drew1) | exact HB.out)))); (case aL => have := LMc2.out; omega); intro v138 w3 ho hb hg hat; rw [← Ny137.out] at ho; have n0_ := Aside0.mk (hb); have n1_ := Aside0.mk (ho); clear HB; have HB := n0_; have HO139 := n1_; clear n0_ n1_; clear ho hb hg hat))
    all_goals
      go_ret
      exact ⟨_, by first | rfl | (simp [errW_none, errW_some] <;> rfl) | (simp [*, errW_none, errW_some] <;> rfl), by (with_reducible repeat (first | apply Kd.R_alloc | apply Kd.R_drewN | apply Kd.R_drew)); exact HO139.out, by repeat (first | (with_reducible first | exact HB.out | apply below_alloc | apply pw_below_drewN | apply below_drew1) | exact HB.out)⟩
  · rw [if_neg c2] at H
    exact absurd H (by simp)
/-! ### tlv_Fault: function 31 -/
def tlv_Fault.j0 : Nat → Int → Int → Bool → Option (Int × ByteArray × Bool)
  | 0, _, _, _ => none
  | k + 1, x0, x1, x14 => if x14 = true then (some (0, (⟨#[]⟩ : ByteArray), false)) else ((octets_Put.f ([] : List Int) x0 2).bind fun t143 => ((octets_Put.f t143 x1 2).bind fun t146 => ((octets_Put.f t146 0 4).bind fun t149 => (some (2, strOfNums t149, true)))))
def tlv_Fault.f (k : Nat) (a0 : Int) (a1 : Int) : Option (Int × ByteArray × Bool) := (tlv_in.f a0 0 65535).bind fun t141 => (if t141 = true then ((tlv_in.f a1 0 65535).bind fun t142 => (tlv_Fault.j0 k a0 a1 (!t142))) else (tlv_Fault.j0 k a0 a1 true))
set_option maxHeartbeats 8000000 in
set_option maxRecDepth 100000 in
theorem tlv_Fault.calls (k : Nat) (a0 : Int) (a1 : Int) (r1 : Int) (r2 : ByteArray) (r3 : Bool) (w : World) (h : tlv_Fault.f k a0 a1 = some (r1, r2, r3)) :
    Calls Try.prog 31 #[.int .i64 a0, .int .i64 a1] w fun e w' => e = .returned (.tuple #[.agg #[.int .i64 r1, .string r2], .bool r3]) ∧ Below w.heap.size w w' := by
  have hu26 := Try.underlying26
  have HB := Aside0.mk (Below.refl w.heap.size w)
  have H : ((tlv_in.f a0 0 65535).bind fun t141 => (if t141 = true then ((tlv_in.f a1 0 65535).bind fun t142 => (tlv_Fault.j0 k a0 a1 (!t142))) else (tlv_Fault.j0 k a0 a1 true))) = some (r1, r2, r3) := h
  clear h
  have HC3 := Aside0.mk H
  clear H
  go_enter Try.func31, Try.ntmps31
  go_upto_region 1 with (first | ((with_reducible refine gate_dst (N := 4) rfl ?_); refine box_event ?hg (N := 4) ?hd (cs := #[.int .i64 0, .string (⟨#[]⟩ : ByteArray)]) (t := 26) ?hr ?_; (case hd => rfl); (case hg => rfl); (case hr => first | (go_simp; done) | (go_simp; rfl)); intro gb140 hg w4 hbox hb; have n0_ := Aside0.mk (below_step (by repeat (first | (with_reducible first | exact HB.out | apply below_alloc | apply pw_below_drewN | apply below_drew1) | exact HB.out)) hb); have n1_ := Aside0.mk (hbox); have n2_ := Aside0.mk ((by rw [hg]; exact (below_size (by repeat (first | (with_reducible first | exact HB.out | apply below_alloc | apply pw_below_drewN | apply below_drew1) | exact HB.out))) : w.heap.size ≤ gb140)); have n3_ := Aside0.mk ((by rw [hg]; exact (below_size (by repeat (first | (with_reducible first | exact HB.out | apply below_alloc | apply pw_below_drewN | apply below_drew1) | exact HB.out))) : w.heap.size ≤ gb140)); clear HB; have HB := n0_; have BK140 := n1_; have GW140 := n2_; have GE140 := n3_; clear n0_ n1_ n2_ n3_; clear hb hbox hg))
  (try simp only [Act.put, List.setIfInBounds_toArray, List.set_cons_zero, List.set_cons_succ])
  go_cut [14] (fun v14 wc => ∃ (kq : Nat) (x14_2 : Bool), v14 = .bool x14_2 ∧ Aside0 (tlv_Fault.j0 kq a0 a1 x14_2 = some (r1, r2, r3)) ∧ Aside0 (kq ≤ k) ∧ Aside0 (wc.heap[gb140]? = some (.cells #[.int .i64 0, .string (⟨#[]⟩ : ByteArray)] 26 (0, 0))) ∧ Aside0 (Below w.heap.size w wc))
  case first =>
    have H := HC3.out
    clear HC3
    replace H := Option.bind_eq_some_iff.mp H
    obtain ⟨t141, A50, H⟩ := H
    replace H : (if t141 = true then ((tlv_in.f a1 0 65535).bind fun t142 => (tlv_Fault.j0 k a0 a1 (!t142))) else (tlv_Fault.j0 k a0 a1 true)) = some (r1, r2, r3) := H
    have A5 := Aside0.mk A50
    clear A50
    by_cases c6 : t141 = true
    · subst c6
      have H1 : ((tlv_in.f a1 0 65535).bind fun t142 => (tlv_Fault.j0 k a0 a1 (!t142))) = some (r1, r2, r3) := by rw [if_pos rfl] at H; exact H
      clear H
      have H := H1
      clear H1
      replace H := Option.bind_eq_some_iff.mp H
      obtain ⟨t142, A70, H⟩ := H
      replace H : (tlv_Fault.j0 k a0 a1 (!t142)) = some (r1, r2, r3) := H
      have A7 := Aside0.mk A70
      clear A70
      have H' := Aside0.mk H
      clear H
      go_wp2_with (first | ((with_reducible refine gate_callee (f := 42) rfl ?_); refine goesL_ (some 8) rfl rfl Try.func42 (by kernel_rfl) rfl #[.int .i64 a0, .int .i64 0, .int .i64 65535] rfl (by (try simp only [List.map_toArray, List.map_cons, List.map_nil]); first | done | rfl | (simp only [List.length_drop, List.length_take]; rfl)) ?_; (with_reducible refine (tlv_in.calls a0 0 65535 true _ A5.out).mono ?_); rintro e w' ⟨rfl, ⟨nd, rfl⟩⟩; refine ⟨_, rfl, ?_⟩) | (go_at_call 42; (with_reducible refine (tlv_in.calls a1 0 65535 t142 _ A7.out).mono ?_); rintro e w' ⟨rfl, ⟨nd, rfl⟩⟩))
      go_meet
      case rel => exact ⟨_, (!t142), (by first | rfl | (simp; done) | (simp [*]; done)), H', ⟨by first | omega | exact Nat.le_refl _⟩, ⟨by (with_reducible repeat (first | refine blk_drewN ?_ _ | refine blk_drew ?_ | refine blk_alloc ?_ _)); exact BK140.out⟩, ⟨by repeat (first | (with_reducible first | exact HB.out | apply below_alloc | apply pw_below_drewN | apply below_drew1 | refine below_set ?_ GE140.out) | exact HB.out)⟩⟩
    · replace c6 := Bool.eq_false_iff.mpr c6
      subst c6
      have H1 : (tlv_Fault.j0 k a0 a1 true) = some (r1, r2, r3) := by rw [if_neg (show ¬ (false = true) by decide)] at H; exact H
      clear H
      have H := H1
      clear H1
      have H' := Aside0.mk H
      clear H
      go_wp2_with (first | ((with_reducible refine gate_callee (f := 42) rfl ?_); refine goesL_ (some 8) rfl rfl Try.func42 (by kernel_rfl) rfl #[.int .i64 a0, .int .i64 0, .int .i64 65535] rfl (by (try simp only [List.map_toArray, List.map_cons, List.map_nil]); first | done | rfl | (simp only [List.length_drop, List.length_take]; rfl)) ?_; (with_reducible refine (tlv_in.calls a0 0 65535 false _ A5.out).mono ?_); rintro e w' ⟨rfl, ⟨nd, rfl⟩⟩; refine ⟨_, rfl, ?_⟩))
      go_meet
      case rel => exact ⟨_, (true), (by first | rfl | (simp; done) | (simp [*]; done)), H', ⟨by first | omega | exact Nat.le_refl _⟩, ⟨by (with_reducible repeat (first | refine blk_drewN ?_ _ | refine blk_drew ?_ | refine blk_alloc ?_ _)); exact BK140.out⟩, ⟨by repeat (first | (with_reducible first | exact HB.out | apply below_alloc | apply pw_below_drewN | apply below_drew1 | refine below_set ?_ GE140.out) | exact HB.out)⟩⟩
  case rest =>
    clear HC3
    try clear p2
    try clear c3
    try clear c4
    try clear c6
    obtain ⟨kq, x14_2, rfl, HA, HJ2, BK140, HB⟩ := hcut
    cases kq with
    | zero => exact absurd HA.out (by simp [tlv_Fault.j0])
    | succ kj2 =>
      have H := HA.out
      clear HA
      simp only [tlv_Fault.j0] at H
      by_cases c8 : x14_2 = true
      · subst c8
        have H1 : (some (0, (⟨#[]⟩ : ByteArray), false)) = some (r1, r2, r3) := by rw [if_pos rfl] at H; exact H
        clear H
        have H := H1
        clear H1
        simp only [Option.some.injEq, Prod.mk.injEq] at H
        obtain ⟨rfl, rfl, rfl⟩ := H
        have hcz9_0 : wc.cell? ⟨gb140, 0, none⟩ = some (.int .i64 0) := (blk_cell BK140.out 0).trans rfl
        have hcz9_1 : wc.cell? ⟨gb140, 1, none⟩ = some (.string (⟨#[]⟩ : ByteArray)) := (blk_cell BK140.out 1).trans rfl
        have hfz9_0 := blk_frozen BK140.out 0
        have hfz9_1 := blk_frozen BK140.out 1
        go_wp2
        refine bodyPost_ret (results_ct rfl _ _ gb140 26 #[.int .i64 0, .string (⟨#[]⟩ : ByteArray)] (0, 0) _ rfl (by (with_reducible repeat (first | refine blk_drewN ?_ _ | refine blk_drew ?_ | refine blk_alloc ?_ _)); refine blk_put (cs := #[.int .i64 0, .string (⟨#[]⟩ : ByteArray)]) ?_ 1 _ rfl; (with_reducible repeat (first | refine blk_drewN ?_ _ | refine blk_drew ?_ | refine blk_alloc ?_ _)); refine blk_put (cs := #[.int .i64 0, .string (⟨#[]⟩ : ByteArray)]) ?_ 0 _ rfl; (with_reducible repeat (first | refine blk_drewN ?_ _ | refine blk_drew ?_ | refine blk_alloc ?_ _)); exact BK140.out) Try.underlying26 rfl (by kernel_rfl)) rfl ?_
        exact ⟨by first | rfl | (simp [errW_none, errW_some] <;> rfl) | (simp [*, errW_none, errW_some] <;> rfl), by repeat (first | (with_reducible first | exact HB.out | apply below_alloc | apply pw_below_drewN | apply below_drew1 | refine below_set ?_ GE140.out) | exact HB.out)⟩
      · replace c8 := Bool.eq_false_iff.mpr c8
        subst c8
        have H1 : ((octets_Put.f ([] : List Int) a0 2).bind fun t143 => ((octets_Put.f t143 a1 2).bind fun t146 => ((octets_Put.f t146 0 4).bind fun t149 => (some (2, strOfNums t149, true))))) = some (r1, r2, r3) := by rw [if_neg (show ¬ (false = true) by decide)] at H; exact H
        clear H
        have H := H1
        clear H1
        replace H := Option.bind_eq_some_iff.mp H
        obtain ⟨t143, A100, H⟩ := H
        replace H : ((octets_Put.f t143 a1 2).bind fun t146 => ((octets_Put.f t146 0 4).bind fun t149 => (some (2, strOfNums t149, true)))) = some (r1, r2, r3) := H
        have A10 := Aside0.mk A100
        clear A100
        replace H := Option.bind_eq_some_iff.mp H
        obtain ⟨t146, A110, H⟩ := H
        replace H : ((octets_Put.f t146 0 4).bind fun t149 => (some (2, strOfNums t149, true))) = some (r1, r2, r3) := H
        have A11 := Aside0.mk A110
        clear A110
        replace H := Option.bind_eq_some_iff.mp H
        obtain ⟨t149, A120, H⟩ := H
        replace H : (some (2, strOfNums t149, true)) = some (r1, r2, r3) := H
        have A12 := Aside0.mk A120
        clear A120
        simp only [Option.some.injEq, Prod.mk.injEq] at H
        obtain ⟨rfl, rfl, rfl⟩ := H
        go_wp2_with (first | ((with_reducible refine gate_callee (f := 40) rfl ?_); refine goesL_ (some 17) rfl rfl Try.func40 (by kernel_rfl) rfl #[.slice none 0 0, .int .i64 a0, .int .i64 2] rfl (by (try simp only [List.map_toArray, List.map_cons, List.map_nil]); first | done | rfl | (simp only [List.length_drop, List.length_take]; rfl)) ?_; (refine (octets_Put.calls _ _ ([] : List Int) a0 2 t143 _ ?side1 ?side2 A10.out).mono ?_); (case side1 => exact Kd.C_nil _ _); (case side2 => exact Nat.le_refl _); rintro e w13 ⟨v144, rfl, ho0, hb⟩; refine ⟨_, rfl, ?_⟩; have n0_ := Aside0.mk (Kd.R_lower ho0 (below_size (by repeat (first | (with_reducible first | exact HB.out | apply below_alloc | apply pw_below_drewN | apply below_drew1 | refine below_set ?_ GE140.out) | exact HB.out)))); have n1_ := Aside0.mk (blk_below (g := gb140) (o := .cells #[.int .i64 0, .string (⟨#[]⟩ : ByteArray)] 26 (0, 0)) (by (with_reducible repeat (first | refine blk_drewN ?_ _ | refine blk_drew ?_ | refine blk_alloc ?_ _)); exact BK140.out) hb); have n2_ := Aside0.mk (below_step (by repeat (first | (with_reducible first | exact HB.out | apply below_alloc | apply pw_below_drewN | apply below_drew1 | refine below_set ?_ GE140.out) | exact HB.out)) hb); clear BK140; clear HB; have HO145 := n0_; have BK140 := n1_; have HB := n2_; clear n0_ n1_ n2_; (try clear hb); (try clear hb2); (try clear hk); (try clear hi); (try clear ho0); obtain ⟨Ao14, co14, eo14⟩ := Kd.R_slice HO145.out; subst eo14) | ((with_reducible refine gate_callee (f := 40) rfl ?_); refine goesL_ (some 19) rfl rfl Try.func40 (by kernel_rfl) rfl #[.slice Ao14 t143.length co14, .int .i64 a1, .int .i64 2] rfl (by (try simp only [List.map_toArray, List.map_cons, List.map_nil]); first | done | rfl | (simp only [List.length_drop, List.length_take]; rfl)) ?_; (with_reducible refine (octets_Put.calls _ _ t143 a1 2 t146 _ ?side1 ?side2 A11.out).mono ?_); (case side1 => repeat (first | exact (Kd.R_reads' HO145.out).2.2 | (with_reducible refine Kd.C_alloc ?_ _) | (with_reducible refine Kd.C_drewN ?_ _) | (with_reducible refine Kd.C_drew ?_))); (case side2 => exact (Kd.R_reads' HO145.out).2.1); rintro e w15 ⟨v147, rfl, ho0, hb⟩; refine ⟨_, rfl, ?_⟩; have n0_ := Aside0.mk (Kd.R_elder' (by (with_reducible repeat (first | apply Kd.R_alloc | apply Kd.R_drewN | apply Kd.R_drew)); exact HO145.out) (Kd.R_base ho0) hb); have n1_ := Aside0.mk (Kd.R_lower (Kd.R_new' ho0 (Kd.R_lt (by (with_reducible repeat (first | apply Kd.R_alloc | apply Kd.R_drewN | apply Kd.R_drew)); exact HO145.out))) (below_size (by repeat (first | (with_reducible first | exact HB.out | apply below_alloc | apply pw_below_drewN | apply below_drew1 | refine below_set ?_ GE140.out) | exact HB.out)))); have n2_ := Aside0.mk (blk_below (g := gb140) (o := .cells #[.int .i64 0, .string (⟨#[]⟩ : ByteArray)] 26 (0, 0)) (by (with_reducible repeat (first | refine blk_drewN ?_ _ | refine blk_drew ?_ | refine blk_alloc ?_ _)); exact BK140.out) hb); have n3_ := Aside0.mk (below_step (by repeat (first | (with_reducible first | exact HB.out | apply below_alloc | apply pw_below_drewN | apply below_drew1 | refine below_set ?_ GE140.out) | exact HB.out)) hb); clear HO145; clear BK140; clear HB; have HO145 := n0_; have HO148 := n1_; have BK140 := n2_; have HB := n3_; clear n0_ n1_ n2_ n3_; (try clear hb); (try clear hb2); (try clear hk); (try clear hi); (try clear ho0); obtain ⟨Ao16, co16, eo16⟩ := Kd.R_slice HO148.out; subst eo16) | ((with_reducible refine gate_callee (f := 40) rfl ?_); refine goesL_ (some 20) rfl rfl Try.func40 (by kernel_rfl) rfl #[.slice Ao16 t146.length co16, .int .i64 0, .int .i64 4] rfl (by (try simp only [List.map_toArray, List.map_cons, List.map_nil]); first | done | rfl | (simp only [List.length_drop, List.length_take]; rfl)) ?_; (with_reducible refine (octets_Put.calls _ _ t146 0 4 t149 _ ?side1 ?side2 A12.out).mono ?_); (case side1 => repeat (first | exact (Kd.R_reads' HO148.out).2.2 | (with_reducible refine Kd.C_alloc ?_ _) | (with_reducible refine Kd.C_drewN ?_ _) | (with_reducible refine Kd.C_drew ?_))); (case side2 => exact (Kd.R_reads' HO148.out).2.1); rintro e w17 ⟨v150, rfl, ho0, hb⟩; refine ⟨_, rfl, ?_⟩; have n0_ := Aside0.mk (Kd.R_elder' (by (with_reducible repeat (first | apply Kd.R_alloc | apply Kd.R_drewN | apply Kd.R_drew)); exact HO145.out) (Kd.R_base ho0) hb); have n1_ := Aside0.mk (Kd.R_elder' (by (with_reducible repeat (first | apply Kd.R_alloc | apply Kd.R_drewN | apply Kd.R_drew)); exact HO148.out) (Kd.R_base ho0) hb); have n2_ := Aside0.mk (Kd.R_lower (Kd.R_new' (Kd.R_new' ho0 (Kd.R_lt (by (with_reducible repeat (first | apply Kd.R_alloc | apply Kd.R_drewN | apply Kd.R_drew)); exact HO145.out))) (Kd.R_lt (by (with_reducible repeat (first | apply Kd.R_alloc | apply Kd.R_drewN | apply Kd.R_drew)); exact HO148.out))) (below_size (by repeat (first | (with_reducible first | exact HB.out | apply below_alloc | apply pw_below_drewN | apply below_drew1 | refine below_set ?_ GE140.out) | exact HB.out)))); have n3_ := Aside0.mk (blk_below (g := gb140) (o := .cells #[.int .i64 0, .string (⟨#[]⟩ : ByteArray)] 26 (0, 0)) (by (with_reducible repeat (first | refine blk_drewN ?_ _ | refine blk_drew ?_ | refine blk_alloc ?_ _)); exact BK140.out) hb); have n4_ := Aside0.mk (below_step (by repeat (first | (with_reducible first | exact HB.out | apply below_alloc | apply pw_below_drewN | apply below_drew1 | refine below_set ?_ GE140.out) | exact HB.out)) hb); clear HO145; clear HO148; clear BK140; clear HB; have HO145 := n0_; have HO148 := n1_; have HO151 := n2_; have BK140 := n3_; have HB := n4_; clear n0_ n1_ n2_ n3_ n4_; (try clear hb); (try clear hb2); (try clear hk); (try clear hi); (try clear ho0); have hcv18 := own_string (P := Try.prog) Try.underlying31 Try.underlying5 Try.underlying9 (Kd.own_of_R HO151.out); have hcz19_0 : w17.cell? ⟨gb140, 0, none⟩ = some (.int .i64 0) := (blk_cell BK140.out 0).trans rfl; have hcz19_1 : w17.cell? ⟨gb140, 1, none⟩ = some (.string (⟨#[]⟩ : ByteArray)) := (blk_cell BK140.out 1).trans rfl; have hfz19_0 := blk_frozen BK140.out 0; have hfz19_1 := blk_frozen BK140.out 1))
        refine bodyPost_ret (results_ct rfl _ _ gb140 26 #[.int .i64 2, .string (strOfNums t149)] (0, 0) _ rfl (by (with_reducible repeat (first | refine blk_drewN ?_ _ | refine blk_drew ?_ | refine blk_alloc ?_ _)); refine blk_put (cs := #[.int .i64 2, .string (⟨#[]⟩ : ByteArray)]) ?_ 1 _ rfl; (with_reducible repeat (first | refine blk_drewN ?_ _ | refine blk_drew ?_ | refine blk_alloc ?_ _)); refine blk_put (cs := #[.int .i64 0, .string (⟨#[]⟩ : ByteArray)]) ?_ 0 _ rfl; (with_reducible repeat (first | refine blk_drewN ?_ _ | refine blk_drew ?_ | refine blk_alloc ?_ _)); exact BK140.out) Try.underlying26 rfl (by kernel_rfl)) rfl ?_
        exact ⟨by first | rfl | (simp [errW_none, errW_some] <;> rfl) | (simp [*, errW_none, errW_some] <;> rfl), by repeat (first | (with_reducible first | exact HB.out | apply below_alloc | apply pw_below_drewN | apply below_drew1 | refine below_set ?_ GE140.out) | exact HB.out)⟩
/-! ### octets_Signed: function 52 -/
def octets_Signed.f (k : Nat) (l0 : List Int) (a1 : Int) (a2 : Int) : Option (Int × Bool) := if a2 < 1 then (some (0, false)) else (if a2 > 8 then (some (0, false)) else ((octets_none.f l0 a1 a2).bind fun t152 => (if t152 = true then (some (0, false)) else (if 0 ≤ a1 then (if a1 ≤ (wrap64 (a1 + a2)) then (if (wrap64 (a1 + a2)) ≤ (l0.length : Int) then ((octets_read.f k ((l0.take ((wrap64 (a1 + a2)) : Int).toNat).drop (a1 : Int).toNat)).bind fun t154 => (if 0 ≤ (wrap64 (64 - (wrap64 (8 * a2)))) then (some (shr .i64 (wrap64 (shl .u64 t154 (wrap64 (64 - (wrap64 (8 * a2)))))) (wrap64 (64 - (wrap64 (8 * a2)))), true)) else (none))) else (none)) else (none)) else (none)))))
set_option maxHeartbeats 8000000 in
set_option maxRecDepth 100000 in
theorem octets_Signed.calls (k : Nat) (A0 : Option Addr) (c0 : Nat) (l0 : List Int) (a1 : Int) (a2 : Int) (r1 : Int) (r2 : Bool) (w : World) (hr0 : Kd.C (Kd.int .u8) w A0 l0.length l0) (hc0 : l0.length ≤ c0) (h : octets_Signed.f k l0 a1 a2 = some (r1, r2)) :
    Calls Try.prog 52 #[.slice A0 l0.length c0, .int .i64 a1, .int .i64 a2] w fun e w' => e = .returned (.tuple #[.int .i64 r1, .bool r2]) ∧ Drawn0 w w' := by
  have HR0 := Aside0.mk hr0
  have HC0 := Aside0.mk hc0
  clear hr0 hc0
  have H : (if a2 < 1 then (some (0, false)) else (if a2 > 8 then (some (0, false)) else ((octets_none.f l0 a1 a2).bind fun t152 => (if t152 = true then (some (0, false)) else (if 0 ≤ a1 then (if a1 ≤ (wrap64 (a1 + a2)) then (if (wrap64 (a1 + a2)) ≤ (l0.length : Int) then ((octets_read.f k ((l0.take ((wrap64 (a1 + a2)) : Int).toNat).drop (a1 : Int).toNat)).bind fun t154 => (if 0 ≤ (wrap64 (64 - (wrap64 (8 * a2)))) then (some (shr .i64 (wrap64 (shl .u64 t154 (wrap64 (64 - (wrap64 (8 * a2)))))) (wrap64 (64 - (wrap64 (8 * a2)))), true)) else (none))) else (none)) else (none)) else (none)))))) = some (r1, r2) := h
  clear h
  by_cases c4 : a2 < 1
  · rw [if_pos c4] at H
    have c4b0 : decide (a2 < 1) = true := decide_eq_true c4
    clear c4
    simp only [Option.some.injEq, Prod.mk.injEq] at H
    obtain ⟨rfl, rfl⟩ := H
    go_enter Try.func52, Try.ntmps52
    go_wp2
    go_ret2
    exact ⟨by first | rfl | (simp; done) | (simp [*]; done), by repeat (first | exact Drawn0.refl _ | apply Drawn0.step)⟩
  · rw [if_neg c4] at H
    have c4b0 : decide (a2 < 1) = false := decide_eq_false c4
    clear c4
    by_cases c5 : a2 > 8
    · rw [if_pos c5] at H
      have c5b0 : decide (8 < a2) = true := decide_eq_true c5
      clear c5
      simp only [Option.some.injEq, Prod.mk.injEq] at H
      obtain ⟨rfl, rfl⟩ := H
      go_enter Try.func52, Try.ntmps52
      go_wp2
      go_ret2
      exact ⟨by first | rfl | (simp; done) | (simp [*]; done), by repeat (first | exact Drawn0.refl _ | apply Drawn0.step)⟩
    · rw [if_neg c5] at H
      have c5b0 : decide (8 < a2) = false := decide_eq_false c5
      clear c5
      replace H := Option.bind_eq_some_iff.mp H
      obtain ⟨t152, A60, H⟩ := H
      replace H : (if t152 = true then (some (0, false)) else (if 0 ≤ a1 then (if a1 ≤ (wrap64 (a1 + a2)) then (if (wrap64 (a1 + a2)) ≤ (l0.length : Int) then ((octets_read.f k ((l0.take ((wrap64 (a1 + a2)) : Int).toNat).drop (a1 : Int).toNat)).bind fun t154 => (if 0 ≤ (wrap64 (64 - (wrap64 (8 * a2)))) then (some (shr .i64 (wrap64 (shl .u64 t154 (wrap64 (64 - (wrap64 (8 * a2)))))) (wrap64 (64 - (wrap64 (8 * a2)))), true)) else (none))) else (none)) else (none)) else (none))) = some (r1, r2) := H
      have A6 := Aside0.mk A60
      clear A60
      by_cases c7 : t152 = true
      · subst c7
        have H1 : (some (0, false)) = some (r1, r2) := by rw [if_pos rfl] at H; exact H
        clear H
        have H := H1
        clear H1
        simp only [Option.some.injEq, Prod.mk.injEq] at H
        obtain ⟨rfl, rfl⟩ := H
        go_enter Try.func52, Try.ntmps52
        go_wp2_with (first | (go_at_call 49; (with_reducible refine (octets_none.calls _ _ l0 a1 a2 true _ ?side1 ?side2 A6.out).mono ?_); (case side1 => repeat (first | exact HR0.out | (with_reducible refine Kd.C_alloc ?_ _) | (with_reducible refine Kd.C_drewN ?_ _) | (with_reducible refine Kd.C_drew ?_))); (case side2 => exact HC0.out); rintro e w' ⟨rfl, ⟨nd, rfl⟩⟩))
        go_ret2
        exact ⟨by first | rfl | (simp; done) | (simp [*]; done), by repeat (first | exact Drawn0.refl _ | apply Drawn0.step)⟩
      · replace c7 := Bool.eq_false_iff.mpr c7
        subst c7
        have H1 : (if 0 ≤ a1 then (if a1 ≤ (wrap64 (a1 + a2)) then (if (wrap64 (a1 + a2)) ≤ (l0.length : Int) then ((octets_read.f k ((l0.take ((wrap64 (a1 + a2)) : Int).toNat).drop (a1 : Int).toNat)).bind fun t154 => (if 0 ≤ (wrap64 (64 - (wrap64 (8 * a2)))) then (some (shr .i64 (wrap64 (shl .u64 t154 (wrap64 (64 - (wrap64 (8 * a2)))))) (wrap64 (64 - (wrap64 (8 * a2)))), true)) else (none))) else (none)) else (none)) else (none)) = some (r1, r2) := by rw [if_neg (show ¬ (false = true) by decide)] at H; exact H
        clear H
        have H := H1
        clear H1
        by_cases c8 : 0 ≤ a1
        · rw [if_pos c8] at H
          have c8b0 := eq_true c8
          have c8b1 : decide (0 ≤ a1) = true := decide_eq_true c8
          clear c8
          by_cases c9 : a1 ≤ (wrap64 (a1 + a2))
          · rw [if_pos c9] at H
            have c9b0 := eq_true c9
            have c9b1 : decide (a1 ≤ (wrap64 (a1 + a2))) = true := decide_eq_true c9
            by_cases c10 : (wrap64 (a1 + a2)) ≤ (l0.length : Int)
            · rw [if_pos c10] at H
              have c10b0 := eq_true c10
              have c10b1 : decide ((wrap64 (a1 + a2)) ≤ (l0.length : Int)) = true := decide_eq_true c10
              replace H := Option.bind_eq_some_iff.mp H
              obtain ⟨t154, A110, H⟩ := H
              replace H : (if 0 ≤ (wrap64 (64 - (wrap64 (8 * a2)))) then (some (shr .i64 (wrap64 (shl .u64 t154 (wrap64 (64 - (wrap64 (8 * a2)))))) (wrap64 (64 - (wrap64 (8 * a2)))), true)) else (none)) = some (r1, r2) := H
              have A11 := Aside0.mk A110
              clear A110
              obtain ⟨ji12, hji12⟩ : ∃ j_ : Int, (wrap64 (64 - (wrap64 (8 * a2)))) = j_ := ⟨_, rfl⟩
              replace H : (if 0 ≤ (ji12) then (some (shr .i64 (wrap64 (shl .u64 t154 (ji12))) (ji12), true)) else (none)) = some (r1, r2) := by first | (rw [hji12] at H; exact H) | (simp only [hji12] at H ⊢; exact H)
              (try rw [hji12] at A6)
              (try rw [hji12] at A11)
              have hji12w : (IntKind.i64.wrap (64 - (wrap64 (8 * a2)))) = ji12 := (i64_w _).trans hji12
              by_cases c13 : 0 ≤ (ji12)
              · rw [if_pos c13] at H
                have c13b0 := eq_true c13
                have c13b1 : decide (0 ≤ (ji12)) = true := decide_eq_true c13
                clear c13
                obtain ⟨ji14, hji14⟩ : ∃ j_ : Int, (shl .u64 t154 (ji12)) = j_ := ⟨_, rfl⟩
                replace H : (some (shr .i64 (wrap64 (ji14)) (ji12), true)) = some (r1, r2) := by first | (rw [hji14] at H; exact H) | (simp only [hji14] at H ⊢; exact H)
                (try rw [hji14] at A6)
                (try rw [hji14] at A11)
                have hji14_ : (IntKind.u64.wrap (t154 * 2 ^ min (ji12).toNat 64)) = ji14 := hji14
                have hji14z : (ji12) ≤ 64 → (IntKind.u64.wrap (t154 * 2 ^ (ji12).toNat)) = ji14 := shl_small hji14
                have c15b0 := eq_true (of_decide_eq_true (by first | (with_reducible assumption) | assumption) : 0 ≤ (ji12))
                obtain ⟨ji16, hji16⟩ : ∃ j_ : Int, (shr .i64 (wrap64 (ji14)) (ji12)) = j_ := ⟨_, rfl⟩
                replace H : (some (ji16, true)) = some (r1, r2) := by first | (rw [hji16] at H; exact H) | (simp only [hji16] at H ⊢; exact H)
                (try rw [hji16] at A6)
                (try rw [hji16] at A11)
                have hji16_ : ((wrap64 (ji14)) / 2 ^ min (ji12).toNat 64) = ji16 := hji16
                have hji16z : (ji12) ≤ 64 → ((wrap64 (ji14)) / 2 ^ (ji12).toNat) = ji16 := shr_small hji16
                simp only [Option.some.injEq, Prod.mk.injEq] at H
                obtain ⟨rfl, rfl⟩ := H
                go_enter Try.func52, Try.ntmps52
                go_wp2_with (first | (go_at_call 49; (with_reducible refine (octets_none.calls _ _ l0 a1 a2 false _ ?side1 ?side2 A6.out).mono ?_); (case side1 => repeat (first | exact HR0.out | (with_reducible refine Kd.C_alloc ?_ _) | (with_reducible refine Kd.C_drewN ?_ _) | (with_reducible refine Kd.C_drew ?_))); (case side2 => exact HC0.out); rintro e w' ⟨rfl, ⟨nd, rfl⟩⟩; obtain ⟨i017, hi017, _, hsz17, _⟩ := info_parts info5; obtain ⟨A17, hcut17, hA17, hC17⟩ := print_mid_of (P := Try.prog) (Value.int .u8) 0 31 5 .i64 .i64 Try.underlying31 hi017 hsz17 A0 c0 l0 a1 (wrap64 (a1 + a2)) (of_decide_eq_true (by first | (with_reducible assumption) | assumption)) (by first | omega | exact of_decide_eq_true (by first | (with_reducible assumption) | assumption)) (of_decide_eq_true (by first | (with_reducible assumption) | assumption)) HC0.out; have HR153 := Aside0.mk (Kd.C_of_reads (h1 := fun _ => rfl) (hA17 _ (Kd.reads_of_C HR0.out))); have HC153 := Aside0.mk hC17; clear hA17 hC17 hi017 hsz17) | ((with_reducible refine gate_callee (f := 50) rfl ?_); refine goesL_ (some 30) rfl rfl Try.func50 (by kernel_rfl) rfl #[.slice A17 ((l0.take ((wrap64 (a1 + a2)) : Int).toNat).drop (a1 : Int).toNat).length (c0 - a1.toNat)] rfl (by (try simp only [List.map_toArray, List.map_cons, List.map_nil]); first | done | (rw [show ((l0.take ((wrap64 (a1 + a2)) : Int).toNat).drop (a1 : Int).toNat).length = ((wrap64 (a1 + a2)).toNat - a1.toNat) from (by rw [List.length_drop, List.length_take]; have h_ : ((wrap64 (a1 + a2)) : Int) ≤ (l0.length : Int) := of_decide_eq_true (by first | (with_reducible assumption) | assumption); omega)] <;> rfl) | rfl | (simp only [List.length_drop, List.length_take]; rfl)) ?_; (with_reducible refine (octets_read.calls k _ _ ((l0.take ((wrap64 (a1 + a2)) : Int).toNat).drop (a1 : Int).toNat) t154 _ ?side1 ?side2 A11.out).mono ?_); (case side1 => repeat (first | exact HR153.out | (with_reducible refine Kd.C_alloc ?_ _) | (with_reducible refine Kd.C_drewN ?_ _) | (with_reducible refine Kd.C_drew ?_))); (case side2 => exact HC153.out); rintro e w' ⟨rfl, ⟨nd, rfl⟩⟩; refine ⟨_, rfl, ?_⟩))
                go_ret2
                exact ⟨by first | rfl | (simp; done) | (simp only [← hji12, ← hji14, ← hji16] <;> (first | rfl | simp)) | (simp [*]; done), by repeat (first | exact Drawn0.refl _ | apply Drawn0.step)⟩
              · rw [if_neg c13] at H
                exact absurd H (by simp)
            · rw [if_neg c10] at H
              exact absurd H (by simp)
          · rw [if_neg c9] at H
            exact absurd H (by simp)
        · rw [if_neg c8] at H
          exact absurd H (by simp)
/-! ### octets_GetId: function 47 -/
def octets_GetId.f (k : Nat) (l0 : List Int) (a1 : Int) : Option (Int × Bool) := (octets_Signed.f k l0 a1 8).bind fun bt155 => (some (IntKind.u64.wrap (bt155.1), bt155.2))
set_option maxHeartbeats 8000000 in
set_option maxRecDepth 100000 in
theorem octets_GetId.calls (k : Nat) (A0 : Option Addr) (c0 : Nat) (l0 : List Int) (a1 : Int) (r1 : Int) (r2 : Bool) (w : World) (hr0 : Kd.C (Kd.int .u8) w A0 l0.length l0) (hc0 : l0.length ≤ c0) (h : octets_GetId.f k l0 a1 = some (r1, r2)) :
    Calls Try.prog 47 #[.slice A0 l0.length c0, .int .i64 a1] w fun e w' => e = .returned (.tuple #[.int .u64 r1, .bool r2]) ∧ Drawn0 w w' := by
  have HR0 := Aside0.mk hr0
  have HC0 := Aside0.mk hc0
  clear hr0 hc0
  have H : ((octets_Signed.f k l0 a1 8).bind fun bt155 => (some (IntKind.u64.wrap (bt155.1), bt155.2))) = some (r1, r2) := h
  clear h
  replace H := Option.bind_eq_some_iff.mp H
  obtain ⟨⟨t155, t156⟩, A30, H⟩ := H
  replace H : (some (IntKind.u64.wrap (t155), t156)) = some (r1, r2) := H
  have A3 := Aside0.mk A30
  clear A30
  simp only [Option.some.injEq, Prod.mk.injEq] at H
  obtain ⟨rfl, rfl⟩ := H
  go_enter Try.func47, Try.ntmps47
  go_wp2_with (first | ((with_reducible refine gate_callee (f := 52) rfl ?_); refine goesL_ (some 11) rfl rfl Try.func52 (by kernel_rfl) rfl #[.slice A0 l0.length c0, .int .i64 a1, .int .i64 8] rfl (by (try simp only [List.map_toArray, List.map_cons, List.map_nil]); first | done | rfl | (simp only [List.length_drop, List.length_take]; rfl)) ?_; (with_reducible refine (octets_Signed.calls k _ _ l0 a1 8 t155 t156 _ ?side1 ?side2 A3.out).mono ?_); (case side1 => repeat (first | exact HR0.out | (with_reducible refine Kd.C_alloc ?_ _) | (with_reducible refine Kd.C_drewN ?_ _) | (with_reducible refine Kd.C_drew ?_))); (case side2 => exact HC0.out); rintro e w' ⟨rfl, ⟨nd, rfl⟩⟩; refine ⟨_, rfl, ?_⟩))
  go_ret2
  exact ⟨by first | rfl | (simp; done) | (simp [*]; done), by repeat (first | exact Drawn0.refl _ | apply Drawn0.step)⟩
end Go.Proofs.Ytgmiokocipmbaaa.P
