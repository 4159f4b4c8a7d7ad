/- Functions and loops of the given program as Lean functions, and that the code comes to what they say: written by this session's own program; Lean checks it. -/
import Derived.Test.YtcflafkafbpibaaPx0
import Derived.Test.YtcflafkafbpibaaPx10
import Derived.Test.YtcflafkafbpibaaPx11
namespace Go.Proofs.Ytcflafkafbpibaa.P
open Go.RowKit Go.Proofs.YtcflafkafbpibaaW.PrintWords Go.Proofs.YtcflafkafbpibaaW.PrintLast Go.Proofs.YtcflafkafbpibaaW.PrintMore
attribute [local go_sem] max2_int min2_int max_two min_two max_three min_three max_four min_four   -- for this text's walks alone
set_option linter.unusedVariables false
set_option linter.unusedSimpArgs false

/-! ### carillonref06_Get: function 19: by our own printer -/
def carillonref06_Get.f (k : Nat) (l0 : List Int) : Option (Int × Int × Int × Int × Int × Int × Int × Int × Int × Int × Int × Int × Int × Int × Int × Int × Int × Int × Int × Int × Int × Int × Int × Int × Int) := if (l0.length : Int) < 34 then (some (0, 0, 0, 0, 0, 0, 0, 0, 0, 0, 0, 0, 0, 0, 0, 0, 0, 0, 0, 0, 0, 0, 0, 0, 2)) else ((carillonref01_Get.f k l0 2 2).bind fun t10 => (if 0 < (l0.length : Int) then ((carillonref06_Known.f (wrap64 (rd l0 0))).bind fun t15 => (if t15 = true then (if 1 < (l0.length : Int) then (if (Int.tmod (rd l0 1) 16) = 2 then (if t10.1 < 34 then (some (0, 0, 0, 0, 0, 0, 0, 0, 0, 0, 0, 0, 0, 0, 0, 0, 0, 0, 0, 0, 0, 0, 0, 0, 4)) else (if t10.1 > 400 then (some (0, 0, 0, 0, 0, 0, 0, 0, 0, 0, 0, 0, 0, 0, 0, 0, 0, 0, 0, 0, 0, 0, 0, 0, 4)) else (if (l0.length : Int) < t10.1 then (some (0, 0, 0, 0, 0, 0, 0, 0, 0, 0, 0, 0, 0, 0, 0, 0, 0, 0, 0, 0, 0, 0, 0, 0, 2)) else (if (l0.length : Int) > t10.1 then (some (0, 0, 0, 0, 0, 0, 0, 0, 0, 0, 0, 0, 0, 0, 0, 0, 0, 0, 0, 0, 0, 0, 0, 0, 3)) else (if 4 < (l0.length : Int) then ((carillonref01_Get.f k l0 6 2).bind fun t32 => ((carillonref01_Signed.f k l0 8 8).bind fun t37 => ((carillonref04_Get.f k l0 20).bind fun t42 => ((carillonref01_Get.f k l0 30 2).bind fun t47 => ((carillonref01_Signed.f k l0 33 1).bind fun t52 => (some (wrap64 (rd l0 0), wrap64 (rd l0 4), t32.1, t37.1, t42.1, t42.2.1, t47.1, t52.1, 0, 0, 0, 0, 0, 0, 0, 0, 0, 0, 0, 0, 0, 0, 0, t10.1, 0))))))) else (none)))))) else (some (0, 0, 0, 0, 0, 0, 0, 0, 0, 0, 0, 0, 0, 0, 0, 0, 0, 0, 0, 0, 0, 0, 0, 0, 4))) else (none)) else (some (0, 0, 0, 0, 0, 0, 0, 0, 0, 0, 0, 0, 0, 0, 0, 0, 0, 0, 0, 0, 0, 0, 0, 0, 4)))) else (none)))
open Go.Proofs.Ytcflafkafbpibaa.E in
set_option maxHeartbeats 8000000 in
set_option maxRecDepth 100000 in
theorem carillonref06_Get.calls (k : Nat) (A0 : Option Addr) (c0 : Nat) (l0 : List Int) (r1 : Int) (r2 : Int) (r3 : Int) (r4 : Int) (r5 : Int) (r6 : Int) (r7 : Int) (r8 : Int) (r9 : Int) (r10 : Int) (r11 : Int) (r12 : Int) (r13 : Int) (r14 : Int) (r15 : Int) (r16 : Int) (r17 : Int) (r18 : Int) (r19 : Int) (r20 : Int) (r21 : Int) (r22 : Int) (r23 : Int) (r24 : Int) (r25 : Int) (w : World) (HR0 : Kd.C (Kd.int .u8) w A0 l0.length l0) (HC0 : l0.length ≤ c0) (h : carillonref06_Get.f k l0 = some (r1, r2, r3, r4, r5, r6, r7, r8, r9, r10, r11, r12, r13, r14, r15, r16, r17, r18, r19, r20, r21, r22, r23, r24, r25)) :
    Calls Try.prog 19 #[.slice A0 l0.length c0] w fun e w' => e = .returned (.tuple #[.agg #[.int .i64 r1, .int .i64 r2, .int .i64 r3, .int .i64 r4, .int .u64 r5, .int .i64 r6, .int .i64 r7, .int .i64 r8, .int .i64 r9, .int .u64 r10, .int .i64 r11, .int .i64 r12, .int .i64 r13, .int .i64 r14, .int .i64 r15, .int .i64 r16, .int .i64 r17, .int .u64 r18, .int .i64 r19, .int .i64 r20, .int .i64 r21, .int .i64 r22, .int .i64 r23], .int .i64 r24, .int .i64 r25]) ∧ Below w.heap.size w w' := by
  have H := h
  clear h
  unfold carillonref06_Get.f at H
  by_cases c1 : (l0.length : Int) < 34
  · rw [if_pos c1] at H
    simp only [Option.some.injEq, Prod.mk.injEq] at H
    obtain ⟨rfl, rfl, rfl, rfl, rfl, rfl, rfl, rfl, rfl, rfl, rfl, rfl, rfl, rfl, rfl, rfl, rfl, rfl, rfl, rfl, rfl, rfl, rfl, rfl, rfl⟩ := H
    refine calls_of_wp (fn := Try.f19) (by kernel_rfl) rfl ?_
    have hS := St.enter #[.slice A0 l0.length c0] 90 (by simp) [(0, .slice A0 l0.length c0)] (by simp)
    have HB0 := Below.refl w.heap.size w
    refine wp_seq_k (fun K1 hK1 => ?_)
    refine reg_seq (N := 90) (bs := [(0, .slice A0 l0.length c0)]) (I := fun x => Below w.heap.size w x) (ps := [IsB #[.int .i64 0, .int .i64 0, .int .i64 0, .int .i64 0, .int .u64 0, .int .i64 0, .int .i64 0, .int .i64 0, .int .i64 0, .int .u64 0, .int .i64 0, .int .i64 0, .int .i64 0, .int .i64 0, .int .i64 0, .int .i64 0, .int .i64 0, .int .u64 0, .int .i64 0, .int .i64 0, .int .i64 0, .int .i64 0, .int .i64 0] 28 w.heap.size, IsV (.int .i64 0), IsV (.int .i64 0)]) (by kernel_rfl) ?_ ?_ rfl hS HB0 ?_ ?_
    · exact fun x y hI hb => below_step hI hb
    · exact AllStay.cons (Stays.b _ _ _) (AllStay.cons (Stays.v _) (AllStay.cons (Stays.v _) (AllStay.nil)))
    · refine Steps.cons (fun a w hS hI hp => ok_on rfl (does_var (x_alloc rfl (by kernel_rfl)) (hI).size)) ?_
      refine Steps.cons (fun a w hS hI hp => ok_on rfl (does_val (x_assign rfl (rfl)) rfl)) ?_
      refine Steps.cons (fun a w hS hI hp => ok_on rfl (does_val (x_assign rfl (rfl)) rfl)) ?_
      exact Steps.nil
    clear hS
    intro at2 w3 hS hI hp
    have hBw3_w := hI
    obtain ⟨g4, hv2, hgeg4, hbxg4⟩ := (show IsB _ 28 _ (sl _ 2) _ from hp 0 (by decide))
    have hv3 : sl _ 3 = .int .i64 0 := hp 1 (by decide)
    have hv4 : sl _ 4 = .int .i64 0 := hp 2 (by decide)
    have hBw3_w3 := Below.refl w3.heap.size w3
    have hS := hS.cons hv2
    have hS := hS.cons hv3
    have hS := hS.cons hv4
    clear hp hI hv2 hv3 hv4
    refine hK1 _ _ ?_
    clear hK1 K1
    refine wp_seq_k (fun K5 hK5 => ?_)
    refine wp_seq_k (fun K6 hK6 => ?_)
    refine reg_seq (N := 90) (bs := [(4, .int .i64 0), (3, .int .i64 0), (2, .pointer (some ⟨g4, 0, none⟩)), (0, .slice A0 l0.length c0)]) (I := fun x => Below w.heap.size w x ∧ Below w3.heap.size w3 x) (ps := [IsV (.slice A0 l0.length c0), IsV (.int .i64 (l0.length : Int)), IsV (.bool (decide ((l0.length : Int) < 34)))]) (by kernel_rfl) ?_ ?_ rfl hS ⟨hBw3_w, hBw3_w3⟩ ?_ ?_
    · exact fun x y hI hb => ⟨below_step hI.1 hb, below_step hI.2 hb⟩
    · exact AllStay.cons (Stays.v _) (AllStay.cons (Stays.v _) (AllStay.cons (Stays.v _) (AllStay.nil)))
    · refine Steps.cons (fun a w hS hI hp => ok_on rfl (does_val (x_move rfl (hS.get 3 rfl)) rfl)) ?_
      refine Steps.cons (fun a w hS hI hp => ok_on rfl (does_val (x_len (e := 5) rfl (by kernel_rfl) ((hp.get 0 (by rfl) rfl rfl))) rfl)) ?_
      refine Steps.cons (fun a w hS hI hp => ok_on rfl (does_val (x_bin rfl ((hp.get 1 (by rfl) rfl rfl)) (rfl) (b_lss _ _ _ _ _ _)) rfl)) ?_
      exact Steps.nil
    clear hS
    intro at7 w8 hS hI hp
    have hBw8_w := hI.1
    have hBw8_w3 := hI.2
    have hv10 : sl _ 10 = .bool (decide ((l0.length : Int) < 34)) := hp 2 (by decide)
    have hBw8_w8 := Below.refl w8.heap.size w8
    have hS := hS.cons hv10
    clear hp hI hv10
    refine hK6 _ _ ?_
    clear hK6 K6
    refine wp_cond_true ((hS.get 0 rfl).trans (bT (decide_eq_true c1))) ?_
    refine wp_seq_k (fun K9 hK9 => ?_)
    refine reg_seq_tail 1 (N := 90) (bs := [(10, .bool (decide ((l0.length : Int) < 34))), (4, .int .i64 0), (3, .int .i64 0), (2, .pointer (some ⟨g4, 0, none⟩)), (0, .slice A0 l0.length c0)]) (I := fun x => Below w.heap.size w x ∧ Below w3.heap.size w3 x ∧ Below w8.heap.size w8 x) (ps := [IsV (.agg #[.int .i64 0, .int .i64 0, .int .i64 0, .int .i64 0, .int .u64 0, .int .i64 0, .int .i64 0, .int .i64 0, .int .i64 0, .int .u64 0, .int .i64 0, .int .i64 0, .int .i64 0, .int .i64 0, .int .i64 0, .int .i64 0, .int .i64 0, .int .u64 0, .int .i64 0, .int .i64 0, .int .i64 0, .int .i64 0, .int .i64 0])]) (by kernel_rfl) ?_ ?_ rfl hS ⟨hBw8_w, hBw8_w3, hBw8_w8⟩ ?_ ?_
    · exact fun x y hI hb => ⟨below_step hI.1 hb, below_step hI.2.1 hb, below_step hI.2.2 hb⟩
    · exact AllStay.cons (Stays.v _) (AllStay.nil)
    · refine Steps.cons (fun a w hS hI hp => ok_on rfl (does_val (x_build (vs := []) rfl (by rw [Array.toList_map]; exact (show [] = _ from rfl)) (by kernel_rfl)) rfl)) ?_
      exact Steps.nil
    clear hS
    intro at10 w11 hS hI hp
    have hBw11_w := hI.1
    have hBw11_w3 := hI.2.1
    have hBw11_w8 := hI.2.2
    have hv11 : sl _ 11 = .agg #[.int .i64 0, .int .i64 0, .int .i64 0, .int .i64 0, .int .u64 0, .int .i64 0, .int .i64 0, .int .i64 0, .int .i64 0, .int .u64 0, .int .i64 0, .int .i64 0, .int .i64 0, .int .i64 0, .int .i64 0, .int .i64 0, .int .i64 0, .int .u64 0, .int .i64 0, .int .i64 0, .int .i64 0, .int .i64 0, .int .i64 0] := hp 0 (by decide)
    have hBw11_w11 := Below.refl w11.heap.size w11
    have hS := hS.cons hv11
    clear hp hI hv11
    show wpList _ _ _ [_, _, _] _ _
    refine list_step rfl (does_storeAll (g := g4) (cs := #[.int .i64 0, .int .i64 0, .int .i64 0, .int .i64 0, .int .u64 0, .int .i64 0, .int .i64 0, .int .i64 0, .int .i64 0, .int .u64 0, .int .i64 0, .int .i64 0, .int .i64 0, .int .i64 0, .int .i64 0, .int .i64 0, .int .i64 0, .int .u64 0, .int .i64 0, .int .i64 0, .int .i64 0, .int .i64 0, .int .i64 0]) rfl (hS.get 4 rfl) (hS.get 0 rfl) ((hBw11_w3.block g4 (blk_lt hbxg4)).trans hbxg4) (by kernel_rfl) (by kernel_rfl) (by kernel_rfl)) ?_
    rintro vw12 w12 ⟨rfl, hbxw12, hT⟩
    have hBw12_w := hT.below hBw11_w hgeg4 (hBw11_w).size
    have hBw12_w12 := Below.refl w12.heap.size w12
    clear hT
    refine list_step rfl (R := fun v w' => Below _ _ w' ∧ (IsV (.int .i64 0)) v w') (does_val (x_assign rfl (rfl)) rfl) ?_
    rintro vw13 w13 ⟨hb, he⟩
    have hBw13_w := below_step hBw12_w hb
    have hBw13_w12 := below_step hBw12_w12 hb
    have hBw13_w13 := Below.refl w13.heap.size w13
    obtain rfl : vw13 = .int .i64 0 := he
    replace hS := (((((hS.nil).cons (hS.get 5 rfl)).cons (hS.get 4 rfl)).cons (hS.get 2 rfl)).cons (hS.get 1 rfl)).cons (hS.get 0 rfl)
    replace hS := hS.put (v := .int .i64 0) (d := 3) (by decide) (by rfl)
    refine list_step rfl (R := fun v w' => Below _ _ w' ∧ (IsV (.int .i64 2)) v w') (does_val (x_assign rfl (rfl)) rfl) ?_
    rintro vw14 w14 ⟨hb, he⟩
    have hBw14_w := below_step hBw13_w hb
    have hBw14_w12 := below_step hBw13_w12 hb
    have hBw14_w13 := below_step hBw13_w13 hb
    have hBw14_w14 := Below.refl w14.heap.size w14
    obtain rfl : vw14 = .int .i64 2 := he
    replace hS := (((((hS.nil).cons (hS.get 5 rfl)).cons (hS.get 4 rfl)).cons (hS.get 2 rfl)).cons (hS.get 1 rfl)).cons (hS.get 0 rfl)
    replace hS := hS.put (v := .int .i64 2) (d := 4) (by decide) (by rfl)
    refine wpList_nil ?_
    refine hK9 _ _ ?_
    clear hK9 K9
    refine wp_ret ?_
    (try simp only [Exit.then, Exit.inBlock])
    exact bodyPost_ret (v := .tuple #[.agg #[.int .i64 0, .int .i64 0, .int .i64 0, .int .i64 0, .int .u64 0, .int .i64 0, .int .i64 0, .int .i64 0, .int .i64 0, .int .u64 0, .int .i64 0, .int .i64 0, .int .i64 0, .int .i64 0, .int .i64 0, .int .i64 0, .int .i64 0, .int .u64 0, .int .i64 0, .int .i64 0, .int .i64 0, .int .i64 0, .int .i64 0], .int .i64 0, .int .i64 2]) (results_list (rs := [.cell 2 28, .tmp 3, .tmp 4]) rfl (by simp) (Vals.cell g4 28 #[.int .i64 0, .int .i64 0, .int .i64 0, .int .i64 0, .int .u64 0, .int .i64 0, .int .i64 0, .int .i64 0, .int .i64 0, .int .u64 0, .int .i64 0, .int .i64 0, .int .i64 0, .int .i64 0, .int .i64 0, .int .i64 0, .int .i64 0, .int .u64 0, .int .i64 0, .int .i64 0, .int .i64 0, .int .i64 0, .int .i64 0] (0, 0) _ (hS.get 4 rfl) ((hBw14_w12.block g4 (blk_lt hbxw12)).trans hbxw12) Try.underlying28 rfl (by kernel_rfl) (Vals.at (hS.get 1 rfl) (Vals.at (hS.get 0 rfl) .nil)))) hS.nodef ⟨rfl, hBw14_w⟩
  · rw [if_neg c1] at H
    obtain ⟨t10, At10, H⟩ := Option.bind_eq_some_iff.mp H
    obtain ⟨t10_1, t10_2⟩ := t10
    (try dsimp only at H)
    by_cases c2 : 0 < (l0.length : Int)
    · rw [if_pos c2] at H
      obtain ⟨t15, At15, H⟩ := Option.bind_eq_some_iff.mp H
      by_cases c3 : t15 = true
      · rw [if_pos c3] at H
        by_cases c4 : 1 < (l0.length : Int)
        · rw [if_pos c4] at H
          by_cases c5 : (Int.tmod (rd l0 1) 16) = 2
          · rw [if_pos c5] at H
            by_cases c6 : t10_1 < 34
            · rw [if_pos c6] at H
              simp only [Option.some.injEq, Prod.mk.injEq] at H
              obtain ⟨rfl, rfl, rfl, rfl, rfl, rfl, rfl, rfl, rfl, rfl, rfl, rfl, rfl, rfl, rfl, rfl, rfl, rfl, rfl, rfl, rfl, rfl, rfl, rfl, rfl⟩ := H
              refine calls_of_wp (fn := Try.f19) (by kernel_rfl) rfl ?_
              have hS := St.enter #[.slice A0 l0.length c0] 90 (by simp) [(0, .slice A0 l0.length c0)] (by simp)
              have HB0 := Below.refl w.heap.size w
              refine wp_seq_k (fun K1 hK1 => ?_)
              refine reg_seq (N := 90) (bs := [(0, .slice A0 l0.length c0)]) (I := fun x => Below w.heap.size w x) (ps := [IsB #[.int .i64 0, .int .i64 0, .int .i64 0, .int .i64 0, .int .u64 0, .int .i64 0, .int .i64 0, .int .i64 0, .int .i64 0, .int .u64 0, .int .i64 0, .int .i64 0, .int .i64 0, .int .i64 0, .int .i64 0, .int .i64 0, .int .i64 0, .int .u64 0, .int .i64 0, .int .i64 0, .int .i64 0, .int .i64 0, .int .i64 0] 28 w.heap.size, IsV (.int .i64 0), IsV (.int .i64 0)]) (by kernel_rfl) ?_ ?_ rfl hS HB0 ?_ ?_
              · exact fun x y hI hb => below_step hI hb
              · exact AllStay.cons (Stays.b _ _ _) (AllStay.cons (Stays.v _) (AllStay.cons (Stays.v _) (AllStay.nil)))
              · refine Steps.cons (fun a w hS hI hp => ok_on rfl (does_var (x_alloc rfl (by kernel_rfl)) (hI).size)) ?_
                refine Steps.cons (fun a w hS hI hp => ok_on rfl (does_val (x_assign rfl (rfl)) rfl)) ?_
                refine Steps.cons (fun a w hS hI hp => ok_on rfl (does_val (x_assign rfl (rfl)) rfl)) ?_
                exact Steps.nil
              clear hS
              intro at2 w3 hS hI hp
              have hBw3_w := hI
              obtain ⟨g4, hv2, hgeg4, hbxg4⟩ := (show IsB _ 28 _ (sl _ 2) _ from hp 0 (by decide))
              have hv3 : sl _ 3 = .int .i64 0 := hp 1 (by decide)
              have hv4 : sl _ 4 = .int .i64 0 := hp 2 (by decide)
              have hBw3_w3 := Below.refl w3.heap.size w3
              have hS := hS.cons hv2
              have hS := hS.cons hv3
              have hS := hS.cons hv4
              clear hp hI hv2 hv3 hv4
              refine hK1 _ _ ?_
              clear hK1 K1
              refine wp_seq_k (fun K5 hK5 => ?_)
              refine wp_seq_k (fun K6 hK6 => ?_)
              refine reg_seq (N := 90) (bs := [(4, .int .i64 0), (3, .int .i64 0), (2, .pointer (some ⟨g4, 0, none⟩)), (0, .slice A0 l0.length c0)]) (I := fun x => Below w.heap.size w x ∧ Below w3.heap.size w3 x) (ps := [IsV (.slice A0 l0.length c0), IsV (.int .i64 (l0.length : Int)), IsV (.bool (decide ((l0.length : Int) < 34)))]) (by kernel_rfl) ?_ ?_ rfl hS ⟨hBw3_w, hBw3_w3⟩ ?_ ?_
              · exact fun x y hI hb => ⟨below_step hI.1 hb, below_step hI.2 hb⟩
              · exact AllStay.cons (Stays.v _) (AllStay.cons (Stays.v _) (AllStay.cons (Stays.v _) (AllStay.nil)))
              · refine Steps.cons (fun a w hS hI hp => ok_on rfl (does_val (x_move rfl (hS.get 3 rfl)) rfl)) ?_
                refine Steps.cons (fun a w hS hI hp => ok_on rfl (does_val (x_len (e := 5) rfl (by kernel_rfl) ((hp.get 0 (by rfl) rfl rfl))) rfl)) ?_
                refine Steps.cons (fun a w hS hI hp => ok_on rfl (does_val (x_bin rfl ((hp.get 1 (by rfl) rfl rfl)) (rfl) (b_lss _ _ _ _ _ _)) rfl)) ?_
                exact Steps.nil
              clear hS
              intro at7 w8 hS hI hp
              have hBw8_w := hI.1
              have hBw8_w3 := hI.2
              have hv10 : sl _ 10 = .bool (decide ((l0.length : Int) < 34)) := hp 2 (by decide)
              have hBw8_w8 := Below.refl w8.heap.size w8
              have hS := hS.cons hv10
              clear hp hI hv10
              refine hK6 _ _ ?_
              clear hK6 K6
              refine wp_cond_false ((hS.get 0 rfl).trans (bF (decide_eq_false c1))) ?_
              refine wp_skip ?_
              refine hK5 _ _ ?_
              clear hK5 K5
              refine wp_seq_k (fun K9 hK9 => ?_)
              refine reg_seq (N := 90) (bs := [(10, .bool (decide ((l0.length : Int) < 34))), (4, .int .i64 0), (3, .int .i64 0), (2, .pointer (some ⟨g4, 0, none⟩)), (0, .slice A0 l0.length c0)]) (I := fun x => Below w.heap.size w x ∧ Below w3.heap.size w3 x ∧ Below w8.heap.size w8 x) (ps := [IsV (.slice A0 l0.length c0), IsV (.tuple #[.int .i64 t10_1, .bool t10_2]), IsV (.tuple #[.int .i64 t10_1, .bool t10_2]), IsV (.int .i64 t10_1), IsV (.bool t10_2), IsV (.int .i64 t10_1), IsV (.bool t10_2)]) (by kernel_rfl) ?_ ?_ rfl hS ⟨hBw8_w, hBw8_w3, hBw8_w8⟩ ?_ ?_
              · exact fun x y hI hb => ⟨below_step hI.1 hb, below_step hI.2.1 hb, below_step hI.2.2 hb⟩
              · exact AllStay.cons (Stays.v _) (AllStay.cons (Stays.v _) (AllStay.cons (Stays.v _) (AllStay.cons (Stays.v _) (AllStay.cons (Stays.v _) (AllStay.cons (Stays.v _) (AllStay.cons (Stays.v _) (AllStay.nil)))))))
              · refine Steps.cons (fun a w hS hI hp => ok_on rfl (does_val (x_move rfl (hS.get 4 rfl)) rfl)) ?_
                refine Steps.cons (fun a w hS hI hp => ok_on rfl (does_call (by kernel_rfl) (ar3 ((hp.get 0 (by rfl) rfl rfl)) (rfl) (rfl)) ((carillonref01_Get.calls k _ _ l0 2 2 t10_1 t10_2 _ (Kd.C_below HR0 hI.1) HC0 At10).mono fun _ _ h => ⟨_, h.1, h.2.below, rfl⟩))) ?_
                refine Steps.cons (fun a w hS hI hp => ok_on rfl (does_val (x_move rfl ((hp.get 1 (by rfl) rfl rfl))) rfl)) ?_
                refine Steps.cons (fun a w hS hI hp => ok_on rfl (does_val (x_extract rfl ((hp.get 2 (by rfl) rfl rfl)) rfl) rfl)) ?_
                refine Steps.cons (fun a w hS hI hp => ok_on rfl (does_val (x_extract rfl ((hp.get 2 (by rfl) rfl rfl)) rfl) rfl)) ?_
                refine Steps.cons (fun a w hS hI hp => ok_on rfl (does_val (x_assign rfl ((hp.get 3 (by rfl) rfl rfl))) rfl)) ?_
                refine Steps.cons (fun a w hS hI hp => ok_on rfl (does_val (x_assign rfl ((hp.get 4 (by rfl) rfl rfl))) rfl)) ?_
                exact Steps.nil
              clear hS
              intro at11 w12 hS hI hp
              have hBw12_w := hI.1
              have hBw12_w3 := hI.2.1
              have hBw12_w8 := hI.2.2
              have hv5 : sl _ 5 = .int .i64 t10_1 := hp 5 (by decide)
              have hBw12_w12 := Below.refl w12.heap.size w12
              have hS := hS.cons hv5
              clear hp hI hv5
              refine hK9 _ _ ?_
              clear hK9 K9
              refine wp_seq_k (fun K13 hK13 => ?_)
              refine wp_seq_k (fun K14 hK14 => ?_)
              refine reg_seq (N := 90) (bs := [(5, .int .i64 t10_1), (10, .bool (decide ((l0.length : Int) < 34))), (4, .int .i64 0), (3, .int .i64 0), (2, .pointer (some ⟨g4, 0, none⟩)), (0, .slice A0 l0.length c0)]) (I := fun x => Below w.heap.size w x ∧ Below w3.heap.size w3 x ∧ Below w12.heap.size w12 x) (ps := [IsV (.slice A0 l0.length c0), IsA (.int .u8 (rd l0 0)), IsV (.int .u8 (rd l0 0)), IsV (.int .i64 (wrap64 (rd l0 0))), IsV (.bool t15), IsV (.bool (!t15)), IsV (.bool (!t15)), IsV (.slice A0 l0.length c0), IsA (.int .u8 (rd l0 1)), IsV (.int .u8 (rd l0 1)), IsV (.int .u8 (Int.tmod (rd l0 1) 16)), IsV (.bool (!decide ((Int.tmod (rd l0 1) 16) = 2))), IsV (.bool (!decide ((Int.tmod (rd l0 1) 16) = 2))), IsV (.bool (!decide ((Int.tmod (rd l0 1) 16) = 2))), IsV (.int .i64 t10_1), IsV (.bool (decide (t10_1 < 34))), IsV (.bool (decide (t10_1 < 34))), IsV (.bool (decide (t10_1 < 34))), IsV undef, IsV undef, IsV (.bool true)]) (by kernel_rfl) ?_ ?_ rfl hS ⟨hBw12_w, hBw12_w3, hBw12_w12⟩ ?_ ?_
              · exact fun x y hI hb => ⟨below_step hI.1 hb, below_step hI.2.1 hb, below_step hI.2.2 hb⟩
              · exact AllStay.cons (Stays.v _) (AllStay.cons (Stays.a _) (AllStay.cons (Stays.v _) (AllStay.cons (Stays.v _) (AllStay.cons (Stays.v _) (AllStay.cons (Stays.v _) (AllStay.cons (Stays.v _) (AllStay.cons (Stays.v _) (AllStay.cons (Stays.a _) (AllStay.cons (Stays.v _) (AllStay.cons (Stays.v _) (AllStay.cons (Stays.v _) (AllStay.cons (Stays.v _) (AllStay.cons (Stays.v _) (AllStay.cons (Stays.v _) (AllStay.cons (Stays.v _) (AllStay.cons (Stays.v _) (AllStay.cons (Stays.v _) (AllStay.cons (Stays.v _) (AllStay.cons (Stays.v _) (AllStay.cons (Stays.v _) (AllStay.nil)))))))))))))))))))))
              · refine Steps.cons (fun a w hS hI hp => ok_on rfl (does_val (x_move rfl (hS.get 5 rfl)) rfl)) ?_
                refine Steps.cons (fun a w hS hI hp => ok_on rfl (does_index (e := 5) (xs := l0) rfl ((hp.get 0 (by rfl) rfl rfl)) (rfl) (by kernel_rfl) (by kernel_rfl) (by decide) c2 c2 ((Kd.C_below HR0 hI.1)))) ?_
                refine Steps.cons (fun a w hS hI hp => ok_on rfl (((hp.get 1 (by rfl) rfl rfl)).elim fun _ h_ => does_val (x_load1 (d := .int .u8) rfl h_.1 (by kernel_rfl) rfl h_.2.2) rfl)) ?_
                refine Steps.cons (fun a w hS hI hp => ok_on rfl (does_val ((i64_w (rd l0 0)) ▸ x_convI rfl (by kernel_rfl) (by kernel_rfl) ((hp.get 2 (by rfl) rfl rfl))) rfl)) ?_
                refine Steps.cons (fun a w hS hI hp => ok_on rfl (does_call (by kernel_rfl) (ar1 ((hp.get 3 (by rfl) rfl rfl))) ((carillonref06_Known.calls (wrap64 (rd l0 0)) t15 _  At15).mono fun _ _ h => ⟨_, h.1, h.2.below, rfl⟩))) ?_
                refine Steps.cons (fun a w hS hI hp => ok_on rfl (does_val (x_not rfl ((hp.get 4 (by rfl) rfl rfl))) rfl)) ?_
                refine Steps.cons (fun a w hS hI hp => ok_on rfl (does_val (x_move rfl ((hp.get 5 (by rfl) rfl rfl))) rfl)) ?_
                refine Steps.cons (fun a w hS hI hp => ok_if (d := 23) rfl rfl (by rw [hS.size]; decide) (((hp.get 6 (by rfl) rfl rfl)).trans (bF (congrArg (!·) c3))) (does_val (x_move rfl (hS.get 5 rfl)) rfl)) ?_
                refine Steps.cons (fun a w hS hI hp => ok_if (d := 23) rfl rfl (by rw [hS.size]; decide) (((hp.get 6 (by rfl) rfl rfl)).trans (bF (congrArg (!·) c3))) (does_index (e := 5) (xs := l0) rfl ((hp.get 7 (by rfl) rfl rfl)) (rfl) (by kernel_rfl) (by kernel_rfl) (by decide) c4 c4 ((Kd.C_below HR0 hI.1)))) ?_
                refine Steps.cons (fun a w hS hI hp => ok_if (d := 23) rfl rfl (by rw [hS.size]; decide) (((hp.get 6 (by rfl) rfl rfl)).trans (bF (congrArg (!·) c3))) (((hp.get 8 (by rfl) rfl rfl)).elim fun _ h_ => does_val (x_load1 (d := .int .u8) rfl h_.1 (by kernel_rfl) rfl h_.2.2) rfl)) ?_
                refine Steps.cons (fun a w hS hI hp => ok_if (d := 23) rfl rfl (by rw [hS.size]; decide) (((hp.get 6 (by rfl) rfl rfl)).trans (bF (congrArg (!·) c3))) (does_val (x_bin rfl ((hp.get 9 (by rfl) rfl rfl)) (rfl) (b_rem _ _ _ _ _ _ (by decide))) rfl)) ?_
                refine Steps.cons (fun a w hS hI hp => ok_if (d := 23) rfl rfl (by rw [hS.size]; decide) (((hp.get 6 (by rfl) rfl rfl)).trans (bF (congrArg (!·) c3))) (does_val (x_bin rfl ((hp.get 10 (by rfl) rfl rfl)) (rfl) (b_neq _ _ _ _ _ _)) rfl)) ?_
                refine Steps.cons (fun a w hS hI hp => ok_on rfl (does_val (x_pickF rfl (((hp.get 6 (by rfl) rfl rfl)).trans (bF (congrArg (!·) c3))) ((hp.get 11 (by rfl) rfl rfl))) rfl)) ?_
                refine Steps.cons (fun a w hS hI hp => ok_on rfl (does_val (x_move rfl ((hp.get 12 (by rfl) rfl rfl))) rfl)) ?_
                refine Steps.cons (fun a w hS hI hp => ok_if (d := 30) rfl rfl (by rw [hS.size]; decide) (((hp.get 13 (by rfl) rfl rfl)).trans (bF (congrArg (!·) (decide_eq_true c5)))) (does_val (x_move rfl (hS.get 0 rfl)) rfl)) ?_
                refine Steps.cons (fun a w hS hI hp => ok_if (d := 30) rfl rfl (by rw [hS.size]; decide) (((hp.get 13 (by rfl) rfl rfl)).trans (bF (congrArg (!·) (decide_eq_true c5)))) (does_val (x_bin rfl ((hp.get 14 (by rfl) rfl rfl)) (rfl) (b_lss _ _ _ _ _ _)) rfl)) ?_
                refine Steps.cons (fun a w hS hI hp => ok_on rfl (does_val (x_pickF rfl (((hp.get 13 (by rfl) rfl rfl)).trans (bF (congrArg (!·) (decide_eq_true c5)))) ((hp.get 15 (by rfl) rfl rfl))) rfl)) ?_
                refine Steps.cons (fun a w hS hI hp => ok_on rfl (does_val (x_move rfl ((hp.get 16 (by rfl) rfl rfl))) rfl)) ?_
                refine Steps.cons (fun a w hS hI hp => ok_off (d := 34) rfl rfl (by rw [hS.size]; decide) (((hp.get 17 (by rfl) rfl rfl)).trans (bT (decide_eq_true c6))) rfl) ?_
                refine Steps.cons (fun a w hS hI hp => ok_off (d := 34) rfl rfl (by rw [hS.size]; decide) (((hp.get 17 (by rfl) rfl rfl)).trans (bT (decide_eq_true c6))) rfl) ?_
                refine Steps.cons (fun a w hS hI hp => ok_on rfl (does_val (x_pickT rfl (((hp.get 17 (by rfl) rfl rfl)).trans (bT (decide_eq_true c6))) (rfl)) rfl)) ?_
                exact Steps.nil
              clear hS
              intro at16 w17 hS hI hp
              have hBw17_w := hI.1
              have hBw17_w3 := hI.2.1
              have hBw17_w12 := hI.2.2
              have hv37 : sl _ 37 = .bool true := hp 20 (by decide)
              have hBw17_w17 := Below.refl w17.heap.size w17
              have hS := hS.cons hv37
              clear hp hI hv37
              refine hK14 _ _ ?_
              clear hK14 K14
              refine wp_cond_true ((hS.get 0 rfl).trans (bT rfl)) ?_
              refine wp_seq_k (fun K18 hK18 => ?_)
              refine reg_seq_tail 1 (N := 90) (bs := [(37, .bool true), (5, .int .i64 t10_1), (10, .bool (decide ((l0.length : Int) < 34))), (4, .int .i64 0), (3, .int .i64 0), (2, .pointer (some ⟨g4, 0, none⟩)), (0, .slice A0 l0.length c0)]) (I := fun x => Below w.heap.size w x ∧ Below w3.heap.size w3 x ∧ Below w17.heap.size w17 x) (ps := [IsV (.agg #[.int .i64 0, .int .i64 0, .int .i64 0, .int .i64 0, .int .u64 0, .int .i64 0, .int .i64 0, .int .i64 0, .int .i64 0, .int .u64 0, .int .i64 0, .int .i64 0, .int .i64 0, .int .i64 0, .int .i64 0, .int .i64 0, .int .i64 0, .int .u64 0, .int .i64 0, .int .i64 0, .int .i64 0, .int .i64 0, .int .i64 0])]) (by kernel_rfl) ?_ ?_ rfl hS ⟨hBw17_w, hBw17_w3, hBw17_w17⟩ ?_ ?_
              · exact fun x y hI hb => ⟨below_step hI.1 hb, below_step hI.2.1 hb, below_step hI.2.2 hb⟩
              · exact AllStay.cons (Stays.v _) (AllStay.nil)
              · refine Steps.cons (fun a w hS hI hp => ok_on rfl (does_val (x_build (vs := []) rfl (by rw [Array.toList_map]; exact (show [] = _ from rfl)) (by kernel_rfl)) rfl)) ?_
                exact Steps.nil
              clear hS
              intro at19 w20 hS hI hp
              have hBw20_w := hI.1
              have hBw20_w3 := hI.2.1
              have hBw20_w17 := hI.2.2
              have hv38 : sl _ 38 = .agg #[.int .i64 0, .int .i64 0, .int .i64 0, .int .i64 0, .int .u64 0, .int .i64 0, .int .i64 0, .int .i64 0, .int .i64 0, .int .u64 0, .int .i64 0, .int .i64 0, .int .i64 0, .int .i64 0, .int .i64 0, .int .i64 0, .int .i64 0, .int .u64 0, .int .i64 0, .int .i64 0, .int .i64 0, .int .i64 0, .int .i64 0] := hp 0 (by decide)
              have hBw20_w20 := Below.refl w20.heap.size w20
              have hS := hS.cons hv38
              clear hp hI hv38
              show wpList _ _ _ [_, _, _] _ _
              refine list_step rfl (does_storeAll (g := g4) (cs := #[.int .i64 0, .int .i64 0, .int .i64 0, .int .i64 0, .int .u64 0, .int .i64 0, .int .i64 0, .int .i64 0, .int .i64 0, .int .u64 0, .int .i64 0, .int .i64 0, .int .i64 0, .int .i64 0, .int .i64 0, .int .i64 0, .int .i64 0, .int .u64 0, .int .i64 0, .int .i64 0, .int .i64 0, .int .i64 0, .int .i64 0]) rfl (hS.get 6 rfl) (hS.get 0 rfl) ((hBw20_w3.block g4 (blk_lt hbxg4)).trans hbxg4) (by kernel_rfl) (by kernel_rfl) (by kernel_rfl)) ?_
              rintro vw21 w21 ⟨rfl, hbxw21, hT⟩
              have hBw21_w := hT.below hBw20_w hgeg4 (hBw20_w).size
              have hBw21_w21 := Below.refl w21.heap.size w21
              clear hT
              refine list_step rfl (R := fun v w' => Below _ _ w' ∧ (IsV (.int .i64 0)) v w') (does_val (x_assign rfl (rfl)) rfl) ?_
              rintro vw22 w22 ⟨hb, he⟩
              have hBw22_w := below_step hBw21_w hb
              have hBw22_w21 := below_step hBw21_w21 hb
              have hBw22_w22 := Below.refl w22.heap.size w22
              obtain rfl : vw22 = .int .i64 0 := he
              replace hS := (((((((hS.nil).cons (hS.get 7 rfl)).cons (hS.get 6 rfl)).cons (hS.get 4 rfl)).cons (hS.get 3 rfl)).cons (hS.get 2 rfl)).cons (hS.get 1 rfl)).cons (hS.get 0 rfl)
              replace hS := hS.put (v := .int .i64 0) (d := 3) (by decide) (by rfl)
              refine list_step rfl (R := fun v w' => Below _ _ w' ∧ (IsV (.int .i64 4)) v w') (does_val (x_assign rfl (rfl)) rfl) ?_
              rintro vw23 w23 ⟨hb, he⟩
              have hBw23_w := below_step hBw22_w hb
              have hBw23_w21 := below_step hBw22_w21 hb
              have hBw23_w22 := below_step hBw22_w22 hb
              have hBw23_w23 := Below.refl w23.heap.size w23
              obtain rfl : vw23 = .int .i64 4 := he
              replace hS := (((((((hS.nil).cons (hS.get 7 rfl)).cons (hS.get 6 rfl)).cons (hS.get 4 rfl)).cons (hS.get 3 rfl)).cons (hS.get 2 rfl)).cons (hS.get 1 rfl)).cons (hS.get 0 rfl)
              replace hS := hS.put (v := .int .i64 4) (d := 4) (by decide) (by rfl)
              refine wpList_nil ?_
              refine hK18 _ _ ?_
              clear hK18 K18
              refine wp_ret ?_
              (try simp only [Exit.then, Exit.inBlock])
              exact bodyPost_ret (v := .tuple #[.agg #[.int .i64 0, .int .i64 0, .int .i64 0, .int .i64 0, .int .u64 0, .int .i64 0, .int .i64 0, .int .i64 0, .int .i64 0, .int .u64 0, .int .i64 0, .int .i64 0, .int .i64 0, .int .i64 0, .int .i64 0, .int .i64 0, .int .i64 0, .int .u64 0, .int .i64 0, .int .i64 0, .int .i64 0, .int .i64 0, .int .i64 0], .int .i64 0, .int .i64 4]) (results_list (rs := [.cell 2 28, .tmp 3, .tmp 4]) rfl (by simp) (Vals.cell g4 28 #[.int .i64 0, .int .i64 0, .int .i64 0, .int .i64 0, .int .u64 0, .int .i64 0, .int .i64 0, .int .i64 0, .int .i64 0, .int .u64 0, .int .i64 0, .int .i64 0, .int .i64 0, .int .i64 0, .int .i64 0, .int .i64 0, .int .i64 0, .int .u64 0, .int .i64 0, .int .i64 0, .int .i64 0, .int .i64 0, .int .i64 0] (0, 0) _ (hS.get 6 rfl) ((hBw23_w21.block g4 (blk_lt hbxw21)).trans hbxw21) Try.underlying28 rfl (by kernel_rfl) (Vals.at (hS.get 1 rfl) (Vals.at (hS.get 0 rfl) .nil)))) hS.nodef ⟨rfl, hBw23_w⟩
            · rw [if_neg c6] at H
              by_cases c7 : t10_1 > 400
              · rw [if_pos c7] at H
                simp only [Option.some.injEq, Prod.mk.injEq] at H
                obtain ⟨rfl, rfl, rfl, rfl, rfl, rfl, rfl, rfl, rfl, rfl, rfl, rfl, rfl, rfl, rfl, rfl, rfl, rfl, rfl, rfl, rfl, rfl, rfl, rfl, rfl⟩ := H
                refine calls_of_wp (fn := Try.f19) (by kernel_rfl) rfl ?_
                have hS := St.enter #[.slice A0 l0.length c0] 90 (by simp) [(0, .slice A0 l0.length c0)] (by simp)
                have HB0 := Below.refl w.heap.size w
                refine wp_seq_k (fun K1 hK1 => ?_)
                refine reg_seq (N := 90) (bs := [(0, .slice A0 l0.length c0)]) (I := fun x => Below w.heap.size w x) (ps := [IsB #[.int .i64 0, .int .i64 0, .int .i64 0, .int .i64 0, .int .u64 0, .int .i64 0, .int .i64 0, .int .i64 0, .int .i64 0, .int .u64 0, .int .i64 0, .int .i64 0, .int .i64 0, .int .i64 0, .int .i64 0, .int .i64 0, .int .i64 0, .int .u64 0, .int .i64 0, .int .i64 0, .int .i64 0, .int .i64 0, .int .i64 0] 28 w.heap.size, IsV (.int .i64 0), IsV (.int .i64 0)]) (by kernel_rfl) ?_ ?_ rfl hS HB0 ?_ ?_
                · exact fun x y hI hb => below_step hI hb
                · exact AllStay.cons (Stays.b _ _ _) (AllStay.cons (Stays.v _) (AllStay.cons (Stays.v _) (AllStay.nil)))
                · refine Steps.cons (fun a w hS hI hp => ok_on rfl (does_var (x_alloc rfl (by kernel_rfl)) (hI).size)) ?_
                  refine Steps.cons (fun a w hS hI hp => ok_on rfl (does_val (x_assign rfl (rfl)) rfl)) ?_
                  refine Steps.cons (fun a w hS hI hp => ok_on rfl (does_val (x_assign rfl (rfl)) rfl)) ?_
                  exact Steps.nil
                clear hS
                intro at2 w3 hS hI hp
                have hBw3_w := hI
                obtain ⟨g4, hv2, hgeg4, hbxg4⟩ := (show IsB _ 28 _ (sl _ 2) _ from hp 0 (by decide))
                have hv3 : sl _ 3 = .int .i64 0 := hp 1 (by decide)
                have hv4 : sl _ 4 = .int .i64 0 := hp 2 (by decide)
                have hBw3_w3 := Below.refl w3.heap.size w3
                have hS := hS.cons hv2
                have hS := hS.cons hv3
                have hS := hS.cons hv4
                clear hp hI hv2 hv3 hv4
                refine hK1 _ _ ?_
                clear hK1 K1
                refine wp_seq_k (fun K5 hK5 => ?_)
                refine wp_seq_k (fun K6 hK6 => ?_)
                refine reg_seq (N := 90) (bs := [(4, .int .i64 0), (3, .int .i64 0), (2, .pointer (some ⟨g4, 0, none⟩)), (0, .slice A0 l0.length c0)]) (I := fun x => Below w.heap.size w x ∧ Below w3.heap.size w3 x) (ps := [IsV (.slice A0 l0.length c0), IsV (.int .i64 (l0.length : Int)), IsV (.bool (decide ((l0.length : Int) < 34)))]) (by kernel_rfl) ?_ ?_ rfl hS ⟨hBw3_w, hBw3_w3⟩ ?_ ?_
                · exact fun x y hI hb => ⟨below_step hI.1 hb, below_step hI.2 hb⟩
                · exact AllStay.cons (Stays.v _) (AllStay.cons (Stays.v _) (AllStay.cons (Stays.v _) (AllStay.nil)))
                · refine Steps.cons (fun a w hS hI hp => ok_on rfl (does_val (x_move rfl (hS.get 3 rfl)) rfl)) ?_
                  refine Steps.cons (fun a w hS hI hp => ok_on rfl (does_val (x_len (e := 5) rfl (by kernel_rfl) ((hp.get 0 (by rfl) rfl rfl))) rfl)) ?_
                  refine Steps.cons (fun a w hS hI hp => ok_on rfl (does_val (x_bin rfl ((hp.get 1 (by rfl) rfl rfl)) (rfl) (b_lss _ _ _ _ _ _)) rfl)) ?_
                  exact Steps.nil
                clear hS
                intro at7 w8 hS hI hp
                have hBw8_w := hI.1
                have hBw8_w3 := hI.2
                have hv10 : sl _ 10 = .bool (decide ((l0.length : Int) < 34)) := hp 2 (by decide)
                have hBw8_w8 := Below.refl w8.heap.size w8
                have hS := hS.cons hv10
                clear hp hI hv10
                refine hK6 _ _ ?_
                clear hK6 K6
                refine wp_cond_false ((hS.get 0 rfl).trans (bF (decide_eq_false c1))) ?_
                refine wp_skip ?_
                refine hK5 _ _ ?_
                clear hK5 K5
                refine wp_seq_k (fun K9 hK9 => ?_)
                refine reg_seq (N := 90) (bs := [(10, .bool (decide ((l0.length : Int) < 34))), (4, .int .i64 0), (3, .int .i64 0), (2, .pointer (some ⟨g4, 0, none⟩)), (0, .slice A0 l0.length c0)]) (I := fun x => Below w.heap.size w x ∧ Below w3.heap.size w3 x ∧ Below w8.heap.size w8 x) (ps := [IsV (.slice A0 l0.length c0), IsV (.tuple #[.int .i64 t10_1, .bool t10_2]), IsV (.tuple #[.int .i64 t10_1, .bool t10_2]), IsV (.int .i64 t10_1), IsV (.bool t10_2), IsV (.int .i64 t10_1), IsV (.bool t10_2)]) (by kernel_rfl) ?_ ?_ rfl hS ⟨hBw8_w, hBw8_w3, hBw8_w8⟩ ?_ ?_
                · exact fun x y hI hb => ⟨below_step hI.1 hb, below_step hI.2.1 hb, below_step hI.2.2 hb⟩
                · exact AllStay.cons (Stays.v _) (AllStay.cons (Stays.v _) (AllStay.cons (Stays.v _) (AllStay.cons (Stays.v _) (AllStay.cons (Stays.v _) (AllStay.cons (Stays.v _) (AllStay.cons (Stays.v _) (AllStay.nil)))))))
                · refine Steps.cons (fun a w hS hI hp => ok_on rfl (does_val (x_move rfl (hS.get 4 rfl)) rfl)) ?_
                  refine Steps.cons (fun a w hS hI hp => ok_on rfl (does_call (by kernel_rfl) (ar3 ((hp.get 0 (by rfl) rfl rfl)) (rfl) (rfl)) ((carillonref01_Get.calls k _ _ l0 2 2 t10_1 t10_2 _ (Kd.C_below HR0 hI.1) HC0 At10).mono fun _ _ h => ⟨_, h.1, h.2.below, rfl⟩))) ?_
                  refine Steps.cons (fun a w hS hI hp => ok_on rfl (does_val (x_move rfl ((hp.get 1 (by rfl) rfl rfl))) rfl)) ?_
                  refine Steps.cons (fun a w hS hI hp => ok_on rfl (does_val (x_extract rfl ((hp.get 2 (by rfl) rfl rfl)) rfl) rfl)) ?_
                  refine Steps.cons (fun a w hS hI hp => ok_on rfl (does_val (x_extract rfl ((hp.get 2 (by rfl) rfl rfl)) rfl) rfl)) ?_
                  refine Steps.cons (fun a w hS hI hp => ok_on rfl (does_val (x_assign rfl ((hp.get 3 (by rfl) rfl rfl))) rfl)) ?_
                  refine Steps.cons (fun a w hS hI hp => ok_on rfl (does_val (x_assign rfl ((hp.get 4 (by rfl) rfl rfl))) rfl)) ?_
                  exact Steps.nil
                clear hS
                intro at11 w12 hS hI hp
                have hBw12_w := hI.1
                have hBw12_w3 := hI.2.1
                have hBw12_w8 := hI.2.2
                have hv5 : sl _ 5 = .int .i64 t10_1 := hp 5 (by decide)
                have hBw12_w12 := Below.refl w12.heap.size w12
                have hS := hS.cons hv5
                clear hp hI hv5
                refine hK9 _ _ ?_
                clear hK9 K9
                refine wp_seq_k (fun K13 hK13 => ?_)
                refine wp_seq_k (fun K14 hK14 => ?_)
                refine reg_seq (N := 90) (bs := [(5, .int .i64 t10_1), (10, .bool (decide ((l0.length : Int) < 34))), (4, .int .i64 0), (3, .int .i64 0), (2, .pointer (some ⟨g4, 0, none⟩)), (0, .slice A0 l0.length c0)]) (I := fun x => Below w.heap.size w x ∧ Below w3.heap.size w3 x ∧ Below w12.heap.size w12 x) (ps := [IsV (.slice A0 l0.length c0), IsA (.int .u8 (rd l0 0)), IsV (.int .u8 (rd l0 0)), IsV (.int .i64 (wrap64 (rd l0 0))), IsV (.bool t15), IsV (.bool (!t15)), IsV (.bool (!t15)), IsV (.slice A0 l0.length c0), IsA (.int .u8 (rd l0 1)), IsV (.int .u8 (rd l0 1)), IsV (.int .u8 (Int.tmod (rd l0 1) 16)), IsV (.bool (!decide ((Int.tmod (rd l0 1) 16) = 2))), IsV (.bool (!decide ((Int.tmod (rd l0 1) 16) = 2))), IsV (.bool (!decide ((Int.tmod (rd l0 1) 16) = 2))), IsV (.int .i64 t10_1), IsV (.bool (decide (t10_1 < 34))), IsV (.bool (decide (t10_1 < 34))), IsV (.bool (decide (t10_1 < 34))), IsV (.int .i64 t10_1), IsV (.bool (decide (t10_1 > 400))), IsV (.bool (decide (t10_1 > 400)))]) (by kernel_rfl) ?_ ?_ rfl hS ⟨hBw12_w, hBw12_w3, hBw12_w12⟩ ?_ ?_
                · exact fun x y hI hb => ⟨below_step hI.1 hb, below_step hI.2.1 hb, below_step hI.2.2 hb⟩
                · exact AllStay.cons (Stays.v _) (AllStay.cons (Stays.a _) (AllStay.cons (Stays.v _) (AllStay.cons (Stays.v _) (AllStay.cons (Stays.v _) (AllStay.cons (Stays.v _) (AllStay.cons (Stays.v _) (AllStay.cons (Stays.v _) (AllStay.cons (Stays.a _) (AllStay.cons (Stays.v _) (AllStay.cons (Stays.v _) (AllStay.cons (Stays.v _) (AllStay.cons (Stays.v _) (AllStay.cons (Stays.v _) (AllStay.cons (Stays.v _) (AllStay.cons (Stays.v _) (AllStay.cons (Stays.v _) (AllStay.cons (Stays.v _) (AllStay.cons (Stays.v _) (AllStay.cons (Stays.v _) (AllStay.cons (Stays.v _) (AllStay.nil)))))))))))))))))))))
                · refine Steps.cons (fun a w hS hI hp => ok_on rfl (does_val (x_move rfl (hS.get 5 rfl)) rfl)) ?_
                  refine Steps.cons (fun a w hS hI hp => ok_on rfl (does_index (e := 5) (xs := l0) rfl ((hp.get 0 (by rfl) rfl rfl)) (rfl) (by kernel_rfl) (by kernel_rfl) (by decide) c2 c2 ((Kd.C_below HR0 hI.1)))) ?_
                  refine Steps.cons (fun a w hS hI hp => ok_on rfl (((hp.get 1 (by rfl) rfl rfl)).elim fun _ h_ => does_val (x_load1 (d := .int .u8) rfl h_.1 (by kernel_rfl) rfl h_.2.2) rfl)) ?_
                  refine Steps.cons (fun a w hS hI hp => ok_on rfl (does_val ((i64_w (rd l0 0)) ▸ x_convI rfl (by kernel_rfl) (by kernel_rfl) ((hp.get 2 (by rfl) rfl rfl))) rfl)) ?_
                  refine Steps.cons (fun a w hS hI hp => ok_on rfl (does_call (by kernel_rfl) (ar1 ((hp.get 3 (by rfl) rfl rfl))) ((carillonref06_Known.calls (wrap64 (rd l0 0)) t15 _  At15).mono fun _ _ h => ⟨_, h.1, h.2.below, rfl⟩))) ?_
                  refine Steps.cons (fun a w hS hI hp => ok_on rfl (does_val (x_not rfl ((hp.get 4 (by rfl) rfl rfl))) rfl)) ?_
                  refine Steps.cons (fun a w hS hI hp => ok_on rfl (does_val (x_move rfl ((hp.get 5 (by rfl) rfl rfl))) rfl)) ?_
                  refine Steps.cons (fun a w hS hI hp => ok_if (d := 23) rfl rfl (by rw [hS.size]; decide) (((hp.get 6 (by rfl) rfl rfl)).trans (bF (congrArg (!·) c3))) (does_val (x_move rfl (hS.get 5 rfl)) rfl)) ?_
                  refine Steps.cons (fun a w hS hI hp => ok_if (d := 23) rfl rfl (by rw [hS.size]; decide) (((hp.get 6 (by rfl) rfl rfl)).trans (bF (congrArg (!·) c3))) (does_index (e := 5) (xs := l0) rfl ((hp.get 7 (by rfl) rfl rfl)) (rfl) (by kernel_rfl) (by kernel_rfl) (by decide) c4 c4 ((Kd.C_below HR0 hI.1)))) ?_
                  refine Steps.cons (fun a w hS hI hp => ok_if (d := 23) rfl rfl (by rw [hS.size]; decide) (((hp.get 6 (by rfl) rfl rfl)).trans (bF (congrArg (!·) c3))) (((hp.get 8 (by rfl) rfl rfl)).elim fun _ h_ => does_val (x_load1 (d := .int .u8) rfl h_.1 (by kernel_rfl) rfl h_.2.2) rfl)) ?_
                  refine Steps.cons (fun a w hS hI hp => ok_if (d := 23) rfl rfl (by rw [hS.size]; decide) (((hp.get 6 (by rfl) rfl rfl)).trans (bF (congrArg (!·) c3))) (does_val (x_bin rfl ((hp.get 9 (by rfl) rfl rfl)) (rfl) (b_rem _ _ _ _ _ _ (by decide))) rfl)) ?_
                  refine Steps.cons (fun a w hS hI hp => ok_if (d := 23) rfl rfl (by rw [hS.size]; decide) (((hp.get 6 (by rfl) rfl rfl)).trans (bF (congrArg (!·) c3))) (does_val (x_bin rfl ((hp.get 10 (by rfl) rfl rfl)) (rfl) (b_neq _ _ _ _ _ _)) rfl)) ?_
                  refine Steps.cons (fun a w hS hI hp => ok_on rfl (does_val (x_pickF rfl (((hp.get 6 (by rfl) rfl rfl)).trans (bF (congrArg (!·) c3))) ((hp.get 11 (by rfl) rfl rfl))) rfl)) ?_
                  refine Steps.cons (fun a w hS hI hp => ok_on rfl (does_val (x_move rfl ((hp.get 12 (by rfl) rfl rfl))) rfl)) ?_
                  refine Steps.cons (fun a w hS hI hp => ok_if (d := 30) rfl rfl (by rw [hS.size]; decide) (((hp.get 13 (by rfl) rfl rfl)).trans (bF (congrArg (!·) (decide_eq_true c5)))) (does_val (x_move rfl (hS.get 0 rfl)) rfl)) ?_
                  refine Steps.cons (fun a w hS hI hp => ok_if (d := 30) rfl rfl (by rw [hS.size]; decide) (((hp.get 13 (by rfl) rfl rfl)).trans (bF (congrArg (!·) (decide_eq_true c5)))) (does_val (x_bin rfl ((hp.get 14 (by rfl) rfl rfl)) (rfl) (b_lss _ _ _ _ _ _)) rfl)) ?_
                  refine Steps.cons (fun a w hS hI hp => ok_on rfl (does_val (x_pickF rfl (((hp.get 13 (by rfl) rfl rfl)).trans (bF (congrArg (!·) (decide_eq_true c5)))) ((hp.get 15 (by rfl) rfl rfl))) rfl)) ?_
                  refine Steps.cons (fun a w hS hI hp => ok_on rfl (does_val (x_move rfl ((hp.get 16 (by rfl) rfl rfl))) rfl)) ?_
                  refine Steps.cons (fun a w hS hI hp => ok_if (d := 34) rfl rfl (by rw [hS.size]; decide) (((hp.get 17 (by rfl) rfl rfl)).trans (bF (decide_eq_false c6))) (does_val (x_move rfl (hS.get 0 rfl)) rfl)) ?_
                  refine Steps.cons (fun a w hS hI hp => ok_if (d := 34) rfl rfl (by rw [hS.size]; decide) (((hp.get 17 (by rfl) rfl rfl)).trans (bF (decide_eq_false c6))) (does_val (x_bin rfl ((hp.get 18 (by rfl) rfl rfl)) (rfl) (b_gtr _ _ _ _ _ _)) rfl)) ?_
                  refine Steps.cons (fun a w hS hI hp => ok_on rfl (does_val (x_pickF rfl (((hp.get 17 (by rfl) rfl rfl)).trans (bF (decide_eq_false c6))) ((hp.get 19 (by rfl) rfl rfl))) rfl)) ?_
                  exact Steps.nil
                clear hS
                intro at16 w17 hS hI hp
                have hBw17_w := hI.1
                have hBw17_w3 := hI.2.1
                have hBw17_w12 := hI.2.2
                have hv37 : sl _ 37 = .bool (decide (t10_1 > 400)) := hp 20 (by decide)
                have hBw17_w17 := Below.refl w17.heap.size w17
                have hS := hS.cons hv37
                clear hp hI hv37
                refine hK14 _ _ ?_
                clear hK14 K14
                refine wp_cond_true ((hS.get 0 rfl).trans (bT (decide_eq_true c7))) ?_
                refine wp_seq_k (fun K18 hK18 => ?_)
                refine reg_seq_tail 1 (N := 90) (bs := [(37, .bool (decide (t10_1 > 400))), (5, .int .i64 t10_1), (10, .bool (decide ((l0.length : Int) < 34))), (4, .int .i64 0), (3, .int .i64 0), (2, .pointer (some ⟨g4, 0, none⟩)), (0, .slice A0 l0.length c0)]) (I := fun x => Below w.heap.size w x ∧ Below w3.heap.size w3 x ∧ Below w17.heap.size w17 x) (ps := [IsV (.agg #[.int .i64 0, .int .i64 0, .int .i64 0, .int .i64 0, .int .u64 0, .int .i64 0, .int .i64 0, .int .i64 0, .int .i64 0, .int .u64 0, .int .i64 0, .int .i64 0, .int .i64 0, .int .i64 0, .int .i64 0, .int .i64 0, .int .i64 0, .int .u64 0, .int .i64 0, .int .i64 0, .int .i64 0, .int .i64 0, .int .i64 0])]) (by kernel_rfl) ?_ ?_ rfl hS ⟨hBw17_w, hBw17_w3, hBw17_w17⟩ ?_ ?_
                · exact fun x y hI hb => ⟨below_step hI.1 hb, below_step hI.2.1 hb, below_step hI.2.2 hb⟩
                · exact AllStay.cons (Stays.v _) (AllStay.nil)
                · refine Steps.cons (fun a w hS hI hp => ok_on rfl (does_val (x_build (vs := []) rfl (by rw [Array.toList_map]; exact (show [] = _ from rfl)) (by kernel_rfl)) rfl)) ?_
                  exact Steps.nil
                clear hS
                intro at19 w20 hS hI hp
                have hBw20_w := hI.1
                have hBw20_w3 := hI.2.1
                have hBw20_w17 := hI.2.2
                have hv38 : sl _ 38 = .agg #[.int .i64 0, .int .i64 0, .int .i64 0, .int .i64 0, .int .u64 0, .int .i64 0, .int .i64 0, .int .i64 0, .int .i64 0, .int .u64 0, .int .i64 0, .int .i64 0, .int .i64 0, .int .i64 0, .int .i64 0, .int .i64 0, .int .i64 0, .int .u64 0, .int .i64 0, .int .i64 0, .int .i64 0, .int .i64 0, .int .i64 0] := hp 0 (by decide)
                have hBw20_w20 := Below.refl w20.heap.size w20
                have hS := hS.cons hv38
                clear hp hI hv38
                show wpList _ _ _ [_, _, _] _ _
                refine list_step rfl (does_storeAll (g := g4) (cs := #[.int .i64 0, .int .i64 0, .int .i64 0, .int .i64 0, .int .u64 0, .int .i64 0, .int .i64 0, .int .i64 0, .int .i64 0, .int .u64 0, .int .i64 0, .int .i64 0, .int .i64 0, .int .i64 0, .int .i64 0, .int .i64 0, .int .i64 0, .int .u64 0, .int .i64 0, .int .i64 0, .int .i64 0, .int .i64 0, .int .i64 0]) rfl (hS.get 6 rfl) (hS.get 0 rfl) ((hBw20_w3.block g4 (blk_lt hbxg4)).trans hbxg4) (by kernel_rfl) (by kernel_rfl) (by kernel_rfl)) ?_
                rintro vw21 w21 ⟨rfl, hbxw21, hT⟩
                have hBw21_w := hT.below hBw20_w hgeg4 (hBw20_w).size
                have hBw21_w21 := Below.refl w21.heap.size w21
                clear hT
                refine list_step rfl (R := fun v w' => Below _ _ w' ∧ (IsV (.int .i64 0)) v w') (does_val (x_assign rfl (rfl)) rfl) ?_
                rintro vw22 w22 ⟨hb, he⟩
                have hBw22_w := below_step hBw21_w hb
                have hBw22_w21 := below_step hBw21_w21 hb
                have hBw22_w22 := Below.refl w22.heap.size w22
                obtain rfl : vw22 = .int .i64 0 := he
                replace hS := (((((((hS.nil).cons (hS.get 7 rfl)).cons (hS.get 6 rfl)).cons (hS.get 4 rfl)).cons (hS.get 3 rfl)).cons (hS.get 2 rfl)).cons (hS.get 1 rfl)).cons (hS.get 0 rfl)
                replace hS := hS.put (v := .int .i64 0) (d := 3) (by decide) (by rfl)
                refine list_step rfl (R := fun v w' => Below _ _ w' ∧ (IsV (.int .i64 4)) v w') (does_val (x_assign rfl (rfl)) rfl) ?_
                rintro vw23 w23 ⟨hb, he⟩
                have hBw23_w := below_step hBw22_w hb
                have hBw23_w21 := below_step hBw22_w21 hb
                have hBw23_w22 := below_step hBw22_w22 hb
                have hBw23_w23 := Below.refl w23.heap.size w23
                obtain rfl : vw23 = .int .i64 4 := he
                replace hS := (((((((hS.nil).cons (hS.get 7 rfl)).cons (hS.get 6 rfl)).cons (hS.get 4 rfl)).cons (hS.get 3 rfl)).cons (hS.get 2 rfl)).cons (hS.get 1 rfl)).cons (hS.get 0 rfl)
                replace hS := hS.put (v := .int .i64 4) (d := 4) (by decide) (by rfl)
                refine wpList_nil ?_
                refine hK18 _ _ ?_
                clear hK18 K18
                refine wp_ret ?_
                (try simp only [Exit.then, Exit.inBlock])
                exact bodyPost_ret (v := .tuple #[.agg #[.int .i64 0, .int .i64 0, .int .i64 0, .int .i64 0, .int .u64 0, .int .i64 0, .int .i64 0, .int .i64 0, .int .i64 0, .int .u64 0, .int .i64 0, .int .i64 0, .int .i64 0, .int .i64 0, .int .i64 0, .int .i64 0, .int .i64 0, .int .u64 0, .int .i64 0, .int .i64 0, .int .i64 0, .int .i64 0, .int .i64 0], .int .i64 0, .int .i64 4]) (results_list (rs := [.cell 2 28, .tmp 3, .tmp 4]) rfl (by simp) (Vals.cell g4 28 #[.int .i64 0, .int .i64 0, .int .i64 0, .int .i64 0, .int .u64 0, .int .i64 0, .int .i64 0, .int .i64 0, .int .i64 0, .int .u64 0, .int .i64 0, .int .i64 0, .int .i64 0, .int .i64 0, .int .i64 0, .int .i64 0, .int .i64 0, .int .u64 0, .int .i64 0, .int .i64 0, .int .i64 0, .int .i64 0, .int .i64 0] (0, 0) _ (hS.get 6 rfl) ((hBw23_w21.block g4 (blk_lt hbxw21)).trans hbxw21) Try.underlying28 rfl (by kernel_rfl) (Vals.at (hS.get 1 rfl) (Vals.at (hS.get 0 rfl) .nil)))) hS.nodef ⟨rfl, hBw23_w⟩
              · rw [if_neg c7] at H
                by_cases c8 : (l0.length : Int) < t10_1
                · rw [if_pos c8] at H
                  simp only [Option.some.injEq, Prod.mk.injEq] at H
                  obtain ⟨rfl, rfl, rfl, rfl, rfl, rfl, rfl, rfl, rfl, rfl, rfl, rfl, rfl, rfl, rfl, rfl, rfl, rfl, rfl, rfl, rfl, rfl, rfl, rfl, rfl⟩ := H
                  refine calls_of_wp (fn := Try.f19) (by kernel_rfl) rfl ?_
                  have hS := St.enter #[.slice A0 l0.length c0] 90 (by simp) [(0, .slice A0 l0.length c0)] (by simp)
                  have HB0 := Below.refl w.heap.size w
                  refine wp_seq_k (fun K1 hK1 => ?_)
                  refine reg_seq (N := 90) (bs := [(0, .slice A0 l0.length c0)]) (I := fun x => Below w.heap.size w x) (ps := [IsB #[.int .i64 0, .int .i64 0, .int .i64 0, .int .i64 0, .int .u64 0, .int .i64 0, .int .i64 0, .int .i64 0, .int .i64 0, .int .u64 0, .int .i64 0, .int .i64 0, .int .i64 0, .int .i64 0, .int .i64 0, .int .i64 0, .int .i64 0, .int .u64 0, .int .i64 0, .int .i64 0, .int .i64 0, .int .i64 0, .int .i64 0] 28 w.heap.size, IsV (.int .i64 0), IsV (.int .i64 0)]) (by kernel_rfl) ?_ ?_ rfl hS HB0 ?_ ?_
                  · exact fun x y hI hb => below_step hI hb
                  · exact AllStay.cons (Stays.b _ _ _) (AllStay.cons (Stays.v _) (AllStay.cons (Stays.v _) (AllStay.nil)))
                  · refine Steps.cons (fun a w hS hI hp => ok_on rfl (does_var (x_alloc rfl (by kernel_rfl)) (hI).size)) ?_
                    refine Steps.cons (fun a w hS hI hp => ok_on rfl (does_val (x_assign rfl (rfl)) rfl)) ?_
                    refine Steps.cons (fun a w hS hI hp => ok_on rfl (does_val (x_assign rfl (rfl)) rfl)) ?_
                    exact Steps.nil
                  clear hS
                  intro at2 w3 hS hI hp
                  have hBw3_w := hI
                  obtain ⟨g4, hv2, hgeg4, hbxg4⟩ := (show IsB _ 28 _ (sl _ 2) _ from hp 0 (by decide))
                  have hv3 : sl _ 3 = .int .i64 0 := hp 1 (by decide)
                  have hv4 : sl _ 4 = .int .i64 0 := hp 2 (by decide)
                  have hBw3_w3 := Below.refl w3.heap.size w3
                  have hS := hS.cons hv2
                  have hS := hS.cons hv3
                  have hS := hS.cons hv4
                  clear hp hI hv2 hv3 hv4
                  refine hK1 _ _ ?_
                  clear hK1 K1
                  refine wp_seq_k (fun K5 hK5 => ?_)
                  refine wp_seq_k (fun K6 hK6 => ?_)
                  refine reg_seq (N := 90) (bs := [(4, .int .i64 0), (3, .int .i64 0), (2, .pointer (some ⟨g4, 0, none⟩)), (0, .slice A0 l0.length c0)]) (I := fun x => Below w.heap.size w x ∧ Below w3.heap.size w3 x) (ps := [IsV (.slice A0 l0.length c0), IsV (.int .i64 (l0.length : Int)), IsV (.bool (decide ((l0.length : Int) < 34)))]) (by kernel_rfl) ?_ ?_ rfl hS ⟨hBw3_w, hBw3_w3⟩ ?_ ?_
                  · exact fun x y hI hb => ⟨below_step hI.1 hb, below_step hI.2 hb⟩
                  · exact AllStay.cons (Stays.v _) (AllStay.cons (Stays.v _) (AllStay.cons (Stays.v _) (AllStay.nil)))
                  · refine Steps.cons (fun a w hS hI hp => ok_on rfl (does_val (x_move rfl (hS.get 3 rfl)) rfl)) ?_
                    refine Steps.cons (fun a w hS hI hp => ok_on rfl (does_val (x_len (e := 5) rfl (by kernel_rfl) ((hp.get 0 (by rfl) rfl rfl))) rfl)) ?_
                    refine Steps.cons (fun a w hS hI hp => ok_on rfl (does_val (x_bin rfl ((hp.get 1 (by rfl) rfl rfl)) (rfl) (b_lss _ _ _ _ _ _)) rfl)) ?_
                    exact Steps.nil
                  clear hS
                  intro at7 w8 hS hI hp
                  have hBw8_w := hI.1
                  have hBw8_w3 := hI.2
                  have hv10 : sl _ 10 = .bool (decide ((l0.length : Int) < 34)) := hp 2 (by decide)
                  have hBw8_w8 := Below.refl w8.heap.size w8
                  have hS := hS.cons hv10
                  clear hp hI hv10
                  refine hK6 _ _ ?_
                  clear hK6 K6
                  refine wp_cond_false ((hS.get 0 rfl).trans (bF (decide_eq_false c1))) ?_
                  refine wp_skip ?_
                  refine hK5 _ _ ?_
                  clear hK5 K5
                  refine wp_seq_k (fun K9 hK9 => ?_)
                  refine reg_seq (N := 90) (bs := [(10, .bool (decide ((l0.length : Int) < 34))), (4, .int .i64 0), (3, .int .i64 0), (2, .pointer (some ⟨g4, 0, none⟩)), (0, .slice A0 l0.length c0)]) (I := fun x => Below w.heap.size w x ∧ Below w3.heap.size w3 x ∧ Below w8.heap.size w8 x) (ps := [IsV (.slice A0 l0.length c0), IsV (.tuple #[.int .i64 t10_1, .bool t10_2]), IsV (.tuple #[.int .i64 t10_1, .bool t10_2]), IsV (.int .i64 t10_1), IsV (.bool t10_2), IsV (.int .i64 t10_1), IsV (.bool t10_2)]) (by kernel_rfl) ?_ ?_ rfl hS ⟨hBw8_w, hBw8_w3, hBw8_w8⟩ ?_ ?_
                  · exact fun x y hI hb => ⟨below_step hI.1 hb, below_step hI.2.1 hb, below_step hI.2.2 hb⟩
                  · exact AllStay.cons (Stays.v _) (AllStay.cons (Stays.v _) (AllStay.cons (Stays.v _) (AllStay.cons (Stays.v _) (AllStay.cons (Stays.v _) (AllStay.cons (Stays.v _) (AllStay.cons (Stays.v _) (AllStay.nil)))))))
                  · refine Steps.cons (fun a w hS hI hp => ok_on rfl (does_val (x_move rfl (hS.get 4 rfl)) rfl)) ?_
                    refine Steps.cons (fun a w hS hI hp => ok_on rfl (does_call (by kernel_rfl) (ar3 ((hp.get 0 (by rfl) rfl rfl)) (rfl) (rfl)) ((carillonref01_Get.calls k _ _ l0 2 2 t10_1 t10_2 _ (Kd.C_below HR0 hI.1) HC0 At10).mono fun _ _ h => ⟨_, h.1, h.2.below, rfl⟩))) ?_
                    refine Steps.cons (fun a w hS hI hp => ok_on rfl (does_val (x_move rfl ((hp.get 1 (by rfl) rfl rfl))) rfl)) ?_
                    refine Steps.cons (fun a w hS hI hp => ok_on rfl (does_val (x_extract rfl ((hp.get 2 (by rfl) rfl rfl)) rfl) rfl)) ?_
                    refine Steps.cons (fun a w hS hI hp => ok_on rfl (does_val (x_extract rfl ((hp.get 2 (by rfl) rfl rfl)) rfl) rfl)) ?_
                    refine Steps.cons (fun a w hS hI hp => ok_on rfl (does_val (x_assign rfl ((hp.get 3 (by rfl) rfl rfl))) rfl)) ?_
                    refine Steps.cons (fun a w hS hI hp => ok_on rfl (does_val (x_assign rfl ((hp.get 4 (by rfl) rfl rfl))) rfl)) ?_
                    exact Steps.nil
                  clear hS
                  intro at11 w12 hS hI hp
                  have hBw12_w := hI.1
                  have hBw12_w3 := hI.2.1
                  have hBw12_w8 := hI.2.2
                  have hv5 : sl _ 5 = .int .i64 t10_1 := hp 5 (by decide)
                  have hBw12_w12 := Below.refl w12.heap.size w12
                  have hS := hS.cons hv5
                  clear hp hI hv5
                  refine hK9 _ _ ?_
                  clear hK9 K9
                  refine wp_seq_k (fun K13 hK13 => ?_)
                  refine wp_seq_k (fun K14 hK14 => ?_)
                  refine reg_seq (N := 90) (bs := [(5, .int .i64 t10_1), (10, .bool (decide ((l0.length : Int) < 34))), (4, .int .i64 0), (3, .int .i64 0), (2, .pointer (some ⟨g4, 0, none⟩)), (0, .slice A0 l0.length c0)]) (I := fun x => Below w.heap.size w x ∧ Below w3.heap.size w3 x ∧ Below w12.heap.size w12 x) (ps := [IsV (.slice A0 l0.length c0), IsA (.int .u8 (rd l0 0)), IsV (.int .u8 (rd l0 0)), IsV (.int .i64 (wrap64 (rd l0 0))), IsV (.bool t15), IsV (.bool (!t15)), IsV (.bool (!t15)), IsV (.slice A0 l0.length c0), IsA (.int .u8 (rd l0 1)), IsV (.int .u8 (rd l0 1)), IsV (.int .u8 (Int.tmod (rd l0 1) 16)), IsV (.bool (!decide ((Int.tmod (rd l0 1) 16) = 2))), IsV (.bool (!decide ((Int.tmod (rd l0 1) 16) = 2))), IsV (.bool (!decide ((Int.tmod (rd l0 1) 16) = 2))), IsV (.int .i64 t10_1), IsV (.bool (decide (t10_1 < 34))), IsV (.bool (decide (t10_1 < 34))), IsV (.bool (decide (t10_1 < 34))), IsV (.int .i64 t10_1), IsV (.bool (decide (t10_1 > 400))), IsV (.bool (decide (t10_1 > 400)))]) (by kernel_rfl) ?_ ?_ rfl hS ⟨hBw12_w, hBw12_w3, hBw12_w12⟩ ?_ ?_
                  · exact fun x y hI hb => ⟨below_step hI.1 hb, below_step hI.2.1 hb, below_step hI.2.2 hb⟩
                  · exact AllStay.cons (Stays.v _) (AllStay.cons (Stays.a _) (AllStay.cons (Stays.v _) (AllStay.cons (Stays.v _) (AllStay.cons (Stays.v _) (AllStay.cons (Stays.v _) (AllStay.cons (Stays.v _) (AllStay.cons (Stays.v _) (AllStay.cons (Stays.a _) (AllStay.cons (Stays.v _) (AllStay.cons (Stays.v _) (AllStay.cons (Stays.v _) (AllStay.cons (Stays.v _) (AllStay.cons (Stays.v _) (AllStay.cons (Stays.v _) (AllStay.cons (Stays.v _) (AllStay.cons (Stays.v _) (AllStay.cons (Stays.v _) (AllStay.cons (Stays.v _) (AllStay.cons (Stays.v _) (AllStay.cons (Stays.v _) (AllStay.nil)))))))))))))))))))))
                  · refine Steps.cons (fun a w hS hI hp => ok_on rfl (does_val (x_move rfl (hS.get 5 rfl)) rfl)) ?_
                    refine Steps.cons (fun a w hS hI hp => ok_on rfl (does_index (e := 5) (xs := l0) rfl ((hp.get 0 (by rfl) rfl rfl)) (rfl) (by kernel_rfl) (by kernel_rfl) (by decide) c2 c2 ((Kd.C_below HR0 hI.1)))) ?_
                    refine Steps.cons (fun a w hS hI hp => ok_on rfl (((hp.get 1 (by rfl) rfl rfl)).elim fun _ h_ => does_val (x_load1 (d := .int .u8) rfl h_.1 (by kernel_rfl) rfl h_.2.2) rfl)) ?_
                    refine Steps.cons (fun a w hS hI hp => ok_on rfl (does_val ((i64_w (rd l0 0)) ▸ x_convI rfl (by kernel_rfl) (by kernel_rfl) ((hp.get 2 (by rfl) rfl rfl))) rfl)) ?_
                    refine Steps.cons (fun a w hS hI hp => ok_on rfl (does_call (by kernel_rfl) (ar1 ((hp.get 3 (by rfl) rfl rfl))) ((carillonref06_Known.calls (wrap64 (rd l0 0)) t15 _  At15).mono fun _ _ h => ⟨_, h.1, h.2.below, rfl⟩))) ?_
                    refine Steps.cons (fun a w hS hI hp => ok_on rfl (does_val (x_not rfl ((hp.get 4 (by rfl) rfl rfl))) rfl)) ?_
                    refine Steps.cons (fun a w hS hI hp => ok_on rfl (does_val (x_move rfl ((hp.get 5 (by rfl) rfl rfl))) rfl)) ?_
                    refine Steps.cons (fun a w hS hI hp => ok_if (d := 23) rfl rfl (by rw [hS.size]; decide) (((hp.get 6 (by rfl) rfl rfl)).trans (bF (congrArg (!·) c3))) (does_val (x_move rfl (hS.get 5 rfl)) rfl)) ?_
                    refine Steps.cons (fun a w hS hI hp => ok_if (d := 23) rfl rfl (by rw [hS.size]; decide) (((hp.get 6 (by rfl) rfl rfl)).trans (bF (congrArg (!·) c3))) (does_index (e := 5) (xs := l0) rfl ((hp.get 7 (by rfl) rfl rfl)) (rfl) (by kernel_rfl) (by kernel_rfl) (by decide) c4 c4 ((Kd.C_below HR0 hI.1)))) ?_
                    refine Steps.cons (fun a w hS hI hp => ok_if (d := 23) rfl rfl (by rw [hS.size]; decide) (((hp.get 6 (by rfl) rfl rfl)).trans (bF (congrArg (!·) c3))) (((hp.get 8 (by rfl) rfl rfl)).elim fun _ h_ => does_val (x_load1 (d := .int .u8) rfl h_.1 (by kernel_rfl) rfl h_.2.2) rfl)) ?_
                    refine Steps.cons (fun a w hS hI hp => ok_if (d := 23) rfl rfl (by rw [hS.size]; decide) (((hp.get 6 (by rfl) rfl rfl)).trans (bF (congrArg (!·) c3))) (does_val (x_bin rfl ((hp.get 9 (by rfl) rfl rfl)) (rfl) (b_rem _ _ _ _ _ _ (by decide))) rfl)) ?_
                    refine Steps.cons (fun a w hS hI hp => ok_if (d := 23) rfl rfl (by rw [hS.size]; decide) (((hp.get 6 (by rfl) rfl rfl)).trans (bF (congrArg (!·) c3))) (does_val (x_bin rfl ((hp.get 10 (by rfl) rfl rfl)) (rfl) (b_neq _ _ _ _ _ _)) rfl)) ?_
                    refine Steps.cons (fun a w hS hI hp => ok_on rfl (does_val (x_pickF rfl (((hp.get 6 (by rfl) rfl rfl)).trans (bF (congrArg (!·) c3))) ((hp.get 11 (by rfl) rfl rfl))) rfl)) ?_
                    refine Steps.cons (fun a w hS hI hp => ok_on rfl (does_val (x_move rfl ((hp.get 12 (by rfl) rfl rfl))) rfl)) ?_
                    refine Steps.cons (fun a w hS hI hp => ok_if (d := 30) rfl rfl (by rw [hS.size]; decide) (((hp.get 13 (by rfl) rfl rfl)).trans (bF (congrArg (!·) (decide_eq_true c5)))) (does_val (x_move rfl (hS.get 0 rfl)) rfl)) ?_
                    refine Steps.cons (fun a w hS hI hp => ok_if (d := 30) rfl rfl (by rw [hS.size]; decide) (((hp.get 13 (by rfl) rfl rfl)).trans (bF (congrArg (!·) (decide_eq_true c5)))) (does_val (x_bin rfl ((hp.get 14 (by rfl) rfl rfl)) (rfl) (b_lss _ _ _ _ _ _)) rfl)) ?_
                    refine Steps.cons (fun a w hS hI hp => ok_on rfl (does_val (x_pickF rfl (((hp.get 13 (by rfl) rfl rfl)).trans (bF (congrArg (!·) (decide_eq_true c5)))) ((hp.get 15 (by rfl) rfl rfl))) rfl)) ?_
                    refine Steps.cons (fun a w hS hI hp => ok_on rfl (does_val (x_move rfl ((hp.get 16 (by rfl) rfl rfl))) rfl)) ?_
                    refine Steps.cons (fun a w hS hI hp => ok_if (d := 34) rfl rfl (by rw [hS.size]; decide) (((hp.get 17 (by rfl) rfl rfl)).trans (bF (decide_eq_false c6))) (does_val (x_move rfl (hS.get 0 rfl)) rfl)) ?_
                    refine Steps.cons (fun a w hS hI hp => ok_if (d := 34) rfl rfl (by rw [hS.size]; decide) (((hp.get 17 (by rfl) rfl rfl)).trans (bF (decide_eq_false c6))) (does_val (x_bin rfl ((hp.get 18 (by rfl) rfl rfl)) (rfl) (b_gtr _ _ _ _ _ _)) rfl)) ?_
                    refine Steps.cons (fun a w hS hI hp => ok_on rfl (does_val (x_pickF rfl (((hp.get 17 (by rfl) rfl rfl)).trans (bF (decide_eq_false c6))) ((hp.get 19 (by rfl) rfl rfl))) rfl)) ?_
                    exact Steps.nil
                  clear hS
                  intro at16 w17 hS hI hp
                  have hBw17_w := hI.1
                  have hBw17_w3 := hI.2.1
                  have hBw17_w12 := hI.2.2
                  have hv37 : sl _ 37 = .bool (decide (t10_1 > 400)) := hp 20 (by decide)
                  have hBw17_w17 := Below.refl w17.heap.size w17
                  have hS := hS.cons hv37
                  clear hp hI hv37
                  refine hK14 _ _ ?_
                  clear hK14 K14
                  refine wp_cond_false ((hS.get 0 rfl).trans (bF (decide_eq_false c7))) ?_
                  refine wp_skip ?_
                  refine hK13 _ _ ?_
                  clear hK13 K13
                  refine wp_seq_k (fun K18 hK18 => ?_)
                  refine wp_seq_k (fun K19 hK19 => ?_)
                  refine reg_seq (N := 90) (bs := [(37, .bool (decide (t10_1 > 400))), (5, .int .i64 t10_1), (10, .bool (decide ((l0.length : Int) < 34))), (4, .int .i64 0), (3, .int .i64 0), (2, .pointer (some ⟨g4, 0, none⟩)), (0, .slice A0 l0.length c0)]) (I := fun x => Below w.heap.size w x ∧ Below w3.heap.size w3 x ∧ Below w17.heap.size w17 x) (ps := [IsV (.slice A0 l0.length c0), IsV (.int .i64 (l0.length : Int)), IsV (.int .i64 t10_1), IsV (.bool (decide ((l0.length : Int) < t10_1)))]) (by kernel_rfl) ?_ ?_ rfl hS ⟨hBw17_w, hBw17_w3, hBw17_w17⟩ ?_ ?_
                  · exact fun x y hI hb => ⟨below_step hI.1 hb, below_step hI.2.1 hb, below_step hI.2.2 hb⟩
                  · exact AllStay.cons (Stays.v _) (AllStay.cons (Stays.v _) (AllStay.cons (Stays.v _) (AllStay.cons (Stays.v _) (AllStay.nil))))
                  · refine Steps.cons (fun a w hS hI hp => ok_on rfl (does_val (x_move rfl (hS.get 6 rfl)) rfl)) ?_
                    refine Steps.cons (fun a w hS hI hp => ok_on rfl (does_val (x_len (e := 5) rfl (by kernel_rfl) ((hp.get 0 (by rfl) rfl rfl))) rfl)) ?_
                    refine Steps.cons (fun a w hS hI hp => ok_on rfl (does_val (x_move rfl (hS.get 1 rfl)) rfl)) ?_
                    refine Steps.cons (fun a w hS hI hp => ok_on rfl (does_val (x_bin rfl ((hp.get 1 (by rfl) rfl rfl)) ((hp.get 2 (by rfl) rfl rfl)) (b_lss _ _ _ _ _ _)) rfl)) ?_
                    exact Steps.nil
                  clear hS
                  intro at20 w21 hS hI hp
                  have hBw21_w := hI.1
                  have hBw21_w3 := hI.2.1
                  have hBw21_w17 := hI.2.2
                  have hv42 : sl _ 42 = .bool (decide ((l0.length : Int) < t10_1)) := hp 3 (by decide)
                  have hBw21_w21 := Below.refl w21.heap.size w21
                  have hS := hS.cons hv42
                  clear hp hI hv42
                  refine hK19 _ _ ?_
                  clear hK19 K19
                  refine wp_cond_true ((hS.get 0 rfl).trans (bT (decide_eq_true c8))) ?_
                  refine wp_seq_k (fun K22 hK22 => ?_)
                  refine reg_seq_tail 1 (N := 90) (bs := [(42, .bool (decide ((l0.length : Int) < t10_1))), (37, .bool (decide (t10_1 > 400))), (5, .int .i64 t10_1), (10, .bool (decide ((l0.length : Int) < 34))), (4, .int .i64 0), (3, .int .i64 0), (2, .pointer (some ⟨g4, 0, none⟩)), (0, .slice A0 l0.length c0)]) (I := fun x => Below w.heap.size w x ∧ Below w3.heap.size w3 x ∧ Below w21.heap.size w21 x) (ps := [IsV (.agg #[.int .i64 0, .int .i64 0, .int .i64 0, .int .i64 0, .int .u64 0, .int .i64 0, .int .i64 0, .int .i64 0, .int .i64 0, .int .u64 0, .int .i64 0, .int .i64 0, .int .i64 0, .int .i64 0, .int .i64 0, .int .i64 0, .int .i64 0, .int .u64 0, .int .i64 0, .int .i64 0, .int .i64 0, .int .i64 0, .int .i64 0])]) (by kernel_rfl) ?_ ?_ rfl hS ⟨hBw21_w, hBw21_w3, hBw21_w21⟩ ?_ ?_
                  · exact fun x y hI hb => ⟨below_step hI.1 hb, below_step hI.2.1 hb, below_step hI.2.2 hb⟩
                  · exact AllStay.cons (Stays.v _) (AllStay.nil)
                  · refine Steps.cons (fun a w hS hI hp => ok_on rfl (does_val (x_build (vs := []) rfl (by rw [Array.toList_map]; exact (show [] = _ from rfl)) (by kernel_rfl)) rfl)) ?_
                    exact Steps.nil
                  clear hS
                  intro at23 w24 hS hI hp
                  have hBw24_w := hI.1
                  have hBw24_w3 := hI.2.1
                  have hBw24_w21 := hI.2.2
                  have hv43 : sl _ 43 = .agg #[.int .i64 0, .int .i64 0, .int .i64 0, .int .i64 0, .int .u64 0, .int .i64 0, .int .i64 0, .int .i64 0, .int .i64 0, .int .u64 0, .int .i64 0, .int .i64 0, .int .i64 0, .int .i64 0, .int .i64 0, .int .i64 0, .int .i64 0, .int .u64 0, .int .i64 0, .int .i64 0, .int .i64 0, .int .i64 0, .int .i64 0] := hp 0 (by decide)
                  have hBw24_w24 := Below.refl w24.heap.size w24
                  have hS := hS.cons hv43
                  clear hp hI hv43
                  show wpList _ _ _ [_, _, _] _ _
                  refine list_step rfl (does_storeAll (g := g4) (cs := #[.int .i64 0, .int .i64 0, .int .i64 0, .int .i64 0, .int .u64 0, .int .i64 0, .int .i64 0, .int .i64 0, .int .i64 0, .int .u64 0, .int .i64 0, .int .i64 0, .int .i64 0, .int .i64 0, .int .i64 0, .int .i64 0, .int .i64 0, .int .u64 0, .int .i64 0, .int .i64 0, .int .i64 0, .int .i64 0, .int .i64 0]) rfl (hS.get 7 rfl) (hS.get 0 rfl) ((hBw24_w3.block g4 (blk_lt hbxg4)).trans hbxg4) (by kernel_rfl) (by kernel_rfl) (by kernel_rfl)) ?_
                  rintro vw25 w25 ⟨rfl, hbxw25, hT⟩
                  have hBw25_w := hT.below hBw24_w hgeg4 (hBw24_w).size
                  have hBw25_w25 := Below.refl w25.heap.size w25
                  clear hT
                  refine list_step rfl (R := fun v w' => Below _ _ w' ∧ (IsV (.int .i64 0)) v w') (does_val (x_assign rfl (rfl)) rfl) ?_
                  rintro vw26 w26 ⟨hb, he⟩
                  have hBw26_w := below_step hBw25_w hb
                  have hBw26_w25 := below_step hBw25_w25 hb
                  have hBw26_w26 := Below.refl w26.heap.size w26
                  obtain rfl : vw26 = .int .i64 0 := he
                  replace hS := ((((((((hS.nil).cons (hS.get 8 rfl)).cons (hS.get 7 rfl)).cons (hS.get 5 rfl)).cons (hS.get 4 rfl)).cons (hS.get 3 rfl)).cons (hS.get 2 rfl)).cons (hS.get 1 rfl)).cons (hS.get 0 rfl)
                  replace hS := hS.put (v := .int .i64 0) (d := 3) (by decide) (by rfl)
                  refine list_step rfl (R := fun v w' => Below _ _ w' ∧ (IsV (.int .i64 2)) v w') (does_val (x_assign rfl (rfl)) rfl) ?_
                  rintro vw27 w27 ⟨hb, he⟩
                  have hBw27_w := below_step hBw26_w hb
                  have hBw27_w25 := below_step hBw26_w25 hb
                  have hBw27_w26 := below_step hBw26_w26 hb
                  have hBw27_w27 := Below.refl w27.heap.size w27
                  obtain rfl : vw27 = .int .i64 2 := he
                  replace hS := ((((((((hS.nil).cons (hS.get 8 rfl)).cons (hS.get 7 rfl)).cons (hS.get 5 rfl)).cons (hS.get 4 rfl)).cons (hS.get 3 rfl)).cons (hS.get 2 rfl)).cons (hS.get 1 rfl)).cons (hS.get 0 rfl)
                  replace hS := hS.put (v := .int .i64 2) (d := 4) (by decide) (by rfl)
                  refine wpList_nil ?_
                  refine hK22 _ _ ?_
                  clear hK22 K22
                  refine wp_ret ?_
                  (try simp only [Exit.then, Exit.inBlock])
                  exact bodyPost_ret (v := .tuple #[.agg #[.int .i64 0, .int .i64 0, .int .i64 0, .int .i64 0, .int .u64 0, .int .i64 0, .int .i64 0, .int .i64 0, .int .i64 0, .int .u64 0, .int .i64 0, .int .i64 0, .int .i64 0, .int .i64 0, .int .i64 0, .int .i64 0, .int .i64 0, .int .u64 0, .int .i64 0, .int .i64 0, .int .i64 0, .int .i64 0, .int .i64 0], .int .i64 0, .int .i64 2]) (results_list (rs := [.cell 2 28, .tmp 3, .tmp 4]) rfl (by simp) (Vals.cell g4 28 #[.int .i64 0, .int .i64 0, .int .i64 0, .int .i64 0, .int .u64 0, .int .i64 0, .int .i64 0, .int .i64 0, .int .i64 0, .int .u64 0, .int .i64 0, .int .i64 0, .int .i64 0, .int .i64 0, .int .i64 0, .int .i64 0, .int .i64 0, .int .u64 0, .int .i64 0, .int .i64 0, .int .i64 0, .int .i64 0, .int .i64 0] (0, 0) _ (hS.get 7 rfl) ((hBw27_w25.block g4 (blk_lt hbxw25)).trans hbxw25) Try.underlying28 rfl (by kernel_rfl) (Vals.at (hS.get 1 rfl) (Vals.at (hS.get 0 rfl) .nil)))) hS.nodef ⟨rfl, hBw27_w⟩
                · rw [if_neg c8] at H
                  by_cases c9 : (l0.length : Int) > t10_1
                  · rw [if_pos c9] at H
                    simp only [Option.some.injEq, Prod.mk.injEq] at H
                    obtain ⟨rfl, rfl, rfl, rfl, rfl, rfl, rfl, rfl, rfl, rfl, rfl, rfl, rfl, rfl, rfl, rfl, rfl, rfl, rfl, rfl, rfl, rfl, rfl, rfl, rfl⟩ := H
                    refine calls_of_wp (fn := Try.f19) (by kernel_rfl) rfl ?_
                    have hS := St.enter #[.slice A0 l0.length c0] 90 (by simp) [(0, .slice A0 l0.length c0)] (by simp)
                    have HB0 := Below.refl w.heap.size w
                    refine wp_seq_k (fun K1 hK1 => ?_)
                    refine reg_seq (N := 90) (bs := [(0, .slice A0 l0.length c0)]) (I := fun x => Below w.heap.size w x) (ps := [IsB #[.int .i64 0, .int .i64 0, .int .i64 0, .int .i64 0, .int .u64 0, .int .i64 0, .int .i64 0, .int .i64 0, .int .i64 0, .int .u64 0, .int .i64 0, .int .i64 0, .int .i64 0, .int .i64 0, .int .i64 0, .int .i64 0, .int .i64 0, .int .u64 0, .int .i64 0, .int .i64 0, .int .i64 0, .int .i64 0, .int .i64 0] 28 w.heap.size, IsV (.int .i64 0), IsV (.int .i64 0)]) (by kernel_rfl) ?_ ?_ rfl hS HB0 ?_ ?_
                    · exact fun x y hI hb => below_step hI hb
                    · exact AllStay.cons (Stays.b _ _ _) (AllStay.cons (Stays.v _) (AllStay.cons (Stays.v _) (AllStay.nil)))
                    · refine Steps.cons (fun a w hS hI hp => ok_on rfl (does_var (x_alloc rfl (by kernel_rfl)) (hI).size)) ?_
                      refine Steps.cons (fun a w hS hI hp => ok_on rfl (does_val (x_assign rfl (rfl)) rfl)) ?_
                      refine Steps.cons (fun a w hS hI hp => ok_on rfl (does_val (x_assign rfl (rfl)) rfl)) ?_
                      exact Steps.nil
                    clear hS
                    intro at2 w3 hS hI hp
                    have hBw3_w := hI
                    obtain ⟨g4, hv2, hgeg4, hbxg4⟩ := (show IsB _ 28 _ (sl _ 2) _ from hp 0 (by decide))
                    have hv3 : sl _ 3 = .int .i64 0 := hp 1 (by decide)
                    have hv4 : sl _ 4 = .int .i64 0 := hp 2 (by decide)
                    have hBw3_w3 := Below.refl w3.heap.size w3
                    have hS := hS.cons hv2
                    have hS := hS.cons hv3
                    have hS := hS.cons hv4
                    clear hp hI hv2 hv3 hv4
                    refine hK1 _ _ ?_
                    clear hK1 K1
                    refine wp_seq_k (fun K5 hK5 => ?_)
                    refine wp_seq_k (fun K6 hK6 => ?_)
                    refine reg_seq (N := 90) (bs := [(4, .int .i64 0), (3, .int .i64 0), (2, .pointer (some ⟨g4, 0, none⟩)), (0, .slice A0 l0.length c0)]) (I := fun x => Below w.heap.size w x ∧ Below w3.heap.size w3 x) (ps := [IsV (.slice A0 l0.length c0), IsV (.int .i64 (l0.length : Int)), IsV (.bool (decide ((l0.length : Int) < 34)))]) (by kernel_rfl) ?_ ?_ rfl hS ⟨hBw3_w, hBw3_w3⟩ ?_ ?_
                    · exact fun x y hI hb => ⟨below_step hI.1 hb, below_step hI.2 hb⟩
                    · exact AllStay.cons (Stays.v _) (AllStay.cons (Stays.v _) (AllStay.cons (Stays.v _) (AllStay.nil)))
                    · refine Steps.cons (fun a w hS hI hp => ok_on rfl (does_val (x_move rfl (hS.get 3 rfl)) rfl)) ?_
                      refine Steps.cons (fun a w hS hI hp => ok_on rfl (does_val (x_len (e := 5) rfl (by kernel_rfl) ((hp.get 0 (by rfl) rfl rfl))) rfl)) ?_
                      refine Steps.cons (fun a w hS hI hp => ok_on rfl (does_val (x_bin rfl ((hp.get 1 (by rfl) rfl rfl)) (rfl) (b_lss _ _ _ _ _ _)) rfl)) ?_
                      exact Steps.nil
                    clear hS
                    intro at7 w8 hS hI hp
                    have hBw8_w := hI.1
                    have hBw8_w3 := hI.2
                    have hv10 : sl _ 10 = .bool (decide ((l0.length : Int) < 34)) := hp 2 (by decide)
                    have hBw8_w8 := Below.refl w8.heap.size w8
                    have hS := hS.cons hv10
                    clear hp hI hv10
                    refine hK6 _ _ ?_
                    clear hK6 K6
                    refine wp_cond_false ((hS.get 0 rfl).trans (bF (decide_eq_false c1))) ?_
                    refine wp_skip ?_
                    refine hK5 _ _ ?_
                    clear hK5 K5
                    refine wp_seq_k (fun K9 hK9 => ?_)
                    refine reg_seq (N := 90) (bs := [(10, .bool (decide ((l0.length : Int) < 34))), (4, .int .i64 0), (3, .int .i64 0), (2, .pointer (some ⟨g4, 0, none⟩)), (0, .slice A0 l0.length c0)]) (I := fun x => Below w.heap.size w x ∧ Below w3.heap.size w3 x ∧ Below w8.heap.size w8 x) (ps := [IsV (.slice A0 l0.length c0), IsV (.tuple #[.int .i64 t10_1, .bool t10_2]), IsV (.tuple #[.int .i64 t10_1, .bool t10_2]), IsV (.int .i64 t10_1), IsV (.bool t10_2), IsV (.int .i64 t10_1), IsV (.bool t10_2)]) (by kernel_rfl) ?_ ?_ rfl hS ⟨hBw8_w, hBw8_w3, hBw8_w8⟩ ?_ ?_
                    · exact fun x y hI hb => ⟨below_step hI.1 hb, below_step hI.2.1 hb, below_step hI.2.2 hb⟩
                    · exact AllStay.cons (Stays.v _) (AllStay.cons (Stays.v _) (AllStay.cons (Stays.v _) (AllStay.cons (Stays.v _) (AllStay.cons (Stays.v _) (AllStay.cons (Stays.v _) (AllStay.cons (Stays.v _) (AllStay.nil)))))))
                    · refine Steps.cons (fun a w hS hI hp => ok_on rfl (does_val (x_move rfl (hS.get 4 rfl)) rfl)) ?_
                      refine Steps.cons (fun a w hS hI hp => ok_on rfl (does_call (by kernel_rfl) (ar3 ((hp.get 0 (by rfl) rfl rfl)) (rfl) (rfl)) ((carillonref01_Get.calls k _ _ l0 2 2 t10_1 t10_2 _ (Kd.C_below HR0 hI.1) HC0 At10).mono fun _ _ h => ⟨_, h.1, h.2.below, rfl⟩))) ?_
                      refine Steps.cons (fun a w hS hI hp => ok_on rfl (does_val (x_move rfl ((hp.get 1 (by rfl) rfl rfl))) rfl)) ?_
                      refine Steps.cons (fun a w hS hI hp => ok_on rfl (does_val (x_extract rfl ((hp.get 2 (by rfl) rfl rfl)) rfl) rfl)) ?_
                      refine Steps.cons (fun a w hS hI hp => ok_on rfl (does_val (x_extract rfl ((hp.get 2 (by rfl) rfl rfl)) rfl) rfl)) ?_
                      refine Steps.cons (fun a w hS hI hp => ok_on rfl (does_val (x_assign rfl ((hp.get 3 (by rfl) rfl rfl))) rfl)) ?_
                      refine Steps.cons (fun a w hS hI hp => ok_on rfl (does_val (x_assign rfl ((hp.get 4 (by rfl) rfl rfl))) rfl)) ?_
                      exact Steps.nil
                    clear hS
                    intro at11 w12 hS hI hp
                    have hBw12_w := hI.1
                    have hBw12_w3 := hI.2.1
                    have hBw12_w8 := hI.2.2
                    have hv5 : sl _ 5 = .int .i64 t10_1 := hp 5 (by decide)
                    have hBw12_w12 := Below.refl w12.heap.size w12
                    have hS := hS.cons hv5
                    clear hp hI hv5
                    refine hK9 _ _ ?_
                    clear hK9 K9
                    refine wp_seq_k (fun K13 hK13 => ?_)
                    refine wp_seq_k (fun K14 hK14 => ?_)
                    refine reg_seq (N := 90) (bs := [(5, .int .i64 t10_1), (10, .bool (decide ((l0.length : Int) < 34))), (4, .int .i64 0), (3, .int .i64 0), (2, .pointer (some ⟨g4, 0, none⟩)), (0, .slice A0 l0.length c0)]) (I := fun x => Below w.heap.size w x ∧ Below w3.heap.size w3 x ∧ Below w12.heap.size w12 x) (ps := [IsV (.slice A0 l0.length c0), IsA (.int .u8 (rd l0 0)), IsV (.int .u8 (rd l0 0)), IsV (.int .i64 (wrap64 (rd l0 0))), IsV (.bool t15), IsV (.bool (!t15)), IsV (.bool (!t15)), IsV (.slice A0 l0.length c0), IsA (.int .u8 (rd l0 1)), IsV (.int .u8 (rd l0 1)), IsV (.int .u8 (Int.tmod (rd l0 1) 16)), IsV (.bool (!decide ((Int.tmod (rd l0 1) 16) = 2))), IsV (.bool (!decide ((Int.tmod (rd l0 1) 16) = 2))), IsV (.bool (!decide ((Int.tmod (rd l0 1) 16) = 2))), IsV (.int .i64 t10_1), IsV (.bool (decide (t10_1 < 34))), IsV (.bool (decide (t10_1 < 34))), IsV (.bool (decide (t10_1 < 34))), IsV (.int .i64 t10_1), IsV (.bool (decide (t10_1 > 400))), IsV (.bool (decide (t10_1 > 400)))]) (by kernel_rfl) ?_ ?_ rfl hS ⟨hBw12_w, hBw12_w3, hBw12_w12⟩ ?_ ?_
                    · exact fun x y hI hb => ⟨below_step hI.1 hb, below_step hI.2.1 hb, below_step hI.2.2 hb⟩
                    · exact AllStay.cons (Stays.v _) (AllStay.cons (Stays.a _) (AllStay.cons (Stays.v _) (AllStay.cons (Stays.v _) (AllStay.cons (Stays.v _) (AllStay.cons (Stays.v _) (AllStay.cons (Stays.v _) (AllStay.cons (Stays.v _) (AllStay.cons (Stays.a _) (AllStay.cons (Stays.v _) (AllStay.cons (Stays.v _) (AllStay.cons (Stays.v _) (AllStay.cons (Stays.v _) (AllStay.cons (Stays.v _) (AllStay.cons (Stays.v _) (AllStay.cons (Stays.v _) (AllStay.cons (Stays.v _) (AllStay.cons (Stays.v _) (AllStay.cons (Stays.v _) (AllStay.cons (Stays.v _) (AllStay.cons (Stays.v _) (AllStay.nil)))))))))))))))))))))
                    · refine Steps.cons (fun a w hS hI hp => ok_on rfl (does_val (x_move rfl (hS.get 5 rfl)) rfl)) ?_
                      refine Steps.cons (fun a w hS hI hp => ok_on rfl (does_index (e := 5) (xs := l0) rfl ((hp.get 0 (by rfl) rfl rfl)) (rfl) (by kernel_rfl) (by kernel_rfl) (by decide) c2 c2 ((Kd.C_below HR0 hI.1)))) ?_
                      refine Steps.cons (fun a w hS hI hp => ok_on rfl (((hp.get 1 (by rfl) rfl rfl)).elim fun _ h_ => does_val (x_load1 (d := .int .u8) rfl h_.1 (by kernel_rfl) rfl h_.2.2) rfl)) ?_
                      refine Steps.cons (fun a w hS hI hp => ok_on rfl (does_val ((i64_w (rd l0 0)) ▸ x_convI rfl (by kernel_rfl) (by kernel_rfl) ((hp.get 2 (by rfl) rfl rfl))) rfl)) ?_
                      refine Steps.cons (fun a w hS hI hp => ok_on rfl (does_call (by kernel_rfl) (ar1 ((hp.get 3 (by rfl) rfl rfl))) ((carillonref06_Known.calls (wrap64 (rd l0 0)) t15 _  At15).mono fun _ _ h => ⟨_, h.1, h.2.below, rfl⟩))) ?_
                      refine Steps.cons (fun a w hS hI hp => ok_on rfl (does_val (x_not rfl ((hp.get 4 (by rfl) rfl rfl))) rfl)) ?_
                      refine Steps.cons (fun a w hS hI hp => ok_on rfl (does_val (x_move rfl ((hp.get 5 (by rfl) rfl rfl))) rfl)) ?_
                      refine Steps.cons (fun a w hS hI hp => ok_if (d := 23) rfl rfl (by rw [hS.size]; decide) (((hp.get 6 (by rfl) rfl rfl)).trans (bF (congrArg (!·) c3))) (does_val (x_move rfl (hS.get 5 rfl)) rfl)) ?_
                      refine Steps.cons (fun a w hS hI hp => ok_if (d := 23) rfl rfl (by rw [hS.size]; decide) (((hp.get 6 (by rfl) rfl rfl)).trans (bF (congrArg (!·) c3))) (does_index (e := 5) (xs := l0) rfl ((hp.get 7 (by rfl) rfl rfl)) (rfl) (by kernel_rfl) (by kernel_rfl) (by decide) c4 c4 ((Kd.C_below HR0 hI.1)))) ?_
                      refine Steps.cons (fun a w hS hI hp => ok_if (d := 23) rfl rfl (by rw [hS.size]; decide) (((hp.get 6 (by rfl) rfl rfl)).trans (bF (congrArg (!·) c3))) (((hp.get 8 (by rfl) rfl rfl)).elim fun _ h_ => does_val (x_load1 (d := .int .u8) rfl h_.1 (by kernel_rfl) rfl h_.2.2) rfl)) ?_
                      refine Steps.cons (fun a w hS hI hp => ok_if (d := 23) rfl rfl (by rw [hS.size]; decide) (((hp.get 6 (by rfl) rfl rfl)).trans (bF (congrArg (!·) c3))) (does_val (x_bin rfl ((hp.get 9 (by rfl) rfl rfl)) (rfl) (b_rem _ _ _ _ _ _ (by decide))) rfl)) ?_
                      refine Steps.cons (fun a w hS hI hp => ok_if (d := 23) rfl rfl (by rw [hS.size]; decide) (((hp.get 6 (by rfl) rfl rfl)).trans (bF (congrArg (!·) c3))) (does_val (x_bin rfl ((hp.get 10 (by rfl) rfl rfl)) (rfl) (b_neq _ _ _ _ _ _)) rfl)) ?_
                      refine Steps.cons (fun a w hS hI hp => ok_on rfl (does_val (x_pickF rfl (((hp.get 6 (by rfl) rfl rfl)).trans (bF (congrArg (!·) c3))) ((hp.get 11 (by rfl) rfl rfl))) rfl)) ?_
                      refine Steps.cons (fun a w hS hI hp => ok_on rfl (does_val (x_move rfl ((hp.get 12 (by rfl) rfl rfl))) rfl)) ?_
                      refine Steps.cons (fun a w hS hI hp => ok_if (d := 30) rfl rfl (by rw [hS.size]; decide) (((hp.get 13 (by rfl) rfl rfl)).trans (bF (congrArg (!·) (decide_eq_true c5)))) (does_val (x_move rfl (hS.get 0 rfl)) rfl)) ?_
                      refine Steps.cons (fun a w hS hI hp => ok_if (d := 30) rfl rfl (by rw [hS.size]; decide) (((hp.get 13 (by rfl) rfl rfl)).trans (bF (congrArg (!·) (decide_eq_true c5)))) (does_val (x_bin rfl ((hp.get 14 (by rfl) rfl rfl)) (rfl) (b_lss _ _ _ _ _ _)) rfl)) ?_
                      refine Steps.cons (fun a w hS hI hp => ok_on rfl (does_val (x_pickF rfl (((hp.get 13 (by rfl) rfl rfl)).trans (bF (congrArg (!·) (decide_eq_true c5)))) ((hp.get 15 (by rfl) rfl rfl))) rfl)) ?_
                      refine Steps.cons (fun a w hS hI hp => ok_on rfl (does_val (x_move rfl ((hp.get 16 (by rfl) rfl rfl))) rfl)) ?_
                      refine Steps.cons (fun a w hS hI hp => ok_if (d := 34) rfl rfl (by rw [hS.size]; decide) (((hp.get 17 (by rfl) rfl rfl)).trans (bF (decide_eq_false c6))) (does_val (x_move rfl (hS.get 0 rfl)) rfl)) ?_
                      refine Steps.cons (fun a w hS hI hp => ok_if (d := 34) rfl rfl (by rw [hS.size]; decide) (((hp.get 17 (by rfl) rfl rfl)).trans (bF (decide_eq_false c6))) (does_val (x_bin rfl ((hp.get 18 (by rfl) rfl rfl)) (rfl) (b_gtr _ _ _ _ _ _)) rfl)) ?_
                      refine Steps.cons (fun a w hS hI hp => ok_on rfl (does_val (x_pickF rfl (((hp.get 17 (by rfl) rfl rfl)).trans (bF (decide_eq_false c6))) ((hp.get 19 (by rfl) rfl rfl))) rfl)) ?_
                      exact Steps.nil
                    clear hS
                    intro at16 w17 hS hI hp
                    have hBw17_w := hI.1
                    have hBw17_w3 := hI.2.1
                    have hBw17_w12 := hI.2.2
                    have hv37 : sl _ 37 = .bool (decide (t10_1 > 400)) := hp 20 (by decide)
                    have hBw17_w17 := Below.refl w17.heap.size w17
                    have hS := hS.cons hv37
                    clear hp hI hv37
                    refine hK14 _ _ ?_
                    clear hK14 K14
                    refine wp_cond_false ((hS.get 0 rfl).trans (bF (decide_eq_false c7))) ?_
                    refine wp_skip ?_
                    refine hK13 _ _ ?_
                    clear hK13 K13
                    refine wp_seq_k (fun K18 hK18 => ?_)
                    refine wp_seq_k (fun K19 hK19 => ?_)
                    refine reg_seq (N := 90) (bs := [(37, .bool (decide (t10_1 > 400))), (5, .int .i64 t10_1), (10, .bool (decide ((l0.length : Int) < 34))), (4, .int .i64 0), (3, .int .i64 0), (2, .pointer (some ⟨g4, 0, none⟩)), (0, .slice A0 l0.length c0)]) (I := fun x => Below w.heap.size w x ∧ Below w3.heap.size w3 x ∧ Below w17.heap.size w17 x) (ps := [IsV (.slice A0 l0.length c0), IsV (.int .i64 (l0.length : Int)), IsV (.int .i64 t10_1), IsV (.bool (decide ((l0.length : Int) < t10_1)))]) (by kernel_rfl) ?_ ?_ rfl hS ⟨hBw17_w, hBw17_w3, hBw17_w17⟩ ?_ ?_
                    · exact fun x y hI hb => ⟨below_step hI.1 hb, below_step hI.2.1 hb, below_step hI.2.2 hb⟩
                    · exact AllStay.cons (Stays.v _) (AllStay.cons (Stays.v _) (AllStay.cons (Stays.v _) (AllStay.cons (Stays.v _) (AllStay.nil))))
                    · refine Steps.cons (fun a w hS hI hp => ok_on rfl (does_val (x_move rfl (hS.get 6 rfl)) rfl)) ?_
                      refine Steps.cons (fun a w hS hI hp => ok_on rfl (does_val (x_len (e := 5) rfl (by kernel_rfl) ((hp.get 0 (by rfl) rfl rfl))) rfl)) ?_
                      refine Steps.cons (fun a w hS hI hp => ok_on rfl (does_val (x_move rfl (hS.get 1 rfl)) rfl)) ?_
                      refine Steps.cons (fun a w hS hI hp => ok_on rfl (does_val (x_bin rfl ((hp.get 1 (by rfl) rfl rfl)) ((hp.get 2 (by rfl) rfl rfl)) (b_lss _ _ _ _ _ _)) rfl)) ?_
                      exact Steps.nil
                    clear hS
                    intro at20 w21 hS hI hp
                    have hBw21_w := hI.1
                    have hBw21_w3 := hI.2.1
                    have hBw21_w17 := hI.2.2
                    have hv42 : sl _ 42 = .bool (decide ((l0.length : Int) < t10_1)) := hp 3 (by decide)
                    have hBw21_w21 := Below.refl w21.heap.size w21
                    have hS := hS.cons hv42
                    clear hp hI hv42
                    refine hK19 _ _ ?_
                    clear hK19 K19
                    refine wp_cond_false ((hS.get 0 rfl).trans (bF (decide_eq_false c8))) ?_
                    refine wp_skip ?_
                    refine hK18 _ _ ?_
                    clear hK18 K18
                    refine wp_seq_k (fun K22 hK22 => ?_)
                    refine wp_seq_k (fun K23 hK23 => ?_)
                    refine reg_seq (N := 90) (bs := [(42, .bool (decide ((l0.length : Int) < t10_1))), (37, .bool (decide (t10_1 > 400))), (5, .int .i64 t10_1), (10, .bool (decide ((l0.length : Int) < 34))), (4, .int .i64 0), (3, .int .i64 0), (2, .pointer (some ⟨g4, 0, none⟩)), (0, .slice A0 l0.length c0)]) (I := fun x => Below w.heap.size w x ∧ Below w3.heap.size w3 x ∧ Below w21.heap.size w21 x) (ps := [IsV (.slice A0 l0.length c0), IsV (.int .i64 (l0.length : Int)), IsV (.int .i64 t10_1), IsV (.bool (decide ((l0.length : Int) > t10_1)))]) (by kernel_rfl) ?_ ?_ rfl hS ⟨hBw21_w, hBw21_w3, hBw21_w21⟩ ?_ ?_
                    · exact fun x y hI hb => ⟨below_step hI.1 hb, below_step hI.2.1 hb, below_step hI.2.2 hb⟩
                    · exact AllStay.cons (Stays.v _) (AllStay.cons (Stays.v _) (AllStay.cons (Stays.v _) (AllStay.cons (Stays.v _) (AllStay.nil))))
                    · refine Steps.cons (fun a w hS hI hp => ok_on rfl (does_val (x_move rfl (hS.get 7 rfl)) rfl)) ?_
                      refine Steps.cons (fun a w hS hI hp => ok_on rfl (does_val (x_len (e := 5) rfl (by kernel_rfl) ((hp.get 0 (by rfl) rfl rfl))) rfl)) ?_
                      refine Steps.cons (fun a w hS hI hp => ok_on rfl (does_val (x_move rfl (hS.get 2 rfl)) rfl)) ?_
                      refine Steps.cons (fun a w hS hI hp => ok_on rfl (does_val (x_bin rfl ((hp.get 1 (by rfl) rfl rfl)) ((hp.get 2 (by rfl) rfl rfl)) (b_gtr _ _ _ _ _ _)) rfl)) ?_
                      exact Steps.nil
                    clear hS
                    intro at24 w25 hS hI hp
                    have hBw25_w := hI.1
                    have hBw25_w3 := hI.2.1
                    have hBw25_w21 := hI.2.2
                    have hv47 : sl _ 47 = .bool (decide ((l0.length : Int) > t10_1)) := hp 3 (by decide)
                    have hBw25_w25 := Below.refl w25.heap.size w25
                    have hS := hS.cons hv47
                    clear hp hI hv47
                    refine hK23 _ _ ?_
                    clear hK23 K23
                    refine wp_cond_true ((hS.get 0 rfl).trans (bT (decide_eq_true c9))) ?_
                    refine wp_seq_k (fun K26 hK26 => ?_)
                    refine reg_seq_tail 1 (N := 90) (bs := [(47, .bool (decide ((l0.length : Int) > t10_1))), (42, .bool (decide ((l0.length : Int) < t10_1))), (37, .bool (decide (t10_1 > 400))), (5, .int .i64 t10_1), (10, .bool (decide ((l0.length : Int) < 34))), (4, .int .i64 0), (3, .int .i64 0), (2, .pointer (some ⟨g4, 0, none⟩)), (0, .slice A0 l0.length c0)]) (I := fun x => Below w.heap.size w x ∧ Below w3.heap.size w3 x ∧ Below w25.heap.size w25 x) (ps := [IsV (.agg #[.int .i64 0, .int .i64 0, .int .i64 0, .int .i64 0, .int .u64 0, .int .i64 0, .int .i64 0, .int .i64 0, .int .i64 0, .int .u64 0, .int .i64 0, .int .i64 0, .int .i64 0, .int .i64 0, .int .i64 0, .int .i64 0, .int .i64 0, .int .u64 0, .int .i64 0, .int .i64 0, .int .i64 0, .int .i64 0, .int .i64 0])]) (by kernel_rfl) ?_ ?_ rfl hS ⟨hBw25_w, hBw25_w3, hBw25_w25⟩ ?_ ?_
                    · exact fun x y hI hb => ⟨below_step hI.1 hb, below_step hI.2.1 hb, below_step hI.2.2 hb⟩
                    · exact AllStay.cons (Stays.v _) (AllStay.nil)
                    · refine Steps.cons (fun a w hS hI hp => ok_on rfl (does_val (x_build (vs := []) rfl (by rw [Array.toList_map]; exact (show [] = _ from rfl)) (by kernel_rfl)) rfl)) ?_
                      exact Steps.nil
                    clear hS
                    intro at27 w28 hS hI hp
                    have hBw28_w := hI.1
                    have hBw28_w3 := hI.2.1
                    have hBw28_w25 := hI.2.2
                    have hv48 : sl _ 48 = .agg #[.int .i64 0, .int .i64 0, .int .i64 0, .int .i64 0, .int .u64 0, .int .i64 0, .int .i64 0, .int .i64 0, .int .i64 0, .int .u64 0, .int .i64 0, .int .i64 0, .int .i64 0, .int .i64 0, .int .i64 0, .int .i64 0, .int .i64 0, .int .u64 0, .int .i64 0, .int .i64 0, .int .i64 0, .int .i64 0, .int .i64 0] := hp 0 (by decide)
                    have hBw28_w28 := Below.refl w28.heap.size w28
                    have hS := hS.cons hv48
                    clear hp hI hv48
                    show wpList _ _ _ [_, _, _] _ _
                    refine list_step rfl (does_storeAll (g := g4) (cs := #[.int .i64 0, .int .i64 0, .int .i64 0, .int .i64 0, .int .u64 0, .int .i64 0, .int .i64 0, .int .i64 0, .int .i64 0, .int .u64 0, .int .i64 0, .int .i64 0, .int .i64 0, .int .i64 0, .int .i64 0, .int .i64 0, .int .i64 0, .int .u64 0, .int .i64 0, .int .i64 0, .int .i64 0, .int .i64 0, .int .i64 0]) rfl (hS.get 8 rfl) (hS.get 0 rfl) ((hBw28_w3.block g4 (blk_lt hbxg4)).trans hbxg4) (by kernel_rfl) (by kernel_rfl) (by kernel_rfl)) ?_
                    rintro vw29 w29 ⟨rfl, hbxw29, hT⟩
                    have hBw29_w := hT.below hBw28_w hgeg4 (hBw28_w).size
                    have hBw29_w29 := Below.refl w29.heap.size w29
                    clear hT
                    refine list_step rfl (R := fun v w' => Below _ _ w' ∧ (IsV (.int .i64 0)) v w') (does_val (x_assign rfl (rfl)) rfl) ?_
                    rintro vw30 w30 ⟨hb, he⟩
                    have hBw30_w := below_step hBw29_w hb
                    have hBw30_w29 := below_step hBw29_w29 hb
                    have hBw30_w30 := Below.refl w30.heap.size w30
                    obtain rfl : vw30 = .int .i64 0 := he
                    replace hS := (((((((((hS.nil).cons (hS.get 9 rfl)).cons (hS.get 8 rfl)).cons (hS.get 6 rfl)).cons (hS.get 5 rfl)).cons (hS.get 4 rfl)).cons (hS.get 3 rfl)).cons (hS.get 2 rfl)).cons (hS.get 1 rfl)).cons (hS.get 0 rfl)
                    replace hS := hS.put (v := .int .i64 0) (d := 3) (by decide) (by rfl)
                    refine list_step rfl (R := fun v w' => Below _ _ w' ∧ (IsV (.int .i64 3)) v w') (does_val (x_assign rfl (rfl)) rfl) ?_
                    rintro vw31 w31 ⟨hb, he⟩
                    have hBw31_w := below_step hBw30_w hb
                    have hBw31_w29 := below_step hBw30_w29 hb
                    have hBw31_w30 := below_step hBw30_w30 hb
                    have hBw31_w31 := Below.refl w31.heap.size w31
                    obtain rfl : vw31 = .int .i64 3 := he
                    replace hS := (((((((((hS.nil).cons (hS.get 9 rfl)).cons (hS.get 8 rfl)).cons (hS.get 6 rfl)).cons (hS.get 5 rfl)).cons (hS.get 4 rfl)).cons (hS.get 3 rfl)).cons (hS.get 2 rfl)).cons (hS.get 1 rfl)).cons (hS.get 0 rfl)
                    replace hS := hS.put (v := .int .i64 3) (d := 4) (by decide) (by rfl)
                    refine wpList_nil ?_
                    refine hK26 _ _ ?_
                    clear hK26 K26
                    refine wp_ret ?_
                    (try simp only [Exit.then, Exit.inBlock])
                    exact bodyPost_ret (v := .tuple #[.agg #[.int .i64 0, .int .i64 0, .int .i64 0, .int .i64 0, .int .u64 0, .int .i64 0, .int .i64 0, .int .i64 0, .int .i64 0, .int .u64 0, .int .i64 0, .int .i64 0, .int .i64 0, .int .i64 0, .int .i64 0, .int .i64 0, .int .i64 0, .int .u64 0, .int .i64 0, .int .i64 0, .int .i64 0, .int .i64 0, .int .i64 0], .int .i64 0, .int .i64 3]) (results_list (rs := [.cell 2 28, .tmp 3, .tmp 4]) rfl (by simp) (Vals.cell g4 28 #[.int .i64 0, .int .i64 0, .int .i64 0, .int .i64 0, .int .u64 0, .int .i64 0, .int .i64 0, .int .i64 0, .int .i64 0, .int .u64 0, .int .i64 0, .int .i64 0, .int .i64 0, .int .i64 0, .int .i64 0, .int .i64 0, .int .i64 0, .int .u64 0, .int .i64 0, .int .i64 0, .int .i64 0, .int .i64 0, .int .i64 0] (0, 0) _ (hS.get 8 rfl) ((hBw31_w29.block g4 (blk_lt hbxw29)).trans hbxw29) Try.underlying28 rfl (by kernel_rfl) (Vals.at (hS.get 1 rfl) (Vals.at (hS.get 0 rfl) .nil)))) hS.nodef ⟨rfl, hBw31_w⟩
                  · rw [if_neg c9] at H
                    by_cases c10 : 4 < (l0.length : Int)
                    · rw [if_pos c10] at H
                      obtain ⟨t32, At32, H⟩ := Option.bind_eq_some_iff.mp H
                      obtain ⟨t32_1, t32_2⟩ := t32
                      (try dsimp only at H)
                      obtain ⟨t37, At37, H⟩ := Option.bind_eq_some_iff.mp H
                      obtain ⟨t37_1, t37_2⟩ := t37
                      (try dsimp only at H)
                      obtain ⟨t42, At42, H⟩ := Option.bind_eq_some_iff.mp H
                      obtain ⟨t42_1, t42_2, t42_3⟩ := t42
                      (try dsimp only at H)
                      obtain ⟨t47, At47, H⟩ := Option.bind_eq_some_iff.mp H
                      obtain ⟨t47_1, t47_2⟩ := t47
                      (try dsimp only at H)
                      obtain ⟨t52, At52, H⟩ := Option.bind_eq_some_iff.mp H
                      obtain ⟨t52_1, t52_2⟩ := t52
                      (try dsimp only at H)
                      simp only [Option.some.injEq, Prod.mk.injEq] at H
                      obtain ⟨rfl, rfl, rfl, rfl, rfl, rfl, rfl, rfl, rfl, rfl, rfl, rfl, rfl, rfl, rfl, rfl, rfl, rfl, rfl, rfl, rfl, rfl, rfl, rfl, rfl⟩ := H
                      refine calls_of_wp (fn := Try.f19) (by kernel_rfl) rfl ?_
                      have hS := St.enter #[.slice A0 l0.length c0] 90 (by simp) [(0, .slice A0 l0.length c0)] (by simp)
                      have HB0 := Below.refl w.heap.size w
                      refine wp_seq_k (fun K1 hK1 => ?_)
                      refine reg_seq (N := 90) (bs := [(0, .slice A0 l0.length c0)]) (I := fun x => Below w.heap.size w x) (ps := [IsB #[.int .i64 0, .int .i64 0, .int .i64 0, .int .i64 0, .int .u64 0, .int .i64 0, .int .i64 0, .int .i64 0, .int .i64 0, .int .u64 0, .int .i64 0, .int .i64 0, .int .i64 0, .int .i64 0, .int .i64 0, .int .i64 0, .int .i64 0, .int .u64 0, .int .i64 0, .int .i64 0, .int .i64 0, .int .i64 0, .int .i64 0] 28 w.heap.size, IsV (.int .i64 0), IsV (.int .i64 0)]) (by kernel_rfl) ?_ ?_ rfl hS HB0 ?_ ?_
                      · exact fun x y hI hb => below_step hI hb
                      · exact AllStay.cons (Stays.b _ _ _) (AllStay.cons (Stays.v _) (AllStay.cons (Stays.v _) (AllStay.nil)))
                      · refine Steps.cons (fun a w hS hI hp => ok_on rfl (does_var (x_alloc rfl (by kernel_rfl)) (hI).size)) ?_
                        refine Steps.cons (fun a w hS hI hp => ok_on rfl (does_val (x_assign rfl (rfl)) rfl)) ?_
                        refine Steps.cons (fun a w hS hI hp => ok_on rfl (does_val (x_assign rfl (rfl)) rfl)) ?_
                        exact Steps.nil
                      clear hS
                      intro at2 w3 hS hI hp
                      have hBw3_w := hI
                      obtain ⟨g4, hv2, hgeg4, hbxg4⟩ := (show IsB _ 28 _ (sl _ 2) _ from hp 0 (by decide))
                      have hv3 : sl _ 3 = .int .i64 0 := hp 1 (by decide)
                      have hv4 : sl _ 4 = .int .i64 0 := hp 2 (by decide)
                      have hBw3_w3 := Below.refl w3.heap.size w3
                      have hS := hS.cons hv2
                      have hS := hS.cons hv3
                      have hS := hS.cons hv4
                      clear hp hI hv2 hv3 hv4
                      refine hK1 _ _ ?_
                      clear hK1 K1
                      refine wp_seq_k (fun K5 hK5 => ?_)
                      refine wp_seq_k (fun K6 hK6 => ?_)
                      refine reg_seq (N := 90) (bs := [(4, .int .i64 0), (3, .int .i64 0), (2, .pointer (some ⟨g4, 0, none⟩)), (0, .slice A0 l0.length c0)]) (I := fun x => Below w.heap.size w x ∧ Below w3.heap.size w3 x) (ps := [IsV (.slice A0 l0.length c0), IsV (.int .i64 (l0.length : Int)), IsV (.bool (decide ((l0.length : Int) < 34)))]) (by kernel_rfl) ?_ ?_ rfl hS ⟨hBw3_w, hBw3_w3⟩ ?_ ?_
                      · exact fun x y hI hb => ⟨below_step hI.1 hb, below_step hI.2 hb⟩
                      · exact AllStay.cons (Stays.v _) (AllStay.cons (Stays.v _) (AllStay.cons (Stays.v _) (AllStay.nil)))
                      · refine Steps.cons (fun a w hS hI hp => ok_on rfl (does_val (x_move rfl (hS.get 3 rfl)) rfl)) ?_
                        refine Steps.cons (fun a w hS hI hp => ok_on rfl (does_val (x_len (e := 5) rfl (by kernel_rfl) ((hp.get 0 (by rfl) rfl rfl))) rfl)) ?_
                        refine Steps.cons (fun a w hS hI hp => ok_on rfl (does_val (x_bin rfl ((hp.get 1 (by rfl) rfl rfl)) (rfl) (b_lss _ _ _ _ _ _)) rfl)) ?_
                        exact Steps.nil
                      clear hS
                      intro at7 w8 hS hI hp
                      have hBw8_w := hI.1
                      have hBw8_w3 := hI.2
                      have hv10 : sl _ 10 = .bool (decide ((l0.length : Int) < 34)) := hp 2 (by decide)
                      have hBw8_w8 := Below.refl w8.heap.size w8
                      have hS := hS.cons hv10
                      clear hp hI hv10
                      refine hK6 _ _ ?_
                      clear hK6 K6
                      refine wp_cond_false ((hS.get 0 rfl).trans (bF (decide_eq_false c1))) ?_
                      refine wp_skip ?_
                      refine hK5 _ _ ?_
                      clear hK5 K5
                      refine wp_seq_k (fun K9 hK9 => ?_)
                      refine reg_seq (N := 90) (bs := [(10, .bool (decide ((l0.length : Int) < 34))), (4, .int .i64 0), (3, .int .i64 0), (2, .pointer (some ⟨g4, 0, none⟩)), (0, .slice A0 l0.length c0)]) (I := fun x => Below w.heap.size w x ∧ Below w3.heap.size w3 x ∧ Below w8.heap.size w8 x) (ps := [IsV (.slice A0 l0.length c0), IsV (.tuple #[.int .i64 t10_1, .bool t10_2]), IsV (.tuple #[.int .i64 t10_1, .bool t10_2]), IsV (.int .i64 t10_1), IsV (.bool t10_2), IsV (.int .i64 t10_1), IsV (.bool t10_2)]) (by kernel_rfl) ?_ ?_ rfl hS ⟨hBw8_w, hBw8_w3, hBw8_w8⟩ ?_ ?_
                      · exact fun x y hI hb => ⟨below_step hI.1 hb, below_step hI.2.1 hb, below_step hI.2.2 hb⟩
                      · exact AllStay.cons (Stays.v _) (AllStay.cons (Stays.v _) (AllStay.cons (Stays.v _) (AllStay.cons (Stays.v _) (AllStay.cons (Stays.v _) (AllStay.cons (Stays.v _) (AllStay.cons (Stays.v _) (AllStay.nil)))))))
                      · refine Steps.cons (fun a w hS hI hp => ok_on rfl (does_val (x_move rfl (hS.get 4 rfl)) rfl)) ?_
                        refine Steps.cons (fun a w hS hI hp => ok_on rfl (does_call (by kernel_rfl) (ar3 ((hp.get 0 (by rfl) rfl rfl)) (rfl) (rfl)) ((carillonref01_Get.calls k _ _ l0 2 2 t10_1 t10_2 _ (Kd.C_below HR0 hI.1) HC0 At10).mono fun _ _ h => ⟨_, h.1, h.2.below, rfl⟩))) ?_
                        refine Steps.cons (fun a w hS hI hp => ok_on rfl (does_val (x_move rfl ((hp.get 1 (by rfl) rfl rfl))) rfl)) ?_
                        refine Steps.cons (fun a w hS hI hp => ok_on rfl (does_val (x_extract rfl ((hp.get 2 (by rfl) rfl rfl)) rfl) rfl)) ?_
                        refine Steps.cons (fun a w hS hI hp => ok_on rfl (does_val (x_extract rfl ((hp.get 2 (by rfl) rfl rfl)) rfl) rfl)) ?_
                        refine Steps.cons (fun a w hS hI hp => ok_on rfl (does_val (x_assign rfl ((hp.get 3 (by rfl) rfl rfl))) rfl)) ?_
                        refine Steps.cons (fun a w hS hI hp => ok_on rfl (does_val (x_assign rfl ((hp.get 4 (by rfl) rfl rfl))) rfl)) ?_
                        exact Steps.nil
                      clear hS
                      intro at11 w12 hS hI hp
                      have hBw12_w := hI.1
                      have hBw12_w3 := hI.2.1
                      have hBw12_w8 := hI.2.2
                      have hv5 : sl _ 5 = .int .i64 t10_1 := hp 5 (by decide)
                      have hBw12_w12 := Below.refl w12.heap.size w12
                      have hS := hS.cons hv5
                      clear hp hI hv5
                      refine hK9 _ _ ?_
                      clear hK9 K9
                      refine wp_seq_k (fun K13 hK13 => ?_)
                      refine wp_seq_k (fun K14 hK14 => ?_)
                      refine reg_seq (N := 90) (bs := [(5, .int .i64 t10_1), (10, .bool (decide ((l0.length : Int) < 34))), (4, .int .i64 0), (3, .int .i64 0), (2, .pointer (some ⟨g4, 0, none⟩)), (0, .slice A0 l0.length c0)]) (I := fun x => Below w.heap.size w x ∧ Below w3.heap.size w3 x ∧ Below w12.heap.size w12 x) (ps := [IsV (.slice A0 l0.length c0), IsA (.int .u8 (rd l0 0)), IsV (.int .u8 (rd l0 0)), IsV (.int .i64 (wrap64 (rd l0 0))), IsV (.bool t15), IsV (.bool (!t15)), IsV (.bool (!t15)), IsV (.slice A0 l0.length c0), IsA (.int .u8 (rd l0 1)), IsV (.int .u8 (rd l0 1)), IsV (.int .u8 (Int.tmod (rd l0 1) 16)), IsV (.bool (!decide ((Int.tmod (rd l0 1) 16) = 2))), IsV (.bool (!decide ((Int.tmod (rd l0 1) 16) = 2))), IsV (.bool (!decide ((Int.tmod (rd l0 1) 16) = 2))), IsV (.int .i64 t10_1), IsV (.bool (decide (t10_1 < 34))), IsV (.bool (decide (t10_1 < 34))), IsV (.bool (decide (t10_1 < 34))), IsV (.int .i64 t10_1), IsV (.bool (decide (t10_1 > 400))), IsV (.bool (decide (t10_1 > 400)))]) (by kernel_rfl) ?_ ?_ rfl hS ⟨hBw12_w, hBw12_w3, hBw12_w12⟩ ?_ ?_
                      · exact fun x y hI hb => ⟨below_step hI.1 hb, below_step hI.2.1 hb, below_step hI.2.2 hb⟩
                      · exact AllStay.cons (Stays.v _) (AllStay.cons (Stays.a _) (AllStay.cons (Stays.v _) (AllStay.cons (Stays.v _) (AllStay.cons (Stays.v _) (AllStay.cons (Stays.v _) (AllStay.cons (Stays.v _) (AllStay.cons (Stays.v _) (AllStay.cons (Stays.a _) (AllStay.cons (Stays.v _) (AllStay.cons (Stays.v _) (AllStay.cons (Stays.v _) (AllStay.cons (Stays.v _) (AllStay.cons (Stays.v _) (AllStay.cons (Stays.v _) (AllStay.cons (Stays.v _) (AllStay.cons (Stays.v _) (AllStay.cons (Stays.v _) (AllStay.cons (Stays.v _) (AllStay.cons (Stays.v _) (AllStay.cons (Stays.v _) (AllStay.nil)))))))))))))))))))))
                      · refine Steps.cons (fun a w hS hI hp => ok_on rfl (does_val (x_move rfl (hS.get 5 rfl)) rfl)) ?_
                        refine Steps.cons (fun a w hS hI hp => ok_on rfl (does_index (e := 5) (xs := l0) rfl ((hp.get 0 (by rfl) rfl rfl)) (rfl) (by kernel_rfl) (by kernel_rfl) (by decide) c2 c2 ((Kd.C_below HR0 hI.1)))) ?_
                        refine Steps.cons (fun a w hS hI hp => ok_on rfl (((hp.get 1 (by rfl) rfl rfl)).elim fun _ h_ => does_val (x_load1 (d := .int .u8) rfl h_.1 (by kernel_rfl) rfl h_.2.2) rfl)) ?_
                        refine Steps.cons (fun a w hS hI hp => ok_on rfl (does_val ((i64_w (rd l0 0)) ▸ x_convI rfl (by kernel_rfl) (by kernel_rfl) ((hp.get 2 (by rfl) rfl rfl))) rfl)) ?_
                        refine Steps.cons (fun a w hS hI hp => ok_on rfl (does_call (by kernel_rfl) (ar1 ((hp.get 3 (by rfl) rfl rfl))) ((carillonref06_Known.calls (wrap64 (rd l0 0)) t15 _  At15).mono fun _ _ h => ⟨_, h.1, h.2.below, rfl⟩))) ?_
                        refine Steps.cons (fun a w hS hI hp => ok_on rfl (does_val (x_not rfl ((hp.get 4 (by rfl) rfl rfl))) rfl)) ?_
                        refine Steps.cons (fun a w hS hI hp => ok_on rfl (does_val (x_move rfl ((hp.get 5 (by rfl) rfl rfl))) rfl)) ?_
                        refine Steps.cons (fun a w hS hI hp => ok_if (d := 23) rfl rfl (by rw [hS.size]; decide) (((hp.get 6 (by rfl) rfl rfl)).trans (bF (congrArg (!·) c3))) (does_val (x_move rfl (hS.get 5 rfl)) rfl)) ?_
                        refine Steps.cons (fun a w hS hI hp => ok_if (d := 23) rfl rfl (by rw [hS.size]; decide) (((hp.get 6 (by rfl) rfl rfl)).trans (bF (congrArg (!·) c3))) (does_index (e := 5) (xs := l0) rfl ((hp.get 7 (by rfl) rfl rfl)) (rfl) (by kernel_rfl) (by kernel_rfl) (by decide) c4 c4 ((Kd.C_below HR0 hI.1)))) ?_
                        refine Steps.cons (fun a w hS hI hp => ok_if (d := 23) rfl rfl (by rw [hS.size]; decide) (((hp.get 6 (by rfl) rfl rfl)).trans (bF (congrArg (!·) c3))) (((hp.get 8 (by rfl) rfl rfl)).elim fun _ h_ => does_val (x_load1 (d := .int .u8) rfl h_.1 (by kernel_rfl) rfl h_.2.2) rfl)) ?_
                        refine Steps.cons (fun a w hS hI hp => ok_if (d := 23) rfl rfl (by rw [hS.size]; decide) (((hp.get 6 (by rfl) rfl rfl)).trans (bF (congrArg (!·) c3))) (does_val (x_bin rfl ((hp.get 9 (by rfl) rfl rfl)) (rfl) (b_rem _ _ _ _ _ _ (by decide))) rfl)) ?_
                        refine Steps.cons (fun a w hS hI hp => ok_if (d := 23) rfl rfl (by rw [hS.size]; decide) (((hp.get 6 (by rfl) rfl rfl)).trans (bF (congrArg (!·) c3))) (does_val (x_bin rfl ((hp.get 10 (by rfl) rfl rfl)) (rfl) (b_neq _ _ _ _ _ _)) rfl)) ?_
                        refine Steps.cons (fun a w hS hI hp => ok_on rfl (does_val (x_pickF rfl (((hp.get 6 (by rfl) rfl rfl)).trans (bF (congrArg (!·) c3))) ((hp.get 11 (by rfl) rfl rfl))) rfl)) ?_
                        refine Steps.cons (fun a w hS hI hp => ok_on rfl (does_val (x_move rfl ((hp.get 12 (by rfl) rfl rfl))) rfl)) ?_
                        refine Steps.cons (fun a w hS hI hp => ok_if (d := 30) rfl rfl (by rw [hS.size]; decide) (((hp.get 13 (by rfl) rfl rfl)).trans (bF (congrArg (!·) (decide_eq_true c5)))) (does_val (x_move rfl (hS.get 0 rfl)) rfl)) ?_
                        refine Steps.cons (fun a w hS hI hp => ok_if (d := 30) rfl rfl (by rw [hS.size]; decide) (((hp.get 13 (by rfl) rfl rfl)).trans (bF (congrArg (!·) (decide_eq_true c5)))) (does_val (x_bin rfl ((hp.get 14 (by rfl) rfl rfl)) (rfl) (b_lss _ _ _ _ _ _)) rfl)) ?_
                        refine Steps.cons (fun a w hS hI hp => ok_on rfl (does_val (x_pickF rfl (((hp.get 13 (by rfl) rfl rfl)).trans (bF (congrArg (!·) (decide_eq_true c5)))) ((hp.get 15 (by rfl) rfl rfl))) rfl)) ?_
                        refine Steps.cons (fun a w hS hI hp => ok_on rfl (does_val (x_move rfl ((hp.get 16 (by rfl) rfl rfl))) rfl)) ?_
                        refine Steps.cons (fun a w hS hI hp => ok_if (d := 34) rfl rfl (by rw [hS.size]; decide) (((hp.get 17 (by rfl) rfl rfl)).trans (bF (decide_eq_false c6))) (does_val (x_move rfl (hS.get 0 rfl)) rfl)) ?_
                        refine Steps.cons (fun a w hS hI hp => ok_if (d := 34) rfl rfl (by rw [hS.size]; decide) (((hp.get 17 (by rfl) rfl rfl)).trans (bF (decide_eq_false c6))) (does_val (x_bin rfl ((hp.get 18 (by rfl) rfl rfl)) (rfl) (b_gtr _ _ _ _ _ _)) rfl)) ?_
                        refine Steps.cons (fun a w hS hI hp => ok_on rfl (does_val (x_pickF rfl (((hp.get 17 (by rfl) rfl rfl)).trans (bF (decide_eq_false c6))) ((hp.get 19 (by rfl) rfl rfl))) rfl)) ?_
                        exact Steps.nil
                      clear hS
                      intro at16 w17 hS hI hp
                      have hBw17_w := hI.1
                      have hBw17_w3 := hI.2.1
                      have hBw17_w12 := hI.2.2
                      have hv37 : sl _ 37 = .bool (decide (t10_1 > 400)) := hp 20 (by decide)
                      have hBw17_w17 := Below.refl w17.heap.size w17
                      have hS := hS.cons hv37
                      clear hp hI hv37
                      refine hK14 _ _ ?_
                      clear hK14 K14
                      refine wp_cond_false ((hS.get 0 rfl).trans (bF (decide_eq_false c7))) ?_
                      refine wp_skip ?_
                      refine hK13 _ _ ?_
                      clear hK13 K13
                      refine wp_seq_k (fun K18 hK18 => ?_)
                      refine wp_seq_k (fun K19 hK19 => ?_)
                      refine reg_seq (N := 90) (bs := [(37, .bool (decide (t10_1 > 400))), (5, .int .i64 t10_1), (10, .bool (decide ((l0.length : Int) < 34))), (4, .int .i64 0), (3, .int .i64 0), (2, .pointer (some ⟨g4, 0, none⟩)), (0, .slice A0 l0.length c0)]) (I := fun x => Below w.heap.size w x ∧ Below w3.heap.size w3 x ∧ Below w17.heap.size w17 x) (ps := [IsV (.slice A0 l0.length c0), IsV (.int .i64 (l0.length : Int)), IsV (.int .i64 t10_1), IsV (.bool (decide ((l0.length : Int) < t10_1)))]) (by kernel_rfl) ?_ ?_ rfl hS ⟨hBw17_w, hBw17_w3, hBw17_w17⟩ ?_ ?_
                      · exact fun x y hI hb => ⟨below_step hI.1 hb, below_step hI.2.1 hb, below_step hI.2.2 hb⟩
                      · exact AllStay.cons (Stays.v _) (AllStay.cons (Stays.v _) (AllStay.cons (Stays.v _) (AllStay.cons (Stays.v _) (AllStay.nil))))
                      · refine Steps.cons (fun a w hS hI hp => ok_on rfl (does_val (x_move rfl (hS.get 6 rfl)) rfl)) ?_
                        refine Steps.cons (fun a w hS hI hp => ok_on rfl (does_val (x_len (e := 5) rfl (by kernel_rfl) ((hp.get 0 (by rfl) rfl rfl))) rfl)) ?_
                        refine Steps.cons (fun a w hS hI hp => ok_on rfl (does_val (x_move rfl (hS.get 1 rfl)) rfl)) ?_
                        refine Steps.cons (fun a w hS hI hp => ok_on rfl (does_val (x_bin rfl ((hp.get 1 (by rfl) rfl rfl)) ((hp.get 2 (by rfl) rfl rfl)) (b_lss _ _ _ _ _ _)) rfl)) ?_
                        exact Steps.nil
                      clear hS
                      intro at20 w21 hS hI hp
                      have hBw21_w := hI.1
                      have hBw21_w3 := hI.2.1
                      have hBw21_w17 := hI.2.2
                      have hv42 : sl _ 42 = .bool (decide ((l0.length : Int) < t10_1)) := hp 3 (by decide)
                      have hBw21_w21 := Below.refl w21.heap.size w21
                      have hS := hS.cons hv42
                      clear hp hI hv42
                      refine hK19 _ _ ?_
                      clear hK19 K19
                      refine wp_cond_false ((hS.get 0 rfl).trans (bF (decide_eq_false c8))) ?_
                      refine wp_skip ?_
                      refine hK18 _ _ ?_
                      clear hK18 K18
                      refine wp_seq_k (fun K22 hK22 => ?_)
                      refine wp_seq_k (fun K23 hK23 => ?_)
                      refine reg_seq (N := 90) (bs := [(42, .bool (decide ((l0.length : Int) < t10_1))), (37, .bool (decide (t10_1 > 400))), (5, .int .i64 t10_1), (10, .bool (decide ((l0.length : Int) < 34))), (4, .int .i64 0), (3, .int .i64 0), (2, .pointer (some ⟨g4, 0, none⟩)), (0, .slice A0 l0.length c0)]) (I := fun x => Below w.heap.size w x ∧ Below w3.heap.size w3 x ∧ Below w21.heap.size w21 x) (ps := [IsV (.slice A0 l0.length c0), IsV (.int .i64 (l0.length : Int)), IsV (.int .i64 t10_1), IsV (.bool (decide ((l0.length : Int) > t10_1)))]) (by kernel_rfl) ?_ ?_ rfl hS ⟨hBw21_w, hBw21_w3, hBw21_w21⟩ ?_ ?_
                      · exact fun x y hI hb => ⟨below_step hI.1 hb, below_step hI.2.1 hb, below_step hI.2.2 hb⟩
                      · exact AllStay.cons (Stays.v _) (AllStay.cons (Stays.v _) (AllStay.cons (Stays.v _) (AllStay.cons (Stays.v _) (AllStay.nil))))
                      · refine Steps.cons (fun a w hS hI hp => ok_on rfl (does_val (x_move rfl (hS.get 7 rfl)) rfl)) ?_
                        refine Steps.cons (fun a w hS hI hp => ok_on rfl (does_val (x_len (e := 5) rfl (by kernel_rfl) ((hp.get 0 (by rfl) rfl rfl))) rfl)) ?_
                        refine Steps.cons (fun a w hS hI hp => ok_on rfl (does_val (x_move rfl (hS.get 2 rfl)) rfl)) ?_
                        refine Steps.cons (fun a w hS hI hp => ok_on rfl (does_val (x_bin rfl ((hp.get 1 (by rfl) rfl rfl)) ((hp.get 2 (by rfl) rfl rfl)) (b_gtr _ _ _ _ _ _)) rfl)) ?_
                        exact Steps.nil
                      clear hS
                      intro at24 w25 hS hI hp
                      have hBw25_w := hI.1
                      have hBw25_w3 := hI.2.1
                      have hBw25_w21 := hI.2.2
                      have hv47 : sl _ 47 = .bool (decide ((l0.length : Int) > t10_1)) := hp 3 (by decide)
                      have hBw25_w25 := Below.refl w25.heap.size w25
                      have hS := hS.cons hv47
                      clear hp hI hv47
                      refine hK23 _ _ ?_
                      clear hK23 K23
                      refine wp_cond_false ((hS.get 0 rfl).trans (bF (decide_eq_false c9))) ?_
                      refine wp_skip ?_
                      refine hK22 _ _ ?_
                      clear hK22 K22
                      refine wp_seq_k (fun K26 hK26 => ?_)
                      refine reg_any_tail 10 (N := 90) (bs := [(47, .bool (decide ((l0.length : Int) > t10_1))), (42, .bool (decide ((l0.length : Int) < t10_1))), (37, .bool (decide (t10_1 > 400))), (5, .int .i64 t10_1), (10, .bool (decide ((l0.length : Int) < 34))), (4, .int .i64 0), (3, .int .i64 0), (2, .pointer (some ⟨g4, 0, none⟩)), (0, .slice A0 l0.length c0)]) (I := fun x => Below w.heap.size w x ∧ Below w3.heap.size w3 x ∧ Below w25.heap.size w25 x) (ps := [IsV (.slice A0 l0.length c0), IsA (.int .u8 (rd l0 0)), IsV (.int .u8 (rd l0 0)), IsV (.int .i64 (wrap64 (rd l0 0))), IsV (.slice A0 l0.length c0), IsA (.int .u8 (rd l0 4)), IsV (.int .u8 (rd l0 4)), IsV (.int .i64 (wrap64 (rd l0 4))), IsV (.agg #[.int .i64 (wrap64 (rd l0 0)), .int .i64 (wrap64 (rd l0 4)), .int .i64 0, .int .i64 0, .int .u64 0, .int .i64 0, .int .i64 0, .int .i64 0, .int .i64 0, .int .u64 0, .int .i64 0, .int .i64 0, .int .i64 0, .int .i64 0, .int .i64 0, .int .i64 0, .int .i64 0, .int .u64 0, .int .i64 0, .int .i64 0, .int .i64 0, .int .i64 0, .int .i64 0]), IsB #[.int .i64 0, .int .i64 0, .int .i64 0, .int .i64 0, .int .u64 0, .int .i64 0, .int .i64 0, .int .i64 0, .int .i64 0, .int .u64 0, .int .i64 0, .int .i64 0, .int .i64 0, .int .i64 0, .int .i64 0, .int .i64 0, .int .i64 0, .int .u64 0, .int .i64 0, .int .i64 0, .int .i64 0, .int .i64 0, .int .i64 0] 28 w25.heap.size]) (by kernel_rfl) (by kernel_rfl) (by kernel_rfl) (by decide) ?_ ?_ rfl hS ⟨hBw25_w, hBw25_w3, hBw25_w25⟩ ?_ ?_
                      · exact fun x y hI hb => ⟨below_step hI.1 hb, below_step hI.2.1 hb, below_step hI.2.2 hb⟩
                      · exact AllStay.cons (Stays.v _) (AllStay.cons (Stays.a _) (AllStay.cons (Stays.v _) (AllStay.cons (Stays.v _) (AllStay.cons (Stays.v _) (AllStay.cons (Stays.a _) (AllStay.cons (Stays.v _) (AllStay.cons (Stays.v _) (AllStay.cons (Stays.v _) (AllStay.cons (Stays.b _ _ _) (AllStay.nil))))))))))
                      · refine Steps.cons (fun a w hS hI hp => ok_on rfl (does_val (x_move rfl (hS.get 8 rfl)) rfl)) ?_
                        refine Steps.cons (fun a w hS hI hp => ok_on rfl (does_index (e := 5) (xs := l0) rfl ((hp.get 0 (by rfl) rfl rfl)) (rfl) (by kernel_rfl) (by kernel_rfl) (by decide) c2 c2 ((Kd.C_below HR0 hI.1)))) ?_
                        refine Steps.cons (fun a w hS hI hp => ok_on rfl (((hp.get 1 (by rfl) rfl rfl)).elim fun _ h_ => does_val (x_load1 (d := .int .u8) rfl h_.1 (by kernel_rfl) rfl h_.2.2) rfl)) ?_
                        refine Steps.cons (fun a w hS hI hp => ok_on rfl (does_val ((i64_w (rd l0 0)) ▸ x_convI rfl (by kernel_rfl) (by kernel_rfl) ((hp.get 2 (by rfl) rfl rfl))) rfl)) ?_
                        refine Steps.cons (fun a w hS hI hp => ok_on rfl (does_val (x_move rfl (hS.get 8 rfl)) rfl)) ?_
                        refine Steps.cons (fun a w hS hI hp => ok_on rfl (does_index (e := 5) (xs := l0) rfl ((hp.get 4 (by rfl) rfl rfl)) (rfl) (by kernel_rfl) (by kernel_rfl) (by decide) c10 c10 ((Kd.C_below HR0 hI.1)))) ?_
                        refine Steps.cons (fun a w hS hI hp => ok_on rfl (((hp.get 5 (by rfl) rfl rfl)).elim fun _ h_ => does_val (x_load1 (d := .int .u8) rfl h_.1 (by kernel_rfl) rfl h_.2.2) rfl)) ?_
                        refine Steps.cons (fun a w hS hI hp => ok_on rfl (does_val ((i64_w (rd l0 4)) ▸ x_convI rfl (by kernel_rfl) (by kernel_rfl) ((hp.get 6 (by rfl) rfl rfl))) rfl)) ?_
                        refine Steps.cons (fun a w hS hI hp => ok_on rfl (does_val (x_build (vs := [(0, .int .i64 (wrap64 (rd l0 0))), (1, .int .i64 (wrap64 (rd l0 4)))]) rfl (by rw [Array.toList_map]; exact (show [(0, a.eval (.tmp 52)), (1, a.eval (.tmp 56))] = _ from (li_cons ((hp.get 3 (by rfl) rfl rfl)) (li_cons ((hp.get 7 (by rfl) rfl rfl)) rfl)))) (by kernel_rfl)) rfl)) ?_
                        refine Steps.cons (fun a w hS hI hp => ok_on rfl (does_var (x_alloc rfl (by kernel_rfl)) (hI.2.2).size)) ?_
                        exact Steps.nil
                      clear hS
                      intro at27 w28 hS hI hp
                      have hBw28_w := hI.1
                      have hBw28_w3 := hI.2.1
                      have hBw28_w25 := hI.2.2
                      have hv57 : sl _ 57 = .agg #[.int .i64 (wrap64 (rd l0 0)), .int .i64 (wrap64 (rd l0 4)), .int .i64 0, .int .i64 0, .int .u64 0, .int .i64 0, .int .i64 0, .int .i64 0, .int .i64 0, .int .u64 0, .int .i64 0, .int .i64 0, .int .i64 0, .int .i64 0, .int .i64 0, .int .i64 0, .int .i64 0, .int .u64 0, .int .i64 0, .int .i64 0, .int .i64 0, .int .i64 0, .int .i64 0] := hp 8 (by decide)
                      obtain ⟨g29, hv7, hgeg29, hbxg29⟩ := (show IsB _ 28 _ (sl _ 7) _ from hp 9 (by decide))
                      have hBw28_w28 := Below.refl w28.heap.size w28
                      have hS := hS.cons hv57
                      have hS := hS.cons hv7
                      clear hp hI hv57 hv7
                      show wpList _ _ _ [_] _ _
                      refine list_step rfl (does_storeAll (g := g29) (cs := #[.int .i64 (wrap64 (rd l0 0)), .int .i64 (wrap64 (rd l0 4)), .int .i64 0, .int .i64 0, .int .u64 0, .int .i64 0, .int .i64 0, .int .i64 0, .int .i64 0, .int .u64 0, .int .i64 0, .int .i64 0, .int .i64 0, .int .i64 0, .int .i64 0, .int .i64 0, .int .i64 0, .int .u64 0, .int .i64 0, .int .i64 0, .int .i64 0, .int .i64 0, .int .i64 0]) rfl (hS.get 0 rfl) (hS.get 1 rfl) ((hBw28_w28.block g29 (blk_lt hbxg29)).trans hbxg29) (by kernel_rfl) (by kernel_rfl) (by kernel_rfl)) ?_
                      rintro vw30 w30 ⟨rfl, hbxw30, hT⟩
                      have hBw30_w := hT.below hBw28_w (Nat.le_trans (hBw25_w).size hgeg29) (hBw28_w).size
                      have hBw30_w3 := hT.below hBw28_w3 (Nat.le_trans (hBw25_w3).size hgeg29) (hBw28_w3).size
                      have hBw30_w25 := hT.below hBw28_w25 hgeg29 (hBw28_w25).size
                      have hBw30_w30 := Below.refl w30.heap.size w30
                      clear hT
                      refine wpList_nil ?_
                      refine hK26 _ _ ?_
                      clear hK26 K26
                      refine wp_seq_k (fun K31 hK31 => ?_)
                      refine reg_seq_tail 6 (N := 90) (bs := [(7, .pointer (some ⟨g29, 0, none⟩)), (57, .agg #[.int .i64 (wrap64 (rd l0 0)), .int .i64 (wrap64 (rd l0 4)), .int .i64 0, .int .i64 0, .int .u64 0, .int .i64 0, .int .i64 0, .int .i64 0, .int .i64 0, .int .u64 0, .int .i64 0, .int .i64 0, .int .i64 0, .int .i64 0, .int .i64 0, .int .i64 0, .int .i64 0, .int .u64 0, .int .i64 0, .int .i64 0, .int .i64 0, .int .i64 0, .int .i64 0]), (47, .bool (decide ((l0.length : Int) > t10_1))), (42, .bool (decide ((l0.length : Int) < t10_1))), (37, .bool (decide (t10_1 > 400))), (5, .int .i64 t10_1), (10, .bool (decide ((l0.length : Int) < 34))), (4, .int .i64 0), (3, .int .i64 0), (2, .pointer (some ⟨g4, 0, none⟩)), (0, .slice A0 l0.length c0)]) (I := fun x => Below w.heap.size w x ∧ Below w3.heap.size w3 x ∧ Below w25.heap.size w25 x ∧ Below w30.heap.size w30 x) (ps := [IsV (.slice A0 l0.length c0), IsV (.tuple #[.int .i64 t32_1, .bool t32_2]), IsV (.tuple #[.int .i64 t32_1, .bool t32_2]), IsV (.int .i64 t32_1), IsV (.bool t32_2), IsV (.pointer (some ⟨g29, 2, none⟩))]) (by kernel_rfl) ?_ ?_ rfl hS ⟨hBw30_w, hBw30_w3, hBw30_w25, hBw30_w30⟩ ?_ ?_
                      · exact fun x y hI hb => ⟨below_step hI.1 hb, below_step hI.2.1 hb, below_step hI.2.2.1 hb, below_step hI.2.2.2 hb⟩
                      · exact AllStay.cons (Stays.v _) (AllStay.cons (Stays.v _) (AllStay.cons (Stays.v _) (AllStay.cons (Stays.v _) (AllStay.cons (Stays.v _) (AllStay.cons (Stays.v _) (AllStay.nil))))))
                      · refine Steps.cons (fun a w hS hI hp => ok_on rfl (does_val (x_move rfl (hS.get 10 rfl)) rfl)) ?_
                        refine Steps.cons (fun a w hS hI hp => ok_on rfl (does_call (by kernel_rfl) (ar3 ((hp.get 0 (by rfl) rfl rfl)) (rfl) (rfl)) ((carillonref01_Get.calls k _ _ l0 6 2 t32_1 t32_2 _ (Kd.C_below HR0 hI.1) HC0 At32).mono fun _ _ h => ⟨_, h.1, h.2.below, rfl⟩))) ?_
                        refine Steps.cons (fun a w hS hI hp => ok_on rfl (does_val (x_move rfl ((hp.get 1 (by rfl) rfl rfl))) rfl)) ?_
                        refine Steps.cons (fun a w hS hI hp => ok_on rfl (does_val (x_extract rfl ((hp.get 2 (by rfl) rfl rfl)) rfl) rfl)) ?_
                        refine Steps.cons (fun a w hS hI hp => ok_on rfl (does_val (x_extract rfl ((hp.get 2 (by rfl) rfl rfl)) rfl) rfl)) ?_
                        refine Steps.cons (fun a w hS hI hp => ok_on rfl (does_val (x_field rfl (hS.get 0 rfl) Try.underlying28 rfl (by kernel_rfl)) rfl)) ?_
                        exact Steps.nil
                      clear hS
                      intro at33 w34 hS hI hp
                      have hBw34_w := hI.1
                      have hBw34_w3 := hI.2.1
                      have hBw34_w25 := hI.2.2.1
                      have hBw34_w30 := hI.2.2.2
                      have hv61 : sl _ 61 = .int .i64 t32_1 := hp 3 (by decide)
                      have hv63 : sl _ 63 = .pointer (some ⟨g29, 2, none⟩) := hp 5 (by decide)
                      have hBw34_w34 := Below.refl w34.heap.size w34
                      have hS := hS.cons hv61
                      have hS := hS.cons hv63
                      clear hp hI hv61 hv63
                      show wpList _ _ _ [_] _ _
                      refine list_step rfl (does_store (g := g29) (off := 2) (v := .int .i64 t32_1) (new := #[.int .i64 (wrap64 (rd l0 0)), .int .i64 (wrap64 (rd l0 4)), .int .i64 t32_1, .int .i64 0, .int .u64 0, .int .i64 0, .int .i64 0, .int .i64 0, .int .i64 0, .int .u64 0, .int .i64 0, .int .i64 0, .int .i64 0, .int .i64 0, .int .i64 0, .int .i64 0, .int .i64 0, .int .u64 0, .int .i64 0, .int .i64 0, .int .i64 0, .int .i64 0, .int .i64 0]) rfl (hS.get 0 rfl) (hS.get 1 rfl) ((hBw34_w30.block g29 (blk_lt hbxw30)).trans hbxw30) (by kernel_rfl) (by kernel_rfl) (by kernel_rfl) (by kernel_rfl)) ?_
                      rintro vw35 w35 ⟨rfl, hbxw35, hT⟩
                      have hBw35_w := hT.below hBw34_w (Nat.le_trans (hBw25_w).size hgeg29) (hBw34_w).size
                      have hBw35_w3 := hT.below hBw34_w3 (Nat.le_trans (hBw25_w3).size hgeg29) (hBw34_w3).size
                      have hBw35_w25 := hT.below hBw34_w25 hgeg29 (hBw34_w25).size
                      have hBw35_w35 := Below.refl w35.heap.size w35
                      clear hT
                      refine wpList_nil ?_
                      refine hK31 _ _ ?_
                      clear hK31 K31
                      refine wp_seq_k (fun K36 hK36 => ?_)
                      refine reg_seq_tail 6 (N := 90) (bs := [(63, .pointer (some ⟨g29, 2, none⟩)), (61, .int .i64 t32_1), (7, .pointer (some ⟨g29, 0, none⟩)), (57, .agg #[.int .i64 (wrap64 (rd l0 0)), .int .i64 (wrap64 (rd l0 4)), .int .i64 0, .int .i64 0, .int .u64 0, .int .i64 0, .int .i64 0, .int .i64 0, .int .i64 0, .int .u64 0, .int .i64 0, .int .i64 0, .int .i64 0, .int .i64 0, .int .i64 0, .int .i64 0, .int .i64 0, .int .u64 0, .int .i64 0, .int .i64 0, .int .i64 0, .int .i64 0, .int .i64 0]), (47, .bool (decide ((l0.length : Int) > t10_1))), (42, .bool (decide ((l0.length : Int) < t10_1))), (37, .bool (decide (t10_1 > 400))), (5, .int .i64 t10_1), (10, .bool (decide ((l0.length : Int) < 34))), (4, .int .i64 0), (3, .int .i64 0), (2, .pointer (some ⟨g4, 0, none⟩)), (0, .slice A0 l0.length c0)]) (I := fun x => Below w.heap.size w x ∧ Below w3.heap.size w3 x ∧ Below w25.heap.size w25 x ∧ Below w35.heap.size w35 x) (ps := [IsV (.slice A0 l0.length c0), IsV (.tuple #[.int .i64 t37_1, .bool t37_2]), IsV (.tuple #[.int .i64 t37_1, .bool t37_2]), IsV (.int .i64 t37_1), IsV (.bool t37_2), IsV (.pointer (some ⟨g29, 3, none⟩))]) (by kernel_rfl) ?_ ?_ rfl hS ⟨hBw35_w, hBw35_w3, hBw35_w25, hBw35_w35⟩ ?_ ?_
                      · exact fun x y hI hb => ⟨below_step hI.1 hb, below_step hI.2.1 hb, below_step hI.2.2.1 hb, below_step hI.2.2.2 hb⟩
                      · exact AllStay.cons (Stays.v _) (AllStay.cons (Stays.v _) (AllStay.cons (Stays.v _) (AllStay.cons (Stays.v _) (AllStay.cons (Stays.v _) (AllStay.cons (Stays.v _) (AllStay.nil))))))
                      · refine Steps.cons (fun a w hS hI hp => ok_on rfl (does_val (x_move rfl (hS.get 12 rfl)) rfl)) ?_
                        refine Steps.cons (fun a w hS hI hp => ok_on rfl (does_call (by kernel_rfl) (ar3 ((hp.get 0 (by rfl) rfl rfl)) (rfl) (rfl)) ((carillonref01_Signed.calls k _ _ l0 8 8 t37_1 t37_2 _ (Kd.C_below HR0 hI.1) HC0 At37).mono fun _ _ h => ⟨_, h.1, h.2.below, rfl⟩))) ?_
                        refine Steps.cons (fun a w hS hI hp => ok_on rfl (does_val (x_move rfl ((hp.get 1 (by rfl) rfl rfl))) rfl)) ?_
                        refine Steps.cons (fun a w hS hI hp => ok_on rfl (does_val (x_extract rfl ((hp.get 2 (by rfl) rfl rfl)) rfl) rfl)) ?_
                        refine Steps.cons (fun a w hS hI hp => ok_on rfl (does_val (x_extract rfl ((hp.get 2 (by rfl) rfl rfl)) rfl) rfl)) ?_
                        refine Steps.cons (fun a w hS hI hp => ok_on rfl (does_val (x_field rfl (hS.get 2 rfl) Try.underlying28 rfl (by kernel_rfl)) rfl)) ?_
                        exact Steps.nil
                      clear hS
                      intro at38 w39 hS hI hp
                      have hBw39_w := hI.1
                      have hBw39_w3 := hI.2.1
                      have hBw39_w25 := hI.2.2.1
                      have hBw39_w35 := hI.2.2.2
                      have hv67 : sl _ 67 = .int .i64 t37_1 := hp 3 (by decide)
                      have hv69 : sl _ 69 = .pointer (some ⟨g29, 3, none⟩) := hp 5 (by decide)
                      have hBw39_w39 := Below.refl w39.heap.size w39
                      have hS := hS.cons hv67
                      have hS := hS.cons hv69
                      clear hp hI hv67 hv69
                      show wpList _ _ _ [_] _ _
                      refine list_step rfl (does_store (g := g29) (off := 3) (v := .int .i64 t37_1) (new := #[.int .i64 (wrap64 (rd l0 0)), .int .i64 (wrap64 (rd l0 4)), .int .i64 t32_1, .int .i64 t37_1, .int .u64 0, .int .i64 0, .int .i64 0, .int .i64 0, .int .i64 0, .int .u64 0, .int .i64 0, .int .i64 0, .int .i64 0, .int .i64 0, .int .i64 0, .int .i64 0, .int .i64 0, .int .u64 0, .int .i64 0, .int .i64 0, .int .i64 0, .int .i64 0, .int .i64 0]) rfl (hS.get 0 rfl) (hS.get 1 rfl) ((hBw39_w35.block g29 (blk_lt hbxw35)).trans hbxw35) (by kernel_rfl) (by kernel_rfl) (by kernel_rfl) (by kernel_rfl)) ?_
                      rintro vw40 w40 ⟨rfl, hbxw40, hT⟩
                      have hBw40_w := hT.below hBw39_w (Nat.le_trans (hBw25_w).size hgeg29) (hBw39_w).size
                      have hBw40_w3 := hT.below hBw39_w3 (Nat.le_trans (hBw25_w3).size hgeg29) (hBw39_w3).size
                      have hBw40_w25 := hT.below hBw39_w25 hgeg29 (hBw39_w25).size
                      have hBw40_w40 := Below.refl w40.heap.size w40
                      clear hT
                      refine wpList_nil ?_
                      refine hK36 _ _ ?_
                      clear hK36 K36
                      refine wp_seq_k (fun K41 hK41 => ?_)
                      refine reg_seq_tail 6 (N := 90) (bs := [(69, .pointer (some ⟨g29, 3, none⟩)), (67, .int .i64 t37_1), (63, .pointer (some ⟨g29, 2, none⟩)), (61, .int .i64 t32_1), (7, .pointer (some ⟨g29, 0, none⟩)), (57, .agg #[.int .i64 (wrap64 (rd l0 0)), .int .i64 (wrap64 (rd l0 4)), .int .i64 0, .int .i64 0, .int .u64 0, .int .i64 0, .int .i64 0, .int .i64 0, .int .i64 0, .int .u64 0, .int .i64 0, .int .i64 0, .int .i64 0, .int .i64 0, .int .i64 0, .int .i64 0, .int .i64 0, .int .u64 0, .int .i64 0, .int .i64 0, .int .i64 0, .int .i64 0, .int .i64 0]), (47, .bool (decide ((l0.length : Int) > t10_1))), (42, .bool (decide ((l0.length : Int) < t10_1))), (37, .bool (decide (t10_1 > 400))), (5, .int .i64 t10_1), (10, .bool (decide ((l0.length : Int) < 34))), (4, .int .i64 0), (3, .int .i64 0), (2, .pointer (some ⟨g4, 0, none⟩)), (0, .slice A0 l0.length c0)]) (I := fun x => Below w.heap.size w x ∧ Below w3.heap.size w3 x ∧ Below w25.heap.size w25 x ∧ Below w40.heap.size w40 x) (ps := [IsV (.slice A0 l0.length c0), IsV (.tuple #[.agg #[.int .u64 t42_1, .int .i64 t42_2], .bool t42_3]), IsV (.tuple #[.agg #[.int .u64 t42_1, .int .i64 t42_2], .bool t42_3]), IsV (.agg #[.int .u64 t42_1, .int .i64 t42_2]), IsV (.bool t42_3), IsV (.pointer (some ⟨g29, 4, none⟩))]) (by kernel_rfl) ?_ ?_ rfl hS ⟨hBw40_w, hBw40_w3, hBw40_w25, hBw40_w40⟩ ?_ ?_
                      · exact fun x y hI hb => ⟨below_step hI.1 hb, below_step hI.2.1 hb, below_step hI.2.2.1 hb, below_step hI.2.2.2 hb⟩
                      · exact AllStay.cons (Stays.v _) (AllStay.cons (Stays.v _) (AllStay.cons (Stays.v _) (AllStay.cons (Stays.v _) (AllStay.cons (Stays.v _) (AllStay.cons (Stays.v _) (AllStay.nil))))))
                      · refine Steps.cons (fun a w hS hI hp => ok_on rfl (does_val (x_move rfl (hS.get 14 rfl)) rfl)) ?_
                        refine Steps.cons (fun a w hS hI hp => ok_on rfl (does_call (by kernel_rfl) (ar2 ((hp.get 0 (by rfl) rfl rfl)) (rfl)) ((carillonref04_Get.calls k _ _ l0 20 t42_1 t42_2 t42_3 _ (Kd.C_below HR0 hI.1) HC0 At42).mono fun _ _ h => ⟨_, h.1, h.2, rfl⟩))) ?_
                        refine Steps.cons (fun a w hS hI hp => ok_on rfl (does_val (x_move rfl ((hp.get 1 (by rfl) rfl rfl))) rfl)) ?_
                        refine Steps.cons (fun a w hS hI hp => ok_on rfl (does_val (x_extract rfl ((hp.get 2 (by rfl) rfl rfl)) rfl) rfl)) ?_
                        refine Steps.cons (fun a w hS hI hp => ok_on rfl (does_val (x_extract rfl ((hp.get 2 (by rfl) rfl rfl)) rfl) rfl)) ?_
                        refine Steps.cons (fun a w hS hI hp => ok_on rfl (does_val (x_field rfl (hS.get 4 rfl) Try.underlying28 rfl (by kernel_rfl)) rfl)) ?_
                        exact Steps.nil
                      clear hS
                      intro at43 w44 hS hI hp
                      have hBw44_w := hI.1
                      have hBw44_w3 := hI.2.1
                      have hBw44_w25 := hI.2.2.1
                      have hBw44_w40 := hI.2.2.2
                      have hv73 : sl _ 73 = .agg #[.int .u64 t42_1, .int .i64 t42_2] := hp 3 (by decide)
                      have hv75 : sl _ 75 = .pointer (some ⟨g29, 4, none⟩) := hp 5 (by decide)
                      have hBw44_w44 := Below.refl w44.heap.size w44
                      have hS := hS.cons hv73
                      have hS := hS.cons hv75
                      clear hp hI hv73 hv75
                      show wpList _ _ _ [_] _ _
                      refine list_step rfl (does_store (g := g29) (off := 4) (v := .agg #[.int .u64 t42_1, .int .i64 t42_2]) (new := #[.int .i64 (wrap64 (rd l0 0)), .int .i64 (wrap64 (rd l0 4)), .int .i64 t32_1, .int .i64 t37_1, .int .u64 t42_1, .int .i64 t42_2, .int .i64 0, .int .i64 0, .int .i64 0, .int .u64 0, .int .i64 0, .int .i64 0, .int .i64 0, .int .i64 0, .int .i64 0, .int .i64 0, .int .i64 0, .int .u64 0, .int .i64 0, .int .i64 0, .int .i64 0, .int .i64 0, .int .i64 0]) rfl (hS.get 0 rfl) (hS.get 1 rfl) ((hBw44_w40.block g29 (blk_lt hbxw40)).trans hbxw40) (by kernel_rfl) (by kernel_rfl) (by kernel_rfl) (by kernel_rfl)) ?_
                      rintro vw45 w45 ⟨rfl, hbxw45, hT⟩
                      have hBw45_w := hT.below hBw44_w (Nat.le_trans (hBw25_w).size hgeg29) (hBw44_w).size
                      have hBw45_w3 := hT.below hBw44_w3 (Nat.le_trans (hBw25_w3).size hgeg29) (hBw44_w3).size
                      have hBw45_w25 := hT.below hBw44_w25 hgeg29 (hBw44_w25).size
                      have hBw45_w45 := Below.refl w45.heap.size w45
                      clear hT
                      refine wpList_nil ?_
                      refine hK41 _ _ ?_
                      clear hK41 K41
                      refine wp_seq_k (fun K46 hK46 => ?_)
                      refine reg_seq_tail 6 (N := 90) (bs := [(75, .pointer (some ⟨g29, 4, none⟩)), (73, .agg #[.int .u64 t42_1, .int .i64 t42_2]), (69, .pointer (some ⟨g29, 3, none⟩)), (67, .int .i64 t37_1), (63, .pointer (some ⟨g29, 2, none⟩)), (61, .int .i64 t32_1), (7, .pointer (some ⟨g29, 0, none⟩)), (57, .agg #[.int .i64 (wrap64 (rd l0 0)), .int .i64 (wrap64 (rd l0 4)), .int .i64 0, .int .i64 0, .int .u64 0, .int .i64 0, .int .i64 0, .int .i64 0, .int .i64 0, .int .u64 0, .int .i64 0, .int .i64 0, .int .i64 0, .int .i64 0, .int .i64 0, .int .i64 0, .int .i64 0, .int .u64 0, .int .i64 0, .int .i64 0, .int .i64 0, .int .i64 0, .int .i64 0]), (47, .bool (decide ((l0.length : Int) > t10_1))), (42, .bool (decide ((l0.length : Int) < t10_1))), (37, .bool (decide (t10_1 > 400))), (5, .int .i64 t10_1), (10, .bool (decide ((l0.length : Int) < 34))), (4, .int .i64 0), (3, .int .i64 0), (2, .pointer (some ⟨g4, 0, none⟩)), (0, .slice A0 l0.length c0)]) (I := fun x => Below w.heap.size w x ∧ Below w3.heap.size w3 x ∧ Below w25.heap.size w25 x ∧ Below w45.heap.size w45 x) (ps := [IsV (.slice A0 l0.length c0), IsV (.tuple #[.int .i64 t47_1, .bool t47_2]), IsV (.tuple #[.int .i64 t47_1, .bool t47_2]), IsV (.int .i64 t47_1), IsV (.bool t47_2), IsV (.pointer (some ⟨g29, 6, none⟩))]) (by kernel_rfl) ?_ ?_ rfl hS ⟨hBw45_w, hBw45_w3, hBw45_w25, hBw45_w45⟩ ?_ ?_
                      · exact fun x y hI hb => ⟨below_step hI.1 hb, below_step hI.2.1 hb, below_step hI.2.2.1 hb, below_step hI.2.2.2 hb⟩
                      · exact AllStay.cons (Stays.v _) (AllStay.cons (Stays.v _) (AllStay.cons (Stays.v _) (AllStay.cons (Stays.v _) (AllStay.cons (Stays.v _) (AllStay.cons (Stays.v _) (AllStay.nil))))))
                      · refine Steps.cons (fun a w hS hI hp => ok_on rfl (does_val (x_move rfl (hS.get 16 rfl)) rfl)) ?_
                        refine Steps.cons (fun a w hS hI hp => ok_on rfl (does_call (by kernel_rfl) (ar3 ((hp.get 0 (by rfl) rfl rfl)) (rfl) (rfl)) ((carillonref01_Get.calls k _ _ l0 30 2 t47_1 t47_2 _ (Kd.C_below HR0 hI.1) HC0 At47).mono fun _ _ h => ⟨_, h.1, h.2.below, rfl⟩))) ?_
                        refine Steps.cons (fun a w hS hI hp => ok_on rfl (does_val (x_move rfl ((hp.get 1 (by rfl) rfl rfl))) rfl)) ?_
                        refine Steps.cons (fun a w hS hI hp => ok_on rfl (does_val (x_extract rfl ((hp.get 2 (by rfl) rfl rfl)) rfl) rfl)) ?_
                        refine Steps.cons (fun a w hS hI hp => ok_on rfl (does_val (x_extract rfl ((hp.get 2 (by rfl) rfl rfl)) rfl) rfl)) ?_
                        refine Steps.cons (fun a w hS hI hp => ok_on rfl (does_val (x_field rfl (hS.get 6 rfl) Try.underlying28 rfl (by kernel_rfl)) rfl)) ?_
                        exact Steps.nil
                      clear hS
                      intro at48 w49 hS hI hp
                      have hBw49_w := hI.1
                      have hBw49_w3 := hI.2.1
                      have hBw49_w25 := hI.2.2.1
                      have hBw49_w45 := hI.2.2.2
                      have hv79 : sl _ 79 = .int .i64 t47_1 := hp 3 (by decide)
                      have hv81 : sl _ 81 = .pointer (some ⟨g29, 6, none⟩) := hp 5 (by decide)
                      have hBw49_w49 := Below.refl w49.heap.size w49
                      have hS := hS.cons hv79
                      have hS := hS.cons hv81
                      clear hp hI hv79 hv81
                      show wpList _ _ _ [_] _ _
                      refine list_step rfl (does_store (g := g29) (off := 6) (v := .int .i64 t47_1) (new := #[.int .i64 (wrap64 (rd l0 0)), .int .i64 (wrap64 (rd l0 4)), .int .i64 t32_1, .int .i64 t37_1, .int .u64 t42_1, .int .i64 t42_2, .int .i64 t47_1, .int .i64 0, .int .i64 0, .int .u64 0, .int .i64 0, .int .i64 0, .int .i64 0, .int .i64 0, .int .i64 0, .int .i64 0, .int .i64 0, .int .u64 0, .int .i64 0, .int .i64 0, .int .i64 0, .int .i64 0, .int .i64 0]) rfl (hS.get 0 rfl) (hS.get 1 rfl) ((hBw49_w45.block g29 (blk_lt hbxw45)).trans hbxw45) (by kernel_rfl) (by kernel_rfl) (by kernel_rfl) (by kernel_rfl)) ?_
                      rintro vw50 w50 ⟨rfl, hbxw50, hT⟩
                      have hBw50_w := hT.below hBw49_w (Nat.le_trans (hBw25_w).size hgeg29) (hBw49_w).size
                      have hBw50_w3 := hT.below hBw49_w3 (Nat.le_trans (hBw25_w3).size hgeg29) (hBw49_w3).size
                      have hBw50_w25 := hT.below hBw49_w25 hgeg29 (hBw49_w25).size
                      have hBw50_w50 := Below.refl w50.heap.size w50
                      clear hT
                      refine wpList_nil ?_
                      refine hK46 _ _ ?_
                      clear hK46 K46
                      refine wp_seq_k (fun K51 hK51 => ?_)
                      refine reg_seq_tail 6 (N := 90) (bs := [(81, .pointer (some ⟨g29, 6, none⟩)), (79, .int .i64 t47_1), (75, .pointer (some ⟨g29, 4, none⟩)), (73, .agg #[.int .u64 t42_1, .int .i64 t42_2]), (69, .pointer (some ⟨g29, 3, none⟩)), (67, .int .i64 t37_1), (63, .pointer (some ⟨g29, 2, none⟩)), (61, .int .i64 t32_1), (7, .pointer (some ⟨g29, 0, none⟩)), (57, .agg #[.int .i64 (wrap64 (rd l0 0)), .int .i64 (wrap64 (rd l0 4)), .int .i64 0, .int .i64 0, .int .u64 0, .int .i64 0, .int .i64 0, .int .i64 0, .int .i64 0, .int .u64 0, .int .i64 0, .int .i64 0, .int .i64 0, .int .i64 0, .int .i64 0, .int .i64 0, .int .i64 0, .int .u64 0, .int .i64 0, .int .i64 0, .int .i64 0, .int .i64 0, .int .i64 0]), (47, .bool (decide ((l0.length : Int) > t10_1))), (42, .bool (decide ((l0.length : Int) < t10_1))), (37, .bool (decide (t10_1 > 400))), (5, .int .i64 t10_1), (10, .bool (decide ((l0.length : Int) < 34))), (4, .int .i64 0), (3, .int .i64 0), (2, .pointer (some ⟨g4, 0, none⟩)), (0, .slice A0 l0.length c0)]) (I := fun x => Below w.heap.size w x ∧ Below w3.heap.size w3 x ∧ Below w25.heap.size w25 x ∧ Below w50.heap.size w50 x) (ps := [IsV (.slice A0 l0.length c0), IsV (.tuple #[.int .i64 t52_1, .bool t52_2]), IsV (.tuple #[.int .i64 t52_1, .bool t52_2]), IsV (.int .i64 t52_1), IsV (.bool t52_2), IsV (.pointer (some ⟨g29, 7, none⟩))]) (by kernel_rfl) ?_ ?_ rfl hS ⟨hBw50_w, hBw50_w3, hBw50_w25, hBw50_w50⟩ ?_ ?_
                      · exact fun x y hI hb => ⟨below_step hI.1 hb, below_step hI.2.1 hb, below_step hI.2.2.1 hb, below_step hI.2.2.2 hb⟩
                      · exact AllStay.cons (Stays.v _) (AllStay.cons (Stays.v _) (AllStay.cons (Stays.v _) (AllStay.cons (Stays.v _) (AllStay.cons (Stays.v _) (AllStay.cons (Stays.v _) (AllStay.nil))))))
                      · refine Steps.cons (fun a w hS hI hp => ok_on rfl (does_val (x_move rfl (hS.get 18 rfl)) rfl)) ?_
                        refine Steps.cons (fun a w hS hI hp => ok_on rfl (does_call (by kernel_rfl) (ar3 ((hp.get 0 (by rfl) rfl rfl)) (rfl) (rfl)) ((carillonref01_Signed.calls k _ _ l0 33 1 t52_1 t52_2 _ (Kd.C_below HR0 hI.1) HC0 At52).mono fun _ _ h => ⟨_, h.1, h.2.below, rfl⟩))) ?_
                        refine Steps.cons (fun a w hS hI hp => ok_on rfl (does_val (x_move rfl ((hp.get 1 (by rfl) rfl rfl))) rfl)) ?_
                        refine Steps.cons (fun a w hS hI hp => ok_on rfl (does_val (x_extract rfl ((hp.get 2 (by rfl) rfl rfl)) rfl) rfl)) ?_
                        refine Steps.cons (fun a w hS hI hp => ok_on rfl (does_val (x_extract rfl ((hp.get 2 (by rfl) rfl rfl)) rfl) rfl)) ?_
                        refine Steps.cons (fun a w hS hI hp => ok_on rfl (does_val (x_field rfl (hS.get 8 rfl) Try.underlying28 rfl (by kernel_rfl)) rfl)) ?_
                        exact Steps.nil
                      clear hS
                      intro at53 w54 hS hI hp
                      have hBw54_w := hI.1
                      have hBw54_w3 := hI.2.1
                      have hBw54_w25 := hI.2.2.1
                      have hBw54_w50 := hI.2.2.2
                      have hv85 : sl _ 85 = .int .i64 t52_1 := hp 3 (by decide)
                      have hv87 : sl _ 87 = .pointer (some ⟨g29, 7, none⟩) := hp 5 (by decide)
                      have hBw54_w54 := Below.refl w54.heap.size w54
                      have hS := hS.cons hv85
                      have hS := hS.cons hv87
                      clear hp hI hv85 hv87
                      show wpList _ _ _ [_] _ _
                      refine list_step rfl (does_store (g := g29) (off := 7) (v := .int .i64 t52_1) (new := #[.int .i64 (wrap64 (rd l0 0)), .int .i64 (wrap64 (rd l0 4)), .int .i64 t32_1, .int .i64 t37_1, .int .u64 t42_1, .int .i64 t42_2, .int .i64 t47_1, .int .i64 t52_1, .int .i64 0, .int .u64 0, .int .i64 0, .int .i64 0, .int .i64 0, .int .i64 0, .int .i64 0, .int .i64 0, .int .i64 0, .int .u64 0, .int .i64 0, .int .i64 0, .int .i64 0, .int .i64 0, .int .i64 0]) rfl (hS.get 0 rfl) (hS.get 1 rfl) ((hBw54_w50.block g29 (blk_lt hbxw50)).trans hbxw50) (by kernel_rfl) (by kernel_rfl) (by kernel_rfl) (by kernel_rfl)) ?_
                      rintro vw55 w55 ⟨rfl, hbxw55, hT⟩
                      have hBw55_w := hT.below hBw54_w (Nat.le_trans (hBw25_w).size hgeg29) (hBw54_w).size
                      have hBw55_w3 := hT.below hBw54_w3 (Nat.le_trans (hBw25_w3).size hgeg29) (hBw54_w3).size
                      have hBw55_w25 := hT.below hBw54_w25 hgeg29 (hBw54_w25).size
                      have hBw55_w55 := Below.refl w55.heap.size w55
                      clear hT
                      refine wpList_nil ?_
                      refine hK51 _ _ ?_
                      clear hK51 K51
                      refine wp_seq_k (fun K56 hK56 => ?_)
                      refine reg_seq_tail 2 (N := 90) (bs := [(87, .pointer (some ⟨g29, 7, none⟩)), (85, .int .i64 t52_1), (81, .pointer (some ⟨g29, 6, none⟩)), (79, .int .i64 t47_1), (75, .pointer (some ⟨g29, 4, none⟩)), (73, .agg #[.int .u64 t42_1, .int .i64 t42_2]), (69, .pointer (some ⟨g29, 3, none⟩)), (67, .int .i64 t37_1), (63, .pointer (some ⟨g29, 2, none⟩)), (61, .int .i64 t32_1), (7, .pointer (some ⟨g29, 0, none⟩)), (57, .agg #[.int .i64 (wrap64 (rd l0 0)), .int .i64 (wrap64 (rd l0 4)), .int .i64 0, .int .i64 0, .int .u64 0, .int .i64 0, .int .i64 0, .int .i64 0, .int .i64 0, .int .u64 0, .int .i64 0, .int .i64 0, .int .i64 0, .int .i64 0, .int .i64 0, .int .i64 0, .int .i64 0, .int .u64 0, .int .i64 0, .int .i64 0, .int .i64 0, .int .i64 0, .int .i64 0]), (47, .bool (decide ((l0.length : Int) > t10_1))), (42, .bool (decide ((l0.length : Int) < t10_1))), (37, .bool (decide (t10_1 > 400))), (5, .int .i64 t10_1), (10, .bool (decide ((l0.length : Int) < 34))), (4, .int .i64 0), (3, .int .i64 0), (2, .pointer (some ⟨g4, 0, none⟩)), (0, .slice A0 l0.length c0)]) (I := fun x => Below w.heap.size w x ∧ Below w3.heap.size w3 x ∧ Below w25.heap.size w25 x ∧ Below w55.heap.size w55 x) (ps := [IsV (.agg #[.int .i64 (wrap64 (rd l0 0)), .int .i64 (wrap64 (rd l0 4)), .int .i64 t32_1, .int .i64 t37_1, .int .u64 t42_1, .int .i64 t42_2, .int .i64 t47_1, .int .i64 t52_1, .int .i64 0, .int .u64 0, .int .i64 0, .int .i64 0, .int .i64 0, .int .i64 0, .int .i64 0, .int .i64 0, .int .i64 0, .int .u64 0, .int .i64 0, .int .i64 0, .int .i64 0, .int .i64 0, .int .i64 0]), IsV (.int .i64 t10_1)]) (by kernel_rfl) ?_ ?_ rfl hS ⟨hBw55_w, hBw55_w3, hBw55_w25, hBw55_w55⟩ ?_ ?_
                      · exact fun x y hI hb => ⟨below_step hI.1 hb, below_step hI.2.1 hb, below_step hI.2.2.1 hb, below_step hI.2.2.2 hb⟩
                      · exact AllStay.cons (Stays.v _) (AllStay.cons (Stays.v _) (AllStay.nil))
                      · refine Steps.cons (fun a w hS hI hp => ok_on rfl (does_loadrow rfl (hS.get 10 rfl) (((hI.2.2.2).block g29 (blk_lt hbxw55)).trans hbxw55) Try.underlying28 rfl (by kernel_rfl) rfl)) ?_
                        refine Steps.cons (fun a w hS hI hp => ok_on rfl (does_val (x_move rfl (hS.get 15 rfl)) rfl)) ?_
                        exact Steps.nil
                      clear hS
                      intro at57 w58 hS hI hp
                      have hBw58_w := hI.1
                      have hBw58_w3 := hI.2.1
                      have hBw58_w25 := hI.2.2.1
                      have hBw58_w55 := hI.2.2.2
                      have hv88 : sl _ 88 = .agg #[.int .i64 (wrap64 (rd l0 0)), .int .i64 (wrap64 (rd l0 4)), .int .i64 t32_1, .int .i64 t37_1, .int .u64 t42_1, .int .i64 t42_2, .int .i64 t47_1, .int .i64 t52_1, .int .i64 0, .int .u64 0, .int .i64 0, .int .i64 0, .int .i64 0, .int .i64 0, .int .i64 0, .int .i64 0, .int .i64 0, .int .u64 0, .int .i64 0, .int .i64 0, .int .i64 0, .int .i64 0, .int .i64 0] := hp 0 (by decide)
                      have hv89 : sl _ 89 = .int .i64 t10_1 := hp 1 (by decide)
                      have hBw58_w58 := Below.refl w58.heap.size w58
                      have hS := hS.cons hv88
                      have hS := hS.cons hv89
                      clear hp hI hv88 hv89
                      show wpList _ _ _ [_, _, _] _ _
                      refine list_step rfl (does_storeAll (g := g4) (cs := #[.int .i64 (wrap64 (rd l0 0)), .int .i64 (wrap64 (rd l0 4)), .int .i64 t32_1, .int .i64 t37_1, .int .u64 t42_1, .int .i64 t42_2, .int .i64 t47_1, .int .i64 t52_1, .int .i64 0, .int .u64 0, .int .i64 0, .int .i64 0, .int .i64 0, .int .i64 0, .int .i64 0, .int .i64 0, .int .i64 0, .int .u64 0, .int .i64 0, .int .i64 0, .int .i64 0, .int .i64 0, .int .i64 0]) rfl (hS.get 21 rfl) (hS.get 1 rfl) ((hBw58_w3.block g4 (blk_lt hbxg4)).trans hbxg4) (by kernel_rfl) (by kernel_rfl) (by kernel_rfl)) ?_
                      rintro vw59 w59 ⟨rfl, hbxw59, hT⟩
                      have hn60 := hT.blk ((hBw58_w55.block g29 (blk_lt hbxw55)).trans hbxw55) (Nat.ne_of_gt (Nat.lt_of_lt_of_le (Nat.lt_of_lt_of_le (blk_lt hbxg4) (hBw25_w3).size) hgeg29))
                      have hBw59_w := hT.below hBw58_w hgeg4 (hBw58_w).size
                      have hBw59_w59 := Below.refl w59.heap.size w59
                      clear hT
                      refine list_step rfl (R := fun v w' => Below _ _ w' ∧ (IsV (.int .i64 t10_1)) v w') (does_val (x_assign rfl (hS.get 0 rfl)) rfl) ?_
                      rintro vw61 w61 ⟨hb, he⟩
                      have hBw61_w := below_step hBw59_w hb
                      have hBw61_w59 := below_step hBw59_w59 hb
                      have hBw61_w61 := Below.refl w61.heap.size w61
                      obtain rfl : vw61 = .int .i64 t10_1 := he
                      replace hS := ((((((((((((((((((((((hS.nil).cons (hS.get 22 rfl)).cons (hS.get 21 rfl)).cons (hS.get 19 rfl)).cons (hS.get 18 rfl)).cons (hS.get 17 rfl)).cons (hS.get 16 rfl)).cons (hS.get 15 rfl)).cons (hS.get 14 rfl)).cons (hS.get 13 rfl)).cons (hS.get 12 rfl)).cons (hS.get 11 rfl)).cons (hS.get 10 rfl)).cons (hS.get 9 rfl)).cons (hS.get 8 rfl)).cons (hS.get 7 rfl)).cons (hS.get 6 rfl)).cons (hS.get 5 rfl)).cons (hS.get 4 rfl)).cons (hS.get 3 rfl)).cons (hS.get 2 rfl)).cons (hS.get 1 rfl)).cons (hS.get 0 rfl)
                      replace hS := hS.put (v := .int .i64 t10_1) (d := 3) (by decide) (by rfl)
                      refine list_step rfl (R := fun v w' => Below _ _ w' ∧ (IsV (.int .i64 0)) v w') (does_val (x_assign rfl (rfl)) rfl) ?_
                      rintro vw62 w62 ⟨hb, he⟩
                      have hBw62_w := below_step hBw61_w hb
                      have hBw62_w59 := below_step hBw61_w59 hb
                      have hBw62_w61 := below_step hBw61_w61 hb
                      have hBw62_w62 := Below.refl w62.heap.size w62
                      obtain rfl : vw62 = .int .i64 0 := he
                      replace hS := ((((((((((((((((((((((hS.nil).cons (hS.get 22 rfl)).cons (hS.get 21 rfl)).cons (hS.get 19 rfl)).cons (hS.get 18 rfl)).cons (hS.get 17 rfl)).cons (hS.get 16 rfl)).cons (hS.get 15 rfl)).cons (hS.get 14 rfl)).cons (hS.get 13 rfl)).cons (hS.get 12 rfl)).cons (hS.get 11 rfl)).cons (hS.get 10 rfl)).cons (hS.get 9 rfl)).cons (hS.get 8 rfl)).cons (hS.get 7 rfl)).cons (hS.get 6 rfl)).cons (hS.get 5 rfl)).cons (hS.get 4 rfl)).cons (hS.get 3 rfl)).cons (hS.get 2 rfl)).cons (hS.get 1 rfl)).cons (hS.get 0 rfl)
                      replace hS := hS.put (v := .int .i64 0) (d := 4) (by decide) (by rfl)
                      refine wpList_nil ?_
                      refine hK56 _ _ ?_
                      clear hK56 K56
                      refine wp_ret ?_
                      (try simp only [Exit.then, Exit.inBlock])
                      exact bodyPost_ret (v := .tuple #[.agg #[.int .i64 (wrap64 (rd l0 0)), .int .i64 (wrap64 (rd l0 4)), .int .i64 t32_1, .int .i64 t37_1, .int .u64 t42_1, .int .i64 t42_2, .int .i64 t47_1, .int .i64 t52_1, .int .i64 0, .int .u64 0, .int .i64 0, .int .i64 0, .int .i64 0, .int .i64 0, .int .i64 0, .int .i64 0, .int .i64 0, .int .u64 0, .int .i64 0, .int .i64 0, .int .i64 0, .int .i64 0, .int .i64 0], .int .i64 t10_1, .int .i64 0]) (results_list (rs := [.cell 2 28, .tmp 3, .tmp 4]) rfl (by simp) (Vals.cell g4 28 #[.int .i64 (wrap64 (rd l0 0)), .int .i64 (wrap64 (rd l0 4)), .int .i64 t32_1, .int .i64 t37_1, .int .u64 t42_1, .int .i64 t42_2, .int .i64 t47_1, .int .i64 t52_1, .int .i64 0, .int .u64 0, .int .i64 0, .int .i64 0, .int .i64 0, .int .i64 0, .int .i64 0, .int .i64 0, .int .i64 0, .int .u64 0, .int .i64 0, .int .i64 0, .int .i64 0, .int .i64 0, .int .i64 0] (0, 0) _ (hS.get 21 rfl) ((hBw62_w59.block g4 (blk_lt hbxw59)).trans hbxw59) Try.underlying28 rfl (by kernel_rfl) (Vals.at (hS.get 1 rfl) (Vals.at (hS.get 0 rfl) .nil)))) hS.nodef ⟨rfl, hBw62_w⟩
                    · rw [if_neg c10] at H
                      exact absurd H (by simp)
          · rw [if_neg c5] at H
            simp only [Option.some.injEq, Prod.mk.injEq] at H
            obtain ⟨rfl, rfl, rfl, rfl, rfl, rfl, rfl, rfl, rfl, rfl, rfl, rfl, rfl, rfl, rfl, rfl, rfl, rfl, rfl, rfl, rfl, rfl, rfl, rfl, rfl⟩ := H
            refine calls_of_wp (fn := Try.f19) (by kernel_rfl) rfl ?_
            have hS := St.enter #[.slice A0 l0.length c0] 90 (by simp) [(0, .slice A0 l0.length c0)] (by simp)
            have HB0 := Below.refl w.heap.size w
            refine wp_seq_k (fun K1 hK1 => ?_)
            refine reg_seq (N := 90) (bs := [(0, .slice A0 l0.length c0)]) (I := fun x => Below w.heap.size w x) (ps := [IsB #[.int .i64 0, .int .i64 0, .int .i64 0, .int .i64 0, .int .u64 0, .int .i64 0, .int .i64 0, .int .i64 0, .int .i64 0, .int .u64 0, .int .i64 0, .int .i64 0, .int .i64 0, .int .i64 0, .int .i64 0, .int .i64 0, .int .i64 0, .int .u64 0, .int .i64 0, .int .i64 0, .int .i64 0, .int .i64 0, .int .i64 0] 28 w.heap.size, IsV (.int .i64 0), IsV (.int .i64 0)]) (by kernel_rfl) ?_ ?_ rfl hS HB0 ?_ ?_
            · exact fun x y hI hb => below_step hI hb
            · exact AllStay.cons (Stays.b _ _ _) (AllStay.cons (Stays.v _) (AllStay.cons (Stays.v _) (AllStay.nil)))
            · refine Steps.cons (fun a w hS hI hp => ok_on rfl (does_var (x_alloc rfl (by kernel_rfl)) (hI).size)) ?_
              refine Steps.cons (fun a w hS hI hp => ok_on rfl (does_val (x_assign rfl (rfl)) rfl)) ?_
              refine Steps.cons (fun a w hS hI hp => ok_on rfl (does_val (x_assign rfl (rfl)) rfl)) ?_
              exact Steps.nil
            clear hS
            intro at2 w3 hS hI hp
            have hBw3_w := hI
            obtain ⟨g4, hv2, hgeg4, hbxg4⟩ := (show IsB _ 28 _ (sl _ 2) _ from hp 0 (by decide))
            have hv3 : sl _ 3 = .int .i64 0 := hp 1 (by decide)
            have hv4 : sl _ 4 = .int .i64 0 := hp 2 (by decide)
            have hBw3_w3 := Below.refl w3.heap.size w3
            have hS := hS.cons hv2
            have hS := hS.cons hv3
            have hS := hS.cons hv4
            clear hp hI hv2 hv3 hv4
            refine hK1 _ _ ?_
            clear hK1 K1
            refine wp_seq_k (fun K5 hK5 => ?_)
            refine wp_seq_k (fun K6 hK6 => ?_)
            refine reg_seq (N := 90) (bs := [(4, .int .i64 0), (3, .int .i64 0), (2, .pointer (some ⟨g4, 0, none⟩)), (0, .slice A0 l0.length c0)]) (I := fun x => Below w.heap.size w x ∧ Below w3.heap.size w3 x) (ps := [IsV (.slice A0 l0.length c0), IsV (.int .i64 (l0.length : Int)), IsV (.bool (decide ((l0.length : Int) < 34)))]) (by kernel_rfl) ?_ ?_ rfl hS ⟨hBw3_w, hBw3_w3⟩ ?_ ?_
            · exact fun x y hI hb => ⟨below_step hI.1 hb, below_step hI.2 hb⟩
            · exact AllStay.cons (Stays.v _) (AllStay.cons (Stays.v _) (AllStay.cons (Stays.v _) (AllStay.nil)))
            · refine Steps.cons (fun a w hS hI hp => ok_on rfl (does_val (x_move rfl (hS.get 3 rfl)) rfl)) ?_
              refine Steps.cons (fun a w hS hI hp => ok_on rfl (does_val (x_len (e := 5) rfl (by kernel_rfl) ((hp.get 0 (by rfl) rfl rfl))) rfl)) ?_
              refine Steps.cons (fun a w hS hI hp => ok_on rfl (does_val (x_bin rfl ((hp.get 1 (by rfl) rfl rfl)) (rfl) (b_lss _ _ _ _ _ _)) rfl)) ?_
              exact Steps.nil
            clear hS
            intro at7 w8 hS hI hp
            have hBw8_w := hI.1
            have hBw8_w3 := hI.2
            have hv10 : sl _ 10 = .bool (decide ((l0.length : Int) < 34)) := hp 2 (by decide)
            have hBw8_w8 := Below.refl w8.heap.size w8
            have hS := hS.cons hv10
            clear hp hI hv10
            refine hK6 _ _ ?_
            clear hK6 K6
            refine wp_cond_false ((hS.get 0 rfl).trans (bF (decide_eq_false c1))) ?_
            refine wp_skip ?_
            refine hK5 _ _ ?_
            clear hK5 K5
            refine wp_seq_k (fun K9 hK9 => ?_)
            refine reg_seq (N := 90) (bs := [(10, .bool (decide ((l0.length : Int) < 34))), (4, .int .i64 0), (3, .int .i64 0), (2, .pointer (some ⟨g4, 0, none⟩)), (0, .slice A0 l0.length c0)]) (I := fun x => Below w.heap.size w x ∧ Below w3.heap.size w3 x ∧ Below w8.heap.size w8 x) (ps := [IsV (.slice A0 l0.length c0), IsV (.tuple #[.int .i64 t10_1, .bool t10_2]), IsV (.tuple #[.int .i64 t10_1, .bool t10_2]), IsV (.int .i64 t10_1), IsV (.bool t10_2), IsV (.int .i64 t10_1), IsV (.bool t10_2)]) (by kernel_rfl) ?_ ?_ rfl hS ⟨hBw8_w, hBw8_w3, hBw8_w8⟩ ?_ ?_
            · exact fun x y hI hb => ⟨below_step hI.1 hb, below_step hI.2.1 hb, below_step hI.2.2 hb⟩
            · exact AllStay.cons (Stays.v _) (AllStay.cons (Stays.v _) (AllStay.cons (Stays.v _) (AllStay.cons (Stays.v _) (AllStay.cons (Stays.v _) (AllStay.cons (Stays.v _) (AllStay.cons (Stays.v _) (AllStay.nil)))))))
            · refine Steps.cons (fun a w hS hI hp => ok_on rfl (does_val (x_move rfl (hS.get 4 rfl)) rfl)) ?_
              refine Steps.cons (fun a w hS hI hp => ok_on rfl (does_call (by kernel_rfl) (ar3 ((hp.get 0 (by rfl) rfl rfl)) (rfl) (rfl)) ((carillonref01_Get.calls k _ _ l0 2 2 t10_1 t10_2 _ (Kd.C_below HR0 hI.1) HC0 At10).mono fun _ _ h => ⟨_, h.1, h.2.below, rfl⟩))) ?_
              refine Steps.cons (fun a w hS hI hp => ok_on rfl (does_val (x_move rfl ((hp.get 1 (by rfl) rfl rfl))) rfl)) ?_
              refine Steps.cons (fun a w hS hI hp => ok_on rfl (does_val (x_extract rfl ((hp.get 2 (by rfl) rfl rfl)) rfl) rfl)) ?_
              refine Steps.cons (fun a w hS hI hp => ok_on rfl (does_val (x_extract rfl ((hp.get 2 (by rfl) rfl rfl)) rfl) rfl)) ?_
              refine Steps.cons (fun a w hS hI hp => ok_on rfl (does_val (x_assign rfl ((hp.get 3 (by rfl) rfl rfl))) rfl)) ?_
              refine Steps.cons (fun a w hS hI hp => ok_on rfl (does_val (x_assign rfl ((hp.get 4 (by rfl) rfl rfl))) rfl)) ?_
              exact Steps.nil
            clear hS
            intro at11 w12 hS hI hp
            have hBw12_w := hI.1
            have hBw12_w3 := hI.2.1
            have hBw12_w8 := hI.2.2
            have hv5 : sl _ 5 = .int .i64 t10_1 := hp 5 (by decide)
            have hBw12_w12 := Below.refl w12.heap.size w12
            have hS := hS.cons hv5
            clear hp hI hv5
            refine hK9 _ _ ?_
            clear hK9 K9
            refine wp_seq_k (fun K13 hK13 => ?_)
            refine wp_seq_k (fun K14 hK14 => ?_)
            refine reg_seq (N := 90) (bs := [(5, .int .i64 t10_1), (10, .bool (decide ((l0.length : Int) < 34))), (4, .int .i64 0), (3, .int .i64 0), (2, .pointer (some ⟨g4, 0, none⟩)), (0, .slice A0 l0.length c0)]) (I := fun x => Below w.heap.size w x ∧ Below w3.heap.size w3 x ∧ Below w12.heap.size w12 x) (ps := [IsV (.slice A0 l0.length c0), IsA (.int .u8 (rd l0 0)), IsV (.int .u8 (rd l0 0)), IsV (.int .i64 (wrap64 (rd l0 0))), IsV (.bool t15), IsV (.bool (!t15)), IsV (.bool (!t15)), IsV (.slice A0 l0.length c0), IsA (.int .u8 (rd l0 1)), IsV (.int .u8 (rd l0 1)), IsV (.int .u8 (Int.tmod (rd l0 1) 16)), IsV (.bool (!decide ((Int.tmod (rd l0 1) 16) = 2))), IsV (.bool (!decide ((Int.tmod (rd l0 1) 16) = 2))), IsV (.bool (!decide ((Int.tmod (rd l0 1) 16) = 2))), IsV undef, IsV undef, IsV (.bool true), IsV (.bool true), IsV undef, IsV undef, IsV (.bool true)]) (by kernel_rfl) ?_ ?_ rfl hS ⟨hBw12_w, hBw12_w3, hBw12_w12⟩ ?_ ?_
            · exact fun x y hI hb => ⟨below_step hI.1 hb, below_step hI.2.1 hb, below_step hI.2.2 hb⟩
            · exact AllStay.cons (Stays.v _) (AllStay.cons (Stays.a _) (AllStay.cons (Stays.v _) (AllStay.cons (Stays.v _) (AllStay.cons (Stays.v _) (AllStay.cons (Stays.v _) (AllStay.cons (Stays.v _) (AllStay.cons (Stays.v _) (AllStay.cons (Stays.a _) (AllStay.cons (Stays.v _) (AllStay.cons (Stays.v _) (AllStay.cons (Stays.v _) (AllStay.cons (Stays.v _) (AllStay.cons (Stays.v _) (AllStay.cons (Stays.v _) (AllStay.cons (Stays.v _) (AllStay.cons (Stays.v _) (AllStay.cons (Stays.v _) (AllStay.cons (Stays.v _) (AllStay.cons (Stays.v _) (AllStay.cons (Stays.v _) (AllStay.nil)))))))))))))))))))))
            · refine Steps.cons (fun a w hS hI hp => ok_on rfl (does_val (x_move rfl (hS.get 5 rfl)) rfl)) ?_
              refine Steps.cons (fun a w hS hI hp => ok_on rfl (does_index (e := 5) (xs := l0) rfl ((hp.get 0 (by rfl) rfl rfl)) (rfl) (by kernel_rfl) (by kernel_rfl) (by decide) c2 c2 ((Kd.C_below HR0 hI.1)))) ?_
              refine Steps.cons (fun a w hS hI hp => ok_on rfl (((hp.get 1 (by rfl) rfl rfl)).elim fun _ h_ => does_val (x_load1 (d := .int .u8) rfl h_.1 (by kernel_rfl) rfl h_.2.2) rfl)) ?_
              refine Steps.cons (fun a w hS hI hp => ok_on rfl (does_val ((i64_w (rd l0 0)) ▸ x_convI rfl (by kernel_rfl) (by kernel_rfl) ((hp.get 2 (by rfl) rfl rfl))) rfl)) ?_
              refine Steps.cons (fun a w hS hI hp => ok_on rfl (does_call (by kernel_rfl) (ar1 ((hp.get 3 (by rfl) rfl rfl))) ((carillonref06_Known.calls (wrap64 (rd l0 0)) t15 _  At15).mono fun _ _ h => ⟨_, h.1, h.2.below, rfl⟩))) ?_
              refine Steps.cons (fun a w hS hI hp => ok_on rfl (does_val (x_not rfl ((hp.get 4 (by rfl) rfl rfl))) rfl)) ?_
              refine Steps.cons (fun a w hS hI hp => ok_on rfl (does_val (x_move rfl ((hp.get 5 (by rfl) rfl rfl))) rfl)) ?_
              refine Steps.cons (fun a w hS hI hp => ok_if (d := 23) rfl rfl (by rw [hS.size]; decide) (((hp.get 6 (by rfl) rfl rfl)).trans (bF (congrArg (!·) c3))) (does_val (x_move rfl (hS.get 5 rfl)) rfl)) ?_
              refine Steps.cons (fun a w hS hI hp => ok_if (d := 23) rfl rfl (by rw [hS.size]; decide) (((hp.get 6 (by rfl) rfl rfl)).trans (bF (congrArg (!·) c3))) (does_index (e := 5) (xs := l0) rfl ((hp.get 7 (by rfl) rfl rfl)) (rfl) (by kernel_rfl) (by kernel_rfl) (by decide) c4 c4 ((Kd.C_below HR0 hI.1)))) ?_
              refine Steps.cons (fun a w hS hI hp => ok_if (d := 23) rfl rfl (by rw [hS.size]; decide) (((hp.get 6 (by rfl) rfl rfl)).trans (bF (congrArg (!·) c3))) (((hp.get 8 (by rfl) rfl rfl)).elim fun _ h_ => does_val (x_load1 (d := .int .u8) rfl h_.1 (by kernel_rfl) rfl h_.2.2) rfl)) ?_
              refine Steps.cons (fun a w hS hI hp => ok_if (d := 23) rfl rfl (by rw [hS.size]; decide) (((hp.get 6 (by rfl) rfl rfl)).trans (bF (congrArg (!·) c3))) (does_val (x_bin rfl ((hp.get 9 (by rfl) rfl rfl)) (rfl) (b_rem _ _ _ _ _ _ (by decide))) rfl)) ?_
              refine Steps.cons (fun a w hS hI hp => ok_if (d := 23) rfl rfl (by rw [hS.size]; decide) (((hp.get 6 (by rfl) rfl rfl)).trans (bF (congrArg (!·) c3))) (does_val (x_bin rfl ((hp.get 10 (by rfl) rfl rfl)) (rfl) (b_neq _ _ _ _ _ _)) rfl)) ?_
              refine Steps.cons (fun a w hS hI hp => ok_on rfl (does_val (x_pickF rfl (((hp.get 6 (by rfl) rfl rfl)).trans (bF (congrArg (!·) c3))) ((hp.get 11 (by rfl) rfl rfl))) rfl)) ?_
              refine Steps.cons (fun a w hS hI hp => ok_on rfl (does_val (x_move rfl ((hp.get 12 (by rfl) rfl rfl))) rfl)) ?_
              refine Steps.cons (fun a w hS hI hp => ok_off (d := 30) rfl rfl (by rw [hS.size]; decide) (((hp.get 13 (by rfl) rfl rfl)).trans (bT (congrArg (!·) (decide_eq_false c5)))) rfl) ?_
              refine Steps.cons (fun a w hS hI hp => ok_off (d := 30) rfl rfl (by rw [hS.size]; decide) (((hp.get 13 (by rfl) rfl rfl)).trans (bT (congrArg (!·) (decide_eq_false c5)))) rfl) ?_
              refine Steps.cons (fun a w hS hI hp => ok_on rfl (does_val (x_pickT rfl (((hp.get 13 (by rfl) rfl rfl)).trans (bT (congrArg (!·) (decide_eq_false c5)))) (rfl)) rfl)) ?_
              refine Steps.cons (fun a w hS hI hp => ok_on rfl (does_val (x_move rfl ((hp.get 16 (by rfl) rfl rfl))) rfl)) ?_
              refine Steps.cons (fun a w hS hI hp => ok_off (d := 34) rfl rfl (by rw [hS.size]; decide) (((hp.get 17 (by rfl) rfl rfl)).trans (bT rfl)) rfl) ?_
              refine Steps.cons (fun a w hS hI hp => ok_off (d := 34) rfl rfl (by rw [hS.size]; decide) (((hp.get 17 (by rfl) rfl rfl)).trans (bT rfl)) rfl) ?_
              refine Steps.cons (fun a w hS hI hp => ok_on rfl (does_val (x_pickT rfl (((hp.get 17 (by rfl) rfl rfl)).trans (bT rfl)) (rfl)) rfl)) ?_
              exact Steps.nil
            clear hS
            intro at16 w17 hS hI hp
            have hBw17_w := hI.1
            have hBw17_w3 := hI.2.1
            have hBw17_w12 := hI.2.2
            have hv37 : sl _ 37 = .bool true := hp 20 (by decide)
            have hBw17_w17 := Below.refl w17.heap.size w17
            have hS := hS.cons hv37
            clear hp hI hv37
            refine hK14 _ _ ?_
            clear hK14 K14
            refine wp_cond_true ((hS.get 0 rfl).trans (bT rfl)) ?_
            refine wp_seq_k (fun K18 hK18 => ?_)
            refine reg_seq_tail 1 (N := 90) (bs := [(37, .bool true), (5, .int .i64 t10_1), (10, .bool (decide ((l0.length : Int) < 34))), (4, .int .i64 0), (3, .int .i64 0), (2, .pointer (some ⟨g4, 0, none⟩)), (0, .slice A0 l0.length c0)]) (I := fun x => Below w.heap.size w x ∧ Below w3.heap.size w3 x ∧ Below w17.heap.size w17 x) (ps := [IsV (.agg #[.int .i64 0, .int .i64 0, .int .i64 0, .int .i64 0, .int .u64 0, .int .i64 0, .int .i64 0, .int .i64 0, .int .i64 0, .int .u64 0, .int .i64 0, .int .i64 0, .int .i64 0, .int .i64 0, .int .i64 0, .int .i64 0, .int .i64 0, .int .u64 0, .int .i64 0, .int .i64 0, .int .i64 0, .int .i64 0, .int .i64 0])]) (by kernel_rfl) ?_ ?_ rfl hS ⟨hBw17_w, hBw17_w3, hBw17_w17⟩ ?_ ?_
            · exact fun x y hI hb => ⟨below_step hI.1 hb, below_step hI.2.1 hb, below_step hI.2.2 hb⟩
            · exact AllStay.cons (Stays.v _) (AllStay.nil)
            · refine Steps.cons (fun a w hS hI hp => ok_on rfl (does_val (x_build (vs := []) rfl (by rw [Array.toList_map]; exact (show [] = _ from rfl)) (by kernel_rfl)) rfl)) ?_
              exact Steps.nil
            clear hS
            intro at19 w20 hS hI hp
            have hBw20_w := hI.1
            have hBw20_w3 := hI.2.1
            have hBw20_w17 := hI.2.2
            have hv38 : sl _ 38 = .agg #[.int .i64 0, .int .i64 0, .int .i64 0, .int .i64 0, .int .u64 0, .int .i64 0, .int .i64 0, .int .i64 0, .int .i64 0, .int .u64 0, .int .i64 0, .int .i64 0, .int .i64 0, .int .i64 0, .int .i64 0, .int .i64 0, .int .i64 0, .int .u64 0, .int .i64 0, .int .i64 0, .int .i64 0, .int .i64 0, .int .i64 0] := hp 0 (by decide)
            have hBw20_w20 := Below.refl w20.heap.size w20
            have hS := hS.cons hv38
            clear hp hI hv38
            show wpList _ _ _ [_, _, _] _ _
            refine list_step rfl (does_storeAll (g := g4) (cs := #[.int .i64 0, .int .i64 0, .int .i64 0, .int .i64 0, .int .u64 0, .int .i64 0, .int .i64 0, .int .i64 0, .int .i64 0, .int .u64 0, .int .i64 0, .int .i64 0, .int .i64 0, .int .i64 0, .int .i64 0, .int .i64 0, .int .i64 0, .int .u64 0, .int .i64 0, .int .i64 0, .int .i64 0, .int .i64 0, .int .i64 0]) rfl (hS.get 6 rfl) (hS.get 0 rfl) ((hBw20_w3.block g4 (blk_lt hbxg4)).trans hbxg4) (by kernel_rfl) (by kernel_rfl) (by kernel_rfl)) ?_
            rintro vw21 w21 ⟨rfl, hbxw21, hT⟩
            have hBw21_w := hT.below hBw20_w hgeg4 (hBw20_w).size
            have hBw21_w21 := Below.refl w21.heap.size w21
            clear hT
            refine list_step rfl (R := fun v w' => Below _ _ w' ∧ (IsV (.int .i64 0)) v w') (does_val (x_assign rfl (rfl)) rfl) ?_
            rintro vw22 w22 ⟨hb, he⟩
            have hBw22_w := below_step hBw21_w hb
            have hBw22_w21 := below_step hBw21_w21 hb
            have hBw22_w22 := Below.refl w22.heap.size w22
            obtain rfl : vw22 = .int .i64 0 := he
            replace hS := (((((((hS.nil).cons (hS.get 7 rfl)).cons (hS.get 6 rfl)).cons (hS.get 4 rfl)).cons (hS.get 3 rfl)).cons (hS.get 2 rfl)).cons (hS.get 1 rfl)).cons (hS.get 0 rfl)
            replace hS := hS.put (v := .int .i64 0) (d := 3) (by decide) (by rfl)
            refine list_step rfl (R := fun v w' => Below _ _ w' ∧ (IsV (.int .i64 4)) v w') (does_val (x_assign rfl (rfl)) rfl) ?_
            rintro vw23 w23 ⟨hb, he⟩
            have hBw23_w := below_step hBw22_w hb
            have hBw23_w21 := below_step hBw22_w21 hb
            have hBw23_w22 := below_step hBw22_w22 hb
            have hBw23_w23 := Below.refl w23.heap.size w23
            obtain rfl : vw23 = .int .i64 4 := he
            replace hS := (((((((hS.nil).cons (hS.get 7 rfl)).cons (hS.get 6 rfl)).cons (hS.get 4 rfl)).cons (hS.get 3 rfl)).cons (hS.get 2 rfl)).cons (hS.get 1 rfl)).cons (hS.get 0 rfl)
            replace hS := hS.put (v := .int .i64 4) (d := 4) (by decide) (by rfl)
            refine wpList_nil ?_
            refine hK18 _ _ ?_
            clear hK18 K18
            refine wp_ret ?_
            (try simp only [Exit.then, Exit.inBlock])
            exact bodyPost_ret (v := .tuple #[.agg #[.int .i64 0, .int .i64 0, .int .i64 0, .int .i64 0, .int .u64 0, .int .i64 0, .int .i64 0, .int .i64 0, .int .i64 0, .int .u64 0, .int .i64 0, .int .i64 0, .int .i64 0, .int .i64 0, .int .i64 0, .int .i64 0, .int .i64 0, .int .u64 0, .int .i64 0, .int .i64 0, .int .i64 0, .int .i64 0, .int .i64 0], .int .i64 0, .int .i64 4]) (results_list (rs := [.cell 2 28, .tmp 3, .tmp 4]) rfl (by simp) (Vals.cell g4 28 #[.int .i64 0, .int .i64 0, .int .i64 0, .int .i64 0, .int .u64 0, .int .i64 0, .int .i64 0, .int .i64 0, .int .i64 0, .int .u64 0, .int .i64 0, .int .i64 0, .int .i64 0, .int .i64 0, .int .i64 0, .int .i64 0, .int .i64 0, .int .u64 0, .int .i64 0, .int .i64 0, .int .i64 0, .int .i64 0, .int .i64 0] (0, 0) _ (hS.get 6 rfl) ((hBw23_w21.block g4 (blk_lt hbxw21)).trans hbxw21) Try.underlying28 rfl (by kernel_rfl) (Vals.at (hS.get 1 rfl) (Vals.at (hS.get 0 rfl) .nil)))) hS.nodef ⟨rfl, hBw23_w⟩
        · rw [if_neg c4] at H
          exact absurd H (by simp)
      · rw [if_neg c3] at H
        simp only [Option.some.injEq, Prod.mk.injEq] at H
        obtain ⟨rfl, rfl, rfl, rfl, rfl, rfl, rfl, rfl, rfl, rfl, rfl, rfl, rfl, rfl, rfl, rfl, rfl, rfl, rfl, rfl, rfl, rfl, rfl, rfl, rfl⟩ := H
        refine calls_of_wp (fn := Try.f19) (by kernel_rfl) rfl ?_
        have hS := St.enter #[.slice A0 l0.length c0] 90 (by simp) [(0, .slice A0 l0.length c0)] (by simp)
        have HB0 := Below.refl w.heap.size w
        refine wp_seq_k (fun K1 hK1 => ?_)
        refine reg_seq (N := 90) (bs := [(0, .slice A0 l0.length c0)]) (I := fun x => Below w.heap.size w x) (ps := [IsB #[.int .i64 0, .int .i64 0, .int .i64 0, .int .i64 0, .int .u64 0, .int .i64 0, .int .i64 0, .int .i64 0, .int .i64 0, .int .u64 0, .int .i64 0, .int .i64 0, .int .i64 0, .int .i64 0, .int .i64 0, .int .i64 0, .int .i64 0, .int .u64 0, .int .i64 0, .int .i64 0, .int .i64 0, .int .i64 0, .int .i64 0] 28 w.heap.size, IsV (.int .i64 0), IsV (.int .i64 0)]) (by kernel_rfl) ?_ ?_ rfl hS HB0 ?_ ?_
        · exact fun x y hI hb => below_step hI hb
        · exact AllStay.cons (Stays.b _ _ _) (AllStay.cons (Stays.v _) (AllStay.cons (Stays.v _) (AllStay.nil)))
        · refine Steps.cons (fun a w hS hI hp => ok_on rfl (does_var (x_alloc rfl (by kernel_rfl)) (hI).size)) ?_
          refine Steps.cons (fun a w hS hI hp => ok_on rfl (does_val (x_assign rfl (rfl)) rfl)) ?_
          refine Steps.cons (fun a w hS hI hp => ok_on rfl (does_val (x_assign rfl (rfl)) rfl)) ?_
          exact Steps.nil
        clear hS
        intro at2 w3 hS hI hp
        have hBw3_w := hI
        obtain ⟨g4, hv2, hgeg4, hbxg4⟩ := (show IsB _ 28 _ (sl _ 2) _ from hp 0 (by decide))
        have hv3 : sl _ 3 = .int .i64 0 := hp 1 (by decide)
        have hv4 : sl _ 4 = .int .i64 0 := hp 2 (by decide)
        have hBw3_w3 := Below.refl w3.heap.size w3
        have hS := hS.cons hv2
        have hS := hS.cons hv3
        have hS := hS.cons hv4
        clear hp hI hv2 hv3 hv4
        refine hK1 _ _ ?_
        clear hK1 K1
        refine wp_seq_k (fun K5 hK5 => ?_)
        refine wp_seq_k (fun K6 hK6 => ?_)
        refine reg_seq (N := 90) (bs := [(4, .int .i64 0), (3, .int .i64 0), (2, .pointer (some ⟨g4, 0, none⟩)), (0, .slice A0 l0.length c0)]) (I := fun x => Below w.heap.size w x ∧ Below w3.heap.size w3 x) (ps := [IsV (.slice A0 l0.length c0), IsV (.int .i64 (l0.length : Int)), IsV (.bool (decide ((l0.length : Int) < 34)))]) (by kernel_rfl) ?_ ?_ rfl hS ⟨hBw3_w, hBw3_w3⟩ ?_ ?_
        · exact fun x y hI hb => ⟨below_step hI.1 hb, below_step hI.2 hb⟩
        · exact AllStay.cons (Stays.v _) (AllStay.cons (Stays.v _) (AllStay.cons (Stays.v _) (AllStay.nil)))
        · refine Steps.cons (fun a w hS hI hp => ok_on rfl (does_val (x_move rfl (hS.get 3 rfl)) rfl)) ?_
          refine Steps.cons (fun a w hS hI hp => ok_on rfl (does_val (x_len (e := 5) rfl (by kernel_rfl) ((hp.get 0 (by rfl) rfl rfl))) rfl)) ?_
          refine Steps.cons (fun a w hS hI hp => ok_on rfl (does_val (x_bin rfl ((hp.get 1 (by rfl) rfl rfl)) (rfl) (b_lss _ _ _ _ _ _)) rfl)) ?_
          exact Steps.nil
        clear hS
        intro at7 w8 hS hI hp
        have hBw8_w := hI.1
        have hBw8_w3 := hI.2
        have hv10 : sl _ 10 = .bool (decide ((l0.length : Int) < 34)) := hp 2 (by decide)
        have hBw8_w8 := Below.refl w8.heap.size w8
        have hS := hS.cons hv10
        clear hp hI hv10
        refine hK6 _ _ ?_
        clear hK6 K6
        refine wp_cond_false ((hS.get 0 rfl).trans (bF (decide_eq_false c1))) ?_
        refine wp_skip ?_
        refine hK5 _ _ ?_
        clear hK5 K5
        refine wp_seq_k (fun K9 hK9 => ?_)
        refine reg_seq (N := 90) (bs := [(10, .bool (decide ((l0.length : Int) < 34))), (4, .int .i64 0), (3, .int .i64 0), (2, .pointer (some ⟨g4, 0, none⟩)), (0, .slice A0 l0.length c0)]) (I := fun x => Below w.heap.size w x ∧ Below w3.heap.size w3 x ∧ Below w8.heap.size w8 x) (ps := [IsV (.slice A0 l0.length c0), IsV (.tuple #[.int .i64 t10_1, .bool t10_2]), IsV (.tuple #[.int .i64 t10_1, .bool t10_2]), IsV (.int .i64 t10_1), IsV (.bool t10_2), IsV (.int .i64 t10_1), IsV (.bool t10_2)]) (by kernel_rfl) ?_ ?_ rfl hS ⟨hBw8_w, hBw8_w3, hBw8_w8⟩ ?_ ?_
        · exact fun x y hI hb => ⟨below_step hI.1 hb, below_step hI.2.1 hb, below_step hI.2.2 hb⟩
        · exact AllStay.cons (Stays.v _) (AllStay.cons (Stays.v _) (AllStay.cons (Stays.v _) (AllStay.cons (Stays.v _) (AllStay.cons (Stays.v _) (AllStay.cons (Stays.v _) (AllStay.cons (Stays.v _) (AllStay.nil)))))))
        · refine Steps.cons (fun a w hS hI hp => ok_on rfl (does_val (x_move rfl (hS.get 4 rfl)) rfl)) ?_
          refine Steps.cons (fun a w hS hI hp => ok_on rfl (does_call (by kernel_rfl) (ar3 ((hp.get 0 (by rfl) rfl rfl)) (rfl) (rfl)) ((carillonref01_Get.calls k _ _ l0 2 2 t10_1 t10_2 _ (Kd.C_below HR0 hI.1) HC0 At10).mono fun _ _ h => ⟨_, h.1, h.2.below, rfl⟩))) ?_
          refine Steps.cons (fun a w hS hI hp => ok_on rfl (does_val (x_move rfl ((hp.get 1 (by rfl) rfl rfl))) rfl)) ?_
          refine Steps.cons (fun a w hS hI hp => ok_on rfl (does_val (x_extract rfl ((hp.get 2 (by rfl) rfl rfl)) rfl) rfl)) ?_
          refine Steps.cons (fun a w hS hI hp => ok_on rfl (does_val (x_extract rfl ((hp.get 2 (by rfl) rfl rfl)) rfl) rfl)) ?_
          refine Steps.cons (fun a w hS hI hp => ok_on rfl (does_val (x_assign rfl ((hp.get 3 (by rfl) rfl rfl))) rfl)) ?_
          refine Steps.cons (fun a w hS hI hp => ok_on rfl (does_val (x_assign rfl ((hp.get 4 (by rfl) rfl rfl))) rfl)) ?_
          exact Steps.nil
        clear hS
        intro at11 w12 hS hI hp
        have hBw12_w := hI.1
        have hBw12_w3 := hI.2.1
        have hBw12_w8 := hI.2.2
        have hv5 : sl _ 5 = .int .i64 t10_1 := hp 5 (by decide)
        have hBw12_w12 := Below.refl w12.heap.size w12
        have hS := hS.cons hv5
        clear hp hI hv5
        refine hK9 _ _ ?_
        clear hK9 K9
        refine wp_seq_k (fun K13 hK13 => ?_)
        refine wp_seq_k (fun K14 hK14 => ?_)
        refine reg_seq (N := 90) (bs := [(5, .int .i64 t10_1), (10, .bool (decide ((l0.length : Int) < 34))), (4, .int .i64 0), (3, .int .i64 0), (2, .pointer (some ⟨g4, 0, none⟩)), (0, .slice A0 l0.length c0)]) (I := fun x => Below w.heap.size w x ∧ Below w3.heap.size w3 x ∧ Below w12.heap.size w12 x) (ps := [IsV (.slice A0 l0.length c0), IsA (.int .u8 (rd l0 0)), IsV (.int .u8 (rd l0 0)), IsV (.int .i64 (wrap64 (rd l0 0))), IsV (.bool t15), IsV (.bool (!t15)), IsV (.bool (!t15)), IsV undef, IsV undef, IsV undef, IsV undef, IsV undef, IsV (.bool true), IsV (.bool true), IsV undef, IsV undef, IsV (.bool true), IsV (.bool true), IsV undef, IsV undef, IsV (.bool true)]) (by kernel_rfl) ?_ ?_ rfl hS ⟨hBw12_w, hBw12_w3, hBw12_w12⟩ ?_ ?_
        · exact fun x y hI hb => ⟨below_step hI.1 hb, below_step hI.2.1 hb, below_step hI.2.2 hb⟩
        · exact AllStay.cons (Stays.v _) (AllStay.cons (Stays.a _) (AllStay.cons (Stays.v _) (AllStay.cons (Stays.v _) (AllStay.cons (Stays.v _) (AllStay.cons (Stays.v _) (AllStay.cons (Stays.v _) (AllStay.cons (Stays.v _) (AllStay.cons (Stays.v _) (AllStay.cons (Stays.v _) (AllStay.cons (Stays.v _) (AllStay.cons (Stays.v _) (AllStay.cons (Stays.v _) (AllStay.cons (Stays.v _) (AllStay.cons (Stays.v _) (AllStay.cons (Stays.v _) (AllStay.cons (Stays.v _) (AllStay.cons (Stays.v _) (AllStay.cons (Stays.v _) (AllStay.cons (Stays.v _) (AllStay.cons (Stays.v _) (AllStay.nil)))))))))))))))))))))
        · refine Steps.cons (fun a w hS hI hp => ok_on rfl (does_val (x_move rfl (hS.get 5 rfl)) rfl)) ?_
          refine Steps.cons (fun a w hS hI hp => ok_on rfl (does_index (e := 5) (xs := l0) rfl ((hp.get 0 (by rfl) rfl rfl)) (rfl) (by kernel_rfl) (by kernel_rfl) (by decide) c2 c2 ((Kd.C_below HR0 hI.1)))) ?_
          refine Steps.cons (fun a w hS hI hp => ok_on rfl (((hp.get 1 (by rfl) rfl rfl)).elim fun _ h_ => does_val (x_load1 (d := .int .u8) rfl h_.1 (by kernel_rfl) rfl h_.2.2) rfl)) ?_
          refine Steps.cons (fun a w hS hI hp => ok_on rfl (does_val ((i64_w (rd l0 0)) ▸ x_convI rfl (by kernel_rfl) (by kernel_rfl) ((hp.get 2 (by rfl) rfl rfl))) rfl)) ?_
          refine Steps.cons (fun a w hS hI hp => ok_on rfl (does_call (by kernel_rfl) (ar1 ((hp.get 3 (by rfl) rfl rfl))) ((carillonref06_Known.calls (wrap64 (rd l0 0)) t15 _  At15).mono fun _ _ h => ⟨_, h.1, h.2.below, rfl⟩))) ?_
          refine Steps.cons (fun a w hS hI hp => ok_on rfl (does_val (x_not rfl ((hp.get 4 (by rfl) rfl rfl))) rfl)) ?_
          refine Steps.cons (fun a w hS hI hp => ok_on rfl (does_val (x_move rfl ((hp.get 5 (by rfl) rfl rfl))) rfl)) ?_
          refine Steps.cons (fun a w hS hI hp => ok_off (d := 23) rfl rfl (by rw [hS.size]; decide) (((hp.get 6 (by rfl) rfl rfl)).trans (bT (congrArg (!·) (Bool.eq_false_iff.2 c3)))) rfl) ?_
          refine Steps.cons (fun a w hS hI hp => ok_off (d := 23) rfl rfl (by rw [hS.size]; decide) (((hp.get 6 (by rfl) rfl rfl)).trans (bT (congrArg (!·) (Bool.eq_false_iff.2 c3)))) rfl) ?_
          refine Steps.cons (fun a w hS hI hp => ok_off (d := 23) rfl rfl (by rw [hS.size]; decide) (((hp.get 6 (by rfl) rfl rfl)).trans (bT (congrArg (!·) (Bool.eq_false_iff.2 c3)))) rfl) ?_
          refine Steps.cons (fun a w hS hI hp => ok_off (d := 23) rfl rfl (by rw [hS.size]; decide) (((hp.get 6 (by rfl) rfl rfl)).trans (bT (congrArg (!·) (Bool.eq_false_iff.2 c3)))) rfl) ?_
          refine Steps.cons (fun a w hS hI hp => ok_off (d := 23) rfl rfl (by rw [hS.size]; decide) (((hp.get 6 (by rfl) rfl rfl)).trans (bT (congrArg (!·) (Bool.eq_false_iff.2 c3)))) rfl) ?_
          refine Steps.cons (fun a w hS hI hp => ok_on rfl (does_val (x_pickT rfl (((hp.get 6 (by rfl) rfl rfl)).trans (bT (congrArg (!·) (Bool.eq_false_iff.2 c3)))) (rfl)) rfl)) ?_
          refine Steps.cons (fun a w hS hI hp => ok_on rfl (does_val (x_move rfl ((hp.get 12 (by rfl) rfl rfl))) rfl)) ?_
          refine Steps.cons (fun a w hS hI hp => ok_off (d := 30) rfl rfl (by rw [hS.size]; decide) (((hp.get 13 (by rfl) rfl rfl)).trans (bT rfl)) rfl) ?_
          refine Steps.cons (fun a w hS hI hp => ok_off (d := 30) rfl rfl (by rw [hS.size]; decide) (((hp.get 13 (by rfl) rfl rfl)).trans (bT rfl)) rfl) ?_
          refine Steps.cons (fun a w hS hI hp => ok_on rfl (does_val (x_pickT rfl (((hp.get 13 (by rfl) rfl rfl)).trans (bT rfl)) (rfl)) rfl)) ?_
          refine Steps.cons (fun a w hS hI hp => ok_on rfl (does_val (x_move rfl ((hp.get 16 (by rfl) rfl rfl))) rfl)) ?_
          refine Steps.cons (fun a w hS hI hp => ok_off (d := 34) rfl rfl (by rw [hS.size]; decide) (((hp.get 17 (by rfl) rfl rfl)).trans (bT rfl)) rfl) ?_
          refine Steps.cons (fun a w hS hI hp => ok_off (d := 34) rfl rfl (by rw [hS.size]; decide) (((hp.get 17 (by rfl) rfl rfl)).trans (bT rfl)) rfl) ?_
          refine Steps.cons (fun a w hS hI hp => ok_on rfl (does_val (x_pickT rfl (((hp.get 17 (by rfl) rfl rfl)).trans (bT rfl)) (rfl)) rfl)) ?_
          exact Steps.nil
        clear hS
        intro at16 w17 hS hI hp
        have hBw17_w := hI.1
        have hBw17_w3 := hI.2.1
        have hBw17_w12 := hI.2.2
        have hv37 : sl _ 37 = .bool true := hp 20 (by decide)
        have hBw17_w17 := Below.refl w17.heap.size w17
        have hS := hS.cons hv37
        clear hp hI hv37
        refine hK14 _ _ ?_
        clear hK14 K14
        refine wp_cond_true ((hS.get 0 rfl).trans (bT rfl)) ?_
        refine wp_seq_k (fun K18 hK18 => ?_)
        refine reg_seq_tail 1 (N := 90) (bs := [(37, .bool true), (5, .int .i64 t10_1), (10, .bool (decide ((l0.length : Int) < 34))), (4, .int .i64 0), (3, .int .i64 0), (2, .pointer (some ⟨g4, 0, none⟩)), (0, .slice A0 l0.length c0)]) (I := fun x => Below w.heap.size w x ∧ Below w3.heap.size w3 x ∧ Below w17.heap.size w17 x) (ps := [IsV (.agg #[.int .i64 0, .int .i64 0, .int .i64 0, .int .i64 0, .int .u64 0, .int .i64 0, .int .i64 0, .int .i64 0, .int .i64 0, .int .u64 0, .int .i64 0, .int .i64 0, .int .i64 0, .int .i64 0, .int .i64 0, .int .i64 0, .int .i64 0, .int .u64 0, .int .i64 0, .int .i64 0, .int .i64 0, .int .i64 0, .int .i64 0])]) (by kernel_rfl) ?_ ?_ rfl hS ⟨hBw17_w, hBw17_w3, hBw17_w17⟩ ?_ ?_
        · exact fun x y hI hb => ⟨below_step hI.1 hb, below_step hI.2.1 hb, below_step hI.2.2 hb⟩
        · exact AllStay.cons (Stays.v _) (AllStay.nil)
        · refine Steps.cons (fun a w hS hI hp => ok_on rfl (does_val (x_build (vs := []) rfl (by rw [Array.toList_map]; exact (show [] = _ from rfl)) (by kernel_rfl)) rfl)) ?_
          exact Steps.nil
        clear hS
        intro at19 w20 hS hI hp
        have hBw20_w := hI.1
        have hBw20_w3 := hI.2.1
        have hBw20_w17 := hI.2.2
        have hv38 : sl _ 38 = .agg #[.int .i64 0, .int .i64 0, .int .i64 0, .int .i64 0, .int .u64 0, .int .i64 0, .int .i64 0, .int .i64 0, .int .i64 0, .int .u64 0, .int .i64 0, .int .i64 0, .int .i64 0, .int .i64 0, .int .i64 0, .int .i64 0, .int .i64 0, .int .u64 0, .int .i64 0, .int .i64 0, .int .i64 0, .int .i64 0, .int .i64 0] := hp 0 (by decide)
        have hBw20_w20 := Below.refl w20.heap.size w20
        have hS := hS.cons hv38
        clear hp hI hv38
        show wpList _ _ _ [_, _, _] _ _
        refine list_step rfl (does_storeAll (g := g4) (cs := #[.int .i64 0, .int .i64 0, .int .i64 0, .int .i64 0, .int .u64 0, .int .i64 0, .int .i64 0, .int .i64 0, .int .i64 0, .int .u64 0, .int .i64 0, .int .i64 0, .int .i64 0, .int .i64 0, .int .i64 0, .int .i64 0, .int .i64 0, .int .u64 0, .int .i64 0, .int .i64 0, .int .i64 0, .int .i64 0, .int .i64 0]) rfl (hS.get 6 rfl) (hS.get 0 rfl) ((hBw20_w3.block g4 (blk_lt hbxg4)).trans hbxg4) (by kernel_rfl) (by kernel_rfl) (by kernel_rfl)) ?_
        rintro vw21 w21 ⟨rfl, hbxw21, hT⟩
        have hBw21_w := hT.below hBw20_w hgeg4 (hBw20_w).size
        have hBw21_w21 := Below.refl w21.heap.size w21
        clear hT
        refine list_step rfl (R := fun v w' => Below _ _ w' ∧ (IsV (.int .i64 0)) v w') (does_val (x_assign rfl (rfl)) rfl) ?_
        rintro vw22 w22 ⟨hb, he⟩
        have hBw22_w := below_step hBw21_w hb
        have hBw22_w21 := below_step hBw21_w21 hb
        have hBw22_w22 := Below.refl w22.heap.size w22
        obtain rfl : vw22 = .int .i64 0 := he
        replace hS := (((((((hS.nil).cons (hS.get 7 rfl)).cons (hS.get 6 rfl)).cons (hS.get 4 rfl)).cons (hS.get 3 rfl)).cons (hS.get 2 rfl)).cons (hS.get 1 rfl)).cons (hS.get 0 rfl)
        replace hS := hS.put (v := .int .i64 0) (d := 3) (by decide) (by rfl)
        refine list_step rfl (R := fun v w' => Below _ _ w' ∧ (IsV (.int .i64 4)) v w') (does_val (x_assign rfl (rfl)) rfl) ?_
        rintro vw23 w23 ⟨hb, he⟩
        have hBw23_w := below_step hBw22_w hb
        have hBw23_w21 := below_step hBw22_w21 hb
        have hBw23_w22 := below_step hBw22_w22 hb
        have hBw23_w23 := Below.refl w23.heap.size w23
        obtain rfl : vw23 = .int .i64 4 := he
        replace hS := (((((((hS.nil).cons (hS.get 7 rfl)).cons (hS.get 6 rfl)).cons (hS.get 4 rfl)).cons (hS.get 3 rfl)).cons (hS.get 2 rfl)).cons (hS.get 1 rfl)).cons (hS.get 0 rfl)
        replace hS := hS.put (v := .int .i64 4) (d := 4) (by decide) (by rfl)
        refine wpList_nil ?_
        refine hK18 _ _ ?_
        clear hK18 K18
        refine wp_ret ?_
        (try simp only [Exit.then, Exit.inBlock])
        exact bodyPost_ret (v := .tuple #[.agg #[.int .i64 0, .int .i64 0, .int .i64 0, .int .i64 0, .int .u64 0, .int .i64 0, .int .i64 0, .int .i64 0, .int .i64 0, .int .u64 0, .int .i64 0, .int .i64 0, .int .i64 0, .int .i64 0, .int .i64 0, .int .i64 0, .int .i64 0, .int .u64 0, .int .i64 0, .int .i64 0, .int .i64 0, .int .i64 0, .int .i64 0], .int .i64 0, .int .i64 4]) (results_list (rs := [.cell 2 28, .tmp 3, .tmp 4]) rfl (by simp) (Vals.cell g4 28 #[.int .i64 0, .int .i64 0, .int .i64 0, .int .i64 0, .int .u64 0, .int .i64 0, .int .i64 0, .int .i64 0, .int .i64 0, .int .u64 0, .int .i64 0, .int .i64 0, .int .i64 0, .int .i64 0, .int .i64 0, .int .i64 0, .int .i64 0, .int .u64 0, .int .i64 0, .int .i64 0, .int .i64 0, .int .i64 0, .int .i64 0] (0, 0) _ (hS.get 6 rfl) ((hBw23_w21.block g4 (blk_lt hbxw21)).trans hbxw21) Try.underlying28 rfl (by kernel_rfl) (Vals.at (hS.get 1 rfl) (Vals.at (hS.get 0 rfl) .nil)))) hS.nodef ⟨rfl, hBw23_w⟩
    · rw [if_neg c2] at H
      exact absurd H (by simp)

end Go.Proofs.Ytcflafkafbpibaa.P
