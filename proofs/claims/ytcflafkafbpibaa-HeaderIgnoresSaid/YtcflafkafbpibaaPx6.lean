/- Functions and loops of the given program as Lean functions, and that the code comes to what they say: written by this session's own program; Lean checks it. -/
import Derived.Test.YtcflafkafbpibaaPx0
import Derived.Test.YtcflafkafbpibaaPx1
import Derived.Test.YtcflafkafbpibaaPx4
import Derived.Test.YtcflafkafbpibaaPx5
namespace Go.Proofs.Ytcflafkafbpibaa.P
open Go.RowKit Go.Proofs.YtcflafkafbpibaaW.PrintWords Go.Proofs.YtcflafkafbpibaaW.PrintLast Go.Proofs.YtcflafkafbpibaaW.PrintMore
attribute [local go_sem] max2_int min2_int max_two min_two max_three min_three max_four min_four   -- for this text's walks alone
set_option linter.unusedVariables false
set_option linter.unusedSimpArgs false

/-! ### header_Get: function 17: by our own printer -/
def header_Get.f (k : Nat) (l0 : List Int) : Option (Int × Int × Int × Int × Int × Int × Int × Int × Int × Int × Int × Int × Int × Int × Int × Int × Int × Int × Int × Int × Int × Int × Int × Int × Int) := if (l0.length : Int) < 34 then (some (0, 0, 0, 0, 0, 0, 0, 0, 0, 0, 0, 0, 0, 0, 0, 0, 0, 0, 0, 0, 0, 0, 0, 0, 2)) else ((octets_Get.f k l0 2 2).bind fun t10 => (if 0 < (l0.length : Int) then ((header_Known.f k (wrap64 (rd l0 0))).bind fun t15 => (if t15 = true then (if 1 < (l0.length : Int) then (if (Go.bits .and .u8 (rd l0 1) 15) = 2 then ((header_in.f t10.1 34 400).bind fun t16 => (if t16 = true then (if (l0.length : Int) < t10.1 then (some (0, 0, 0, 0, 0, 0, 0, 0, 0, 0, 0, 0, 0, 0, 0, 0, 0, 0, 0, 0, 0, 0, 0, 0, 2)) else (if (l0.length : Int) > t10.1 then (some (0, 0, 0, 0, 0, 0, 0, 0, 0, 0, 0, 0, 0, 0, 0, 0, 0, 0, 0, 0, 0, 0, 0, 0, 3)) else (if 4 < (l0.length : Int) then ((octets_Get.f k l0 6 2).bind fun t31 => ((octets_Signed.f k l0 8 8).bind fun t36 => ((ident_Get.f k l0 20).bind fun t41 => ((octets_Get.f k l0 30 2).bind fun t46 => ((octets_Signed.f k l0 33 1).bind fun t51 => (some (wrap64 (rd l0 0), wrap64 (rd l0 4), t31.1, t36.1, t41.1, t41.2.1, t46.1, t51.1, 0, 0, 0, 0, 0, 0, 0, 0, 0, 0, 0, 0, 0, 0, 0, t10.1, 0))))))) else (none)))) else (some (0, 0, 0, 0, 0, 0, 0, 0, 0, 0, 0, 0, 0, 0, 0, 0, 0, 0, 0, 0, 0, 0, 0, 0, 4)))) else (some (0, 0, 0, 0, 0, 0, 0, 0, 0, 0, 0, 0, 0, 0, 0, 0, 0, 0, 0, 0, 0, 0, 0, 0, 4))) else (none)) else (some (0, 0, 0, 0, 0, 0, 0, 0, 0, 0, 0, 0, 0, 0, 0, 0, 0, 0, 0, 0, 0, 0, 0, 0, 4)))) else (none)))
open Go.Proofs.Ytcflafkafbpibaa.E in
set_option maxHeartbeats 8000000 in
set_option maxRecDepth 100000 in
theorem header_Get.calls (k : Nat) (A0 : Option Addr) (c0 : Nat) (l0 : List Int) (r1 : Int) (r2 : Int) (r3 : Int) (r4 : Int) (r5 : Int) (r6 : Int) (r7 : Int) (r8 : Int) (r9 : Int) (r10 : Int) (r11 : Int) (r12 : Int) (r13 : Int) (r14 : Int) (r15 : Int) (r16 : Int) (r17 : Int) (r18 : Int) (r19 : Int) (r20 : Int) (r21 : Int) (r22 : Int) (r23 : Int) (r24 : Int) (r25 : Int) (w : World) (HR0 : Kd.C (Kd.int .u8) w A0 l0.length l0) (HC0 : l0.length ≤ c0) (h : header_Get.f k l0 = some (r1, r2, r3, r4, r5, r6, r7, r8, r9, r10, r11, r12, r13, r14, r15, r16, r17, r18, r19, r20, r21, r22, r23, r24, r25)) :
    Calls Try.prog 17 #[.slice A0 l0.length c0] w fun e w' => e = .returned (.tuple #[.agg #[.int .i64 r1, .int .i64 r2, .int .i64 r3, .int .i64 r4, .int .u64 r5, .int .i64 r6, .int .i64 r7, .int .i64 r8, .int .i64 r9, .int .u64 r10, .int .i64 r11, .int .i64 r12, .int .i64 r13, .int .i64 r14, .int .i64 r15, .int .i64 r16, .int .i64 r17, .int .u64 r18, .int .i64 r19, .int .i64 r20, .int .i64 r21, .int .i64 r22, .int .i64 r23], .int .i64 r24, .int .i64 r25]) ∧ Below w.heap.size w w' := by
  have H := h
  clear h
  unfold header_Get.f at H
  by_cases c1 : (l0.length : Int) < 34
  · rw [if_pos c1] at H
    simp only [Option.some.injEq, Prod.mk.injEq] at H
    obtain ⟨rfl, rfl, rfl, rfl, rfl, rfl, rfl, rfl, rfl, rfl, rfl, rfl, rfl, rfl, rfl, rfl, rfl, rfl, rfl, rfl, rfl, rfl, rfl, rfl, rfl⟩ := H
    refine calls_of_wp (fn := Try.f17) (by kernel_rfl) rfl ?_
    have hS := St.enter #[.slice A0 l0.length c0] 90 (by simp) [(0, .slice A0 l0.length c0)] (by simp)
    have HB0 := Below.refl w.heap.size w
    refine wp_seq_k (fun K1 hK1 => ?_)
    refine reg_seq (N := 90) (bs := [(0, .slice A0 l0.length c0)]) (I := fun x => Below w.heap.size w x) (ps := [IsB #[.int .i64 0, .int .i64 0, .int .i64 0, .int .i64 0, .int .u64 0, .int .i64 0, .int .i64 0, .int .i64 0, .int .i64 0, .int .u64 0, .int .i64 0, .int .i64 0, .int .i64 0, .int .i64 0, .int .i64 0, .int .i64 0, .int .i64 0, .int .u64 0, .int .i64 0, .int .i64 0, .int .i64 0, .int .i64 0, .int .i64 0] 28 w.heap.size, IsV (.int .i64 0), IsV (.int .i64 0)]) (by kernel_rfl) ?_ ?_ rfl hS HB0 ?_ ?_
    · exact fun x y hI hb => below_step hI hb
    · exact AllStay.cons (Stays.b _ _ _) (AllStay.cons (Stays.v _) (AllStay.cons (Stays.v _) (AllStay.nil)))
    · refine Steps.cons (fun a w hS hI hp => ok_on rfl (does_var (x_alloc rfl (by kernel_rfl)) (hI).size)) ?_
      refine Steps.cons (fun a w hS hI hp => ok_on rfl (does_val (x_assign rfl (rfl)) rfl)) ?_
      refine Steps.cons (fun a w hS hI hp => ok_on rfl (does_val (x_assign rfl (rfl)) rfl)) ?_
      exact Steps.nil
    clear hS
    intro at2 w3 hS hI hp
    have hBw3_w := hI
    obtain ⟨g4, hv2, hgeg4, hbxg4⟩ := (show IsB _ 28 _ (sl _ 2) _ from hp 0 (by decide))
    have hv3 : sl _ 3 = .int .i64 0 := hp 1 (by decide)
    have hv4 : sl _ 4 = .int .i64 0 := hp 2 (by decide)
    have hBw3_w3 := Below.refl w3.heap.size w3
    have hS := hS.cons hv2
    have hS := hS.cons hv3
    have hS := hS.cons hv4
    clear hp hI hv2 hv3 hv4
    refine hK1 _ _ ?_
    clear hK1 K1
    refine wp_seq_k (fun K5 hK5 => ?_)
    refine wp_seq_k (fun K6 hK6 => ?_)
    refine reg_seq (N := 90) (bs := [(4, .int .i64 0), (3, .int .i64 0), (2, .pointer (some ⟨g4, 0, none⟩)), (0, .slice A0 l0.length c0)]) (I := fun x => Below w.heap.size w x ∧ Below w3.heap.size w3 x) (ps := [IsV (.slice A0 l0.length c0), IsV (.int .i64 (l0.length : Int)), IsV (.bool (decide ((l0.length : Int) < 34)))]) (by kernel_rfl) ?_ ?_ rfl hS ⟨hBw3_w, hBw3_w3⟩ ?_ ?_
    · exact fun x y hI hb => ⟨below_step hI.1 hb, below_step hI.2 hb⟩
    · exact AllStay.cons (Stays.v _) (AllStay.cons (Stays.v _) (AllStay.cons (Stays.v _) (AllStay.nil)))
    · refine Steps.cons (fun a w hS hI hp => ok_on rfl (does_val (x_move rfl (hS.get 3 rfl)) rfl)) ?_
      refine Steps.cons (fun a w hS hI hp => ok_on rfl (does_val (x_len (e := 5) rfl (by kernel_rfl) ((hp.get 0 (by rfl) rfl rfl))) rfl)) ?_
      refine Steps.cons (fun a w hS hI hp => ok_on rfl (does_val (x_bin rfl ((hp.get 1 (by rfl) rfl rfl)) (rfl) (b_lss _ _ _ _ _ _)) rfl)) ?_
      exact Steps.nil
    clear hS
    intro at7 w8 hS hI hp
    have hBw8_w := hI.1
    have hBw8_w3 := hI.2
    have hv10 : sl _ 10 = .bool (decide ((l0.length : Int) < 34)) := hp 2 (by decide)
    have hBw8_w8 := Below.refl w8.heap.size w8
    have hS := hS.cons hv10
    clear hp hI hv10
    refine hK6 _ _ ?_
    clear hK6 K6
    refine wp_cond_true ((hS.get 0 rfl).trans (bT (decide_eq_true c1))) ?_
    refine wp_seq_k (fun K9 hK9 => ?_)
    refine reg_seq_tail 1 (N := 90) (bs := [(10, .bool (decide ((l0.length : Int) < 34))), (4, .int .i64 0), (3, .int .i64 0), (2, .pointer (some ⟨g4, 0, none⟩)), (0, .slice A0 l0.length c0)]) (I := fun x => Below w.heap.size w x ∧ Below w3.heap.size w3 x ∧ Below w8.heap.size w8 x) (ps := [IsV (.agg #[.int .i64 0, .int .i64 0, .int .i64 0, .int .i64 0, .int .u64 0, .int .i64 0, .int .i64 0, .int .i64 0, .int .i64 0, .int .u64 0, .int .i64 0, .int .i64 0, .int .i64 0, .int .i64 0, .int .i64 0, .int .i64 0, .int .i64 0, .int .u64 0, .int .i64 0, .int .i64 0, .int .i64 0, .int .i64 0, .int .i64 0])]) (by kernel_rfl) ?_ ?_ rfl hS ⟨hBw8_w, hBw8_w3, hBw8_w8⟩ ?_ ?_
    · exact fun x y hI hb => ⟨below_step hI.1 hb, below_step hI.2.1 hb, below_step hI.2.2 hb⟩
    · exact AllStay.cons (Stays.v _) (AllStay.nil)
    · refine Steps.cons (fun a w hS hI hp => ok_on rfl (does_val (x_build (vs := []) rfl (by rw [Array.toList_map]; exact (show [] = _ from rfl)) (by kernel_rfl)) rfl)) ?_
      exact Steps.nil
    clear hS
    intro at10 w11 hS hI hp
    have hBw11_w := hI.1
    have hBw11_w3 := hI.2.1
    have hBw11_w8 := hI.2.2
    have hv11 : sl _ 11 = .agg #[.int .i64 0, .int .i64 0, .int .i64 0, .int .i64 0, .int .u64 0, .int .i64 0, .int .i64 0, .int .i64 0, .int .i64 0, .int .u64 0, .int .i64 0, .int .i64 0, .int .i64 0, .int .i64 0, .int .i64 0, .int .i64 0, .int .i64 0, .int .u64 0, .int .i64 0, .int .i64 0, .int .i64 0, .int .i64 0, .int .i64 0] := hp 0 (by decide)
    have hBw11_w11 := Below.refl w11.heap.size w11
    have hS := hS.cons hv11
    clear hp hI hv11
    show wpList _ _ _ [_, _, _] _ _
    refine list_step rfl (does_storeAll (g := g4) (cs := #[.int .i64 0, .int .i64 0, .int .i64 0, .int .i64 0, .int .u64 0, .int .i64 0, .int .i64 0, .int .i64 0, .int .i64 0, .int .u64 0, .int .i64 0, .int .i64 0, .int .i64 0, .int .i64 0, .int .i64 0, .int .i64 0, .int .i64 0, .int .u64 0, .int .i64 0, .int .i64 0, .int .i64 0, .int .i64 0, .int .i64 0]) rfl (hS.get 4 rfl) (hS.get 0 rfl) ((hBw11_w3.block g4 (blk_lt hbxg4)).trans hbxg4) (by kernel_rfl) (by kernel_rfl) (by kernel_rfl)) ?_
    rintro vw12 w12 ⟨rfl, hbxw12, hT⟩
    have hBw12_w := hT.below hBw11_w hgeg4 (hBw11_w).size
    have hBw12_w12 := Below.refl w12.heap.size w12
    clear hT
    refine list_step rfl (R := fun v w' => Below _ _ w' ∧ (IsV (.int .i64 0)) v w') (does_val (x_assign rfl (rfl)) rfl) ?_
    rintro vw13 w13 ⟨hb, he⟩
    have hBw13_w := below_step hBw12_w hb
    have hBw13_w12 := below_step hBw12_w12 hb
    have hBw13_w13 := Below.refl w13.heap.size w13
    obtain rfl : vw13 = .int .i64 0 := he
    replace hS := (((((hS.nil).cons (hS.get 5 rfl)).cons (hS.get 4 rfl)).cons (hS.get 2 rfl)).cons (hS.get 1 rfl)).cons (hS.get 0 rfl)
    refine hS.next (v := .int .i64 0) (d := 3) rfl (by decide) (by rfl) ?_
    clear hS
    intro at14 hS
    refine list_step rfl (R := fun v w' => Below _ _ w' ∧ (IsV (.int .i64 2)) v w') (does_val (x_assign rfl (rfl)) rfl) ?_
    rintro vw15 w15 ⟨hb, he⟩
    have hBw15_w := below_step hBw13_w hb
    have hBw15_w12 := below_step hBw13_w12 hb
    have hBw15_w13 := below_step hBw13_w13 hb
    have hBw15_w15 := Below.refl w15.heap.size w15
    obtain rfl : vw15 = .int .i64 2 := he
    replace hS := (((((hS.nil).cons (hS.get 5 rfl)).cons (hS.get 4 rfl)).cons (hS.get 2 rfl)).cons (hS.get 1 rfl)).cons (hS.get 0 rfl)
    refine hS.next (v := .int .i64 2) (d := 4) rfl (by decide) (by rfl) ?_
    clear hS
    intro at16 hS
    refine wpList_nil ?_
    refine hK9 _ _ ?_
    clear hK9 K9
    refine wp_ret ?_
    (try simp only [Exit.then, Exit.inBlock])
    exact bodyPost_ret (v := .tuple #[.agg #[.int .i64 0, .int .i64 0, .int .i64 0, .int .i64 0, .int .u64 0, .int .i64 0, .int .i64 0, .int .i64 0, .int .i64 0, .int .u64 0, .int .i64 0, .int .i64 0, .int .i64 0, .int .i64 0, .int .i64 0, .int .i64 0, .int .i64 0, .int .u64 0, .int .i64 0, .int .i64 0, .int .i64 0, .int .i64 0, .int .i64 0], .int .i64 0, .int .i64 2]) (results_list (rs := [.cell 2 28, .tmp 3, .tmp 4]) rfl (by simp) (Vals.cell g4 28 #[.int .i64 0, .int .i64 0, .int .i64 0, .int .i64 0, .int .u64 0, .int .i64 0, .int .i64 0, .int .i64 0, .int .i64 0, .int .u64 0, .int .i64 0, .int .i64 0, .int .i64 0, .int .i64 0, .int .i64 0, .int .i64 0, .int .i64 0, .int .u64 0, .int .i64 0, .int .i64 0, .int .i64 0, .int .i64 0, .int .i64 0] (0, 0) _ (hS.get 4 rfl) ((hBw15_w12.block g4 (blk_lt hbxw12)).trans hbxw12) Try.underlying28 rfl (by kernel_rfl) (Vals.at (hS.get 1 rfl) (Vals.at (hS.get 0 rfl) .nil)))) hS.nodef ⟨rfl, hBw15_w⟩
  · rw [if_neg c1] at H
    obtain ⟨t10, At10, H⟩ := Option.bind_eq_some_iff.mp H
    obtain ⟨t10_1, t10_2⟩ := t10
    (try dsimp only at H)
    by_cases c2 : 0 < (l0.length : Int)
    · rw [if_pos c2] at H
      obtain ⟨t15, At15, H⟩ := Option.bind_eq_some_iff.mp H
      by_cases c3 : t15 = true
      · rw [if_pos c3] at H
        by_cases c4 : 1 < (l0.length : Int)
        · rw [if_pos c4] at H
          by_cases c5 : (Go.bits .and .u8 (rd l0 1) 15) = 2
          · rw [if_pos c5] at H
            obtain ⟨t16, At16, H⟩ := Option.bind_eq_some_iff.mp H
            by_cases c6 : t16 = true
            · rw [if_pos c6] at H
              by_cases c7 : (l0.length : Int) < t10_1
              · rw [if_pos c7] at H
                simp only [Option.some.injEq, Prod.mk.injEq] at H
                obtain ⟨rfl, rfl, rfl, rfl, rfl, rfl, rfl, rfl, rfl, rfl, rfl, rfl, rfl, rfl, rfl, rfl, rfl, rfl, rfl, rfl, rfl, rfl, rfl, rfl, rfl⟩ := H
                refine calls_of_wp (fn := Try.f17) (by kernel_rfl) rfl ?_
                have hS := St.enter #[.slice A0 l0.length c0] 90 (by simp) [(0, .slice A0 l0.length c0)] (by simp)
                have HB0 := Below.refl w.heap.size w
                refine wp_seq_k (fun K1 hK1 => ?_)
                refine reg_seq (N := 90) (bs := [(0, .slice A0 l0.length c0)]) (I := fun x => Below w.heap.size w x) (ps := [IsB #[.int .i64 0, .int .i64 0, .int .i64 0, .int .i64 0, .int .u64 0, .int .i64 0, .int .i64 0, .int .i64 0, .int .i64 0, .int .u64 0, .int .i64 0, .int .i64 0, .int .i64 0, .int .i64 0, .int .i64 0, .int .i64 0, .int .i64 0, .int .u64 0, .int .i64 0, .int .i64 0, .int .i64 0, .int .i64 0, .int .i64 0] 28 w.heap.size, IsV (.int .i64 0), IsV (.int .i64 0)]) (by kernel_rfl) ?_ ?_ rfl hS HB0 ?_ ?_
                · exact fun x y hI hb => below_step hI hb
                · exact AllStay.cons (Stays.b _ _ _) (AllStay.cons (Stays.v _) (AllStay.cons (Stays.v _) (AllStay.nil)))
                · refine Steps.cons (fun a w hS hI hp => ok_on rfl (does_var (x_alloc rfl (by kernel_rfl)) (hI).size)) ?_
                  refine Steps.cons (fun a w hS hI hp => ok_on rfl (does_val (x_assign rfl (rfl)) rfl)) ?_
                  refine Steps.cons (fun a w hS hI hp => ok_on rfl (does_val (x_assign rfl (rfl)) rfl)) ?_
                  exact Steps.nil
                clear hS
                intro at2 w3 hS hI hp
                have hBw3_w := hI
                obtain ⟨g4, hv2, hgeg4, hbxg4⟩ := (show IsB _ 28 _ (sl _ 2) _ from hp 0 (by decide))
                have hv3 : sl _ 3 = .int .i64 0 := hp 1 (by decide)
                have hv4 : sl _ 4 = .int .i64 0 := hp 2 (by decide)
                have hBw3_w3 := Below.refl w3.heap.size w3
                have hS := hS.cons hv2
                have hS := hS.cons hv3
                have hS := hS.cons hv4
                clear hp hI hv2 hv3 hv4
                refine hK1 _ _ ?_
                clear hK1 K1
                refine wp_seq_k (fun K5 hK5 => ?_)
                refine wp_seq_k (fun K6 hK6 => ?_)
                refine reg_seq (N := 90) (bs := [(4, .int .i64 0), (3, .int .i64 0), (2, .pointer (some ⟨g4, 0, none⟩)), (0, .slice A0 l0.length c0)]) (I := fun x => Below w.heap.size w x ∧ Below w3.heap.size w3 x) (ps := [IsV (.slice A0 l0.length c0), IsV (.int .i64 (l0.length : Int)), IsV (.bool (decide ((l0.length : Int) < 34)))]) (by kernel_rfl) ?_ ?_ rfl hS ⟨hBw3_w, hBw3_w3⟩ ?_ ?_
                · exact fun x y hI hb => ⟨below_step hI.1 hb, below_step hI.2 hb⟩
                · exact AllStay.cons (Stays.v _) (AllStay.cons (Stays.v _) (AllStay.cons (Stays.v _) (AllStay.nil)))
                · refine Steps.cons (fun a w hS hI hp => ok_on rfl (does_val (x_move rfl (hS.get 3 rfl)) rfl)) ?_
                  refine Steps.cons (fun a w hS hI hp => ok_on rfl (does_val (x_len (e := 5) rfl (by kernel_rfl) ((hp.get 0 (by rfl) rfl rfl))) rfl)) ?_
                  refine Steps.cons (fun a w hS hI hp => ok_on rfl (does_val (x_bin rfl ((hp.get 1 (by rfl) rfl rfl)) (rfl) (b_lss _ _ _ _ _ _)) rfl)) ?_
                  exact Steps.nil
                clear hS
                intro at7 w8 hS hI hp
                have hBw8_w := hI.1
                have hBw8_w3 := hI.2
                have hv10 : sl _ 10 = .bool (decide ((l0.length : Int) < 34)) := hp 2 (by decide)
                have hBw8_w8 := Below.refl w8.heap.size w8
                have hS := hS.cons hv10
                clear hp hI hv10
                refine hK6 _ _ ?_
                clear hK6 K6
                refine wp_cond_false ((hS.get 0 rfl).trans (bF (decide_eq_false c1))) ?_
                refine wp_skip ?_
                refine hK5 _ _ ?_
                clear hK5 K5
                refine wp_seq_k (fun K9 hK9 => ?_)
                refine reg_seq (N := 90) (bs := [(10, .bool (decide ((l0.length : Int) < 34))), (4, .int .i64 0), (3, .int .i64 0), (2, .pointer (some ⟨g4, 0, none⟩)), (0, .slice A0 l0.length c0)]) (I := fun x => Below w.heap.size w x ∧ Below w3.heap.size w3 x ∧ Below w8.heap.size w8 x) (ps := [IsV (.slice A0 l0.length c0), IsV (.tuple #[.int .i64 t10_1, .bool t10_2]), IsV (.tuple #[.int .i64 t10_1, .bool t10_2]), IsV (.int .i64 t10_1), IsV (.bool t10_2), IsV (.int .i64 t10_1), IsV (.bool t10_2)]) (by kernel_rfl) ?_ ?_ rfl hS ⟨hBw8_w, hBw8_w3, hBw8_w8⟩ ?_ ?_
                · exact fun x y hI hb => ⟨below_step hI.1 hb, below_step hI.2.1 hb, below_step hI.2.2 hb⟩
                · exact AllStay.cons (Stays.v _) (AllStay.cons (Stays.v _) (AllStay.cons (Stays.v _) (AllStay.cons (Stays.v _) (AllStay.cons (Stays.v _) (AllStay.cons (Stays.v _) (AllStay.cons (Stays.v _) (AllStay.nil)))))))
                · refine Steps.cons (fun a w hS hI hp => ok_on rfl (does_val (x_move rfl (hS.get 4 rfl)) rfl)) ?_
                  refine Steps.cons (fun a w hS hI hp => ok_on rfl (does_call (by kernel_rfl) (ar3 ((hp.get 0 (by rfl) rfl rfl)) (rfl) (rfl)) ((octets_Get.calls k _ _ l0 2 2 t10_1 t10_2 _ (Kd.C_below HR0 hI.1) HC0 At10).mono fun _ _ h => ⟨_, h.1, h.2.below, rfl⟩))) ?_
                  refine Steps.cons (fun a w hS hI hp => ok_on rfl (does_val (x_move rfl ((hp.get 1 (by rfl) rfl rfl))) rfl)) ?_
                  refine Steps.cons (fun a w hS hI hp => ok_on rfl (does_val (x_extract rfl ((hp.get 2 (by rfl) rfl rfl)) rfl) rfl)) ?_
                  refine Steps.cons (fun a w hS hI hp => ok_on rfl (does_val (x_extract rfl ((hp.get 2 (by rfl) rfl rfl)) rfl) rfl)) ?_
                  refine Steps.cons (fun a w hS hI hp => ok_on rfl (does_val (x_assign rfl ((hp.get 3 (by rfl) rfl rfl))) rfl)) ?_
                  refine Steps.cons (fun a w hS hI hp => ok_on rfl (does_val (x_assign rfl ((hp.get 4 (by rfl) rfl rfl))) rfl)) ?_
                  exact Steps.nil
                clear hS
                intro at11 w12 hS hI hp
                have hBw12_w := hI.1
                have hBw12_w3 := hI.2.1
                have hBw12_w8 := hI.2.2
                have hv5 : sl _ 5 = .int .i64 t10_1 := hp 5 (by decide)
                have hBw12_w12 := Below.refl w12.heap.size w12
                have hS := hS.cons hv5
                clear hp hI hv5
                refine hK9 _ _ ?_
                clear hK9 K9
                refine wp_seq_k (fun K13 hK13 => ?_)
                refine wp_block ?_
                refine wp_seq_k (fun K14 hK14 => ?_)
                refine reg_seq (N := 90) (bs := [(5, .int .i64 t10_1), (10, .bool (decide ((l0.length : Int) < 34))), (4, .int .i64 0), (3, .int .i64 0), (2, .pointer (some ⟨g4, 0, none⟩)), (0, .slice A0 l0.length c0)]) (I := fun x => Below w.heap.size w x ∧ Below w3.heap.size w3 x ∧ Below w12.heap.size w12 x) (ps := [IsV (.slice A0 l0.length c0), IsA (.int .u8 (rd l0 0)), IsV (.int .u8 (rd l0 0)), IsV (.int .i64 (wrap64 (rd l0 0))), IsV (.bool t15), IsV (.bool (!t15)), IsV (.bool (!t15)), IsV (.slice A0 l0.length c0), IsA (.int .u8 (rd l0 1)), IsV (.int .u8 (rd l0 1)), IsV (.int .u8 (Go.bits .and .u8 (rd l0 1) 15)), IsV (.bool (!decide ((Go.bits .and .u8 (rd l0 1) 15) = 2))), IsV (.bool (!decide ((Go.bits .and .u8 (rd l0 1) 15) = 2))), IsV (.bool (!decide ((Go.bits .and .u8 (rd l0 1) 15) = 2))), IsV (.int .i64 t10_1), IsV (.bool t16), IsV (.bool (!t16)), IsV (.bool (!t16)), IsV (.bool (!t16))]) (by kernel_rfl) ?_ ?_ rfl hS ⟨hBw12_w, hBw12_w3, hBw12_w12⟩ ?_ ?_
                · exact fun x y hI hb => ⟨below_step hI.1 hb, below_step hI.2.1 hb, below_step hI.2.2 hb⟩
                · exact AllStay.cons (Stays.v _) (AllStay.cons (Stays.a _) (AllStay.cons (Stays.v _) (AllStay.cons (Stays.v _) (AllStay.cons (Stays.v _) (AllStay.cons (Stays.v _) (AllStay.cons (Stays.v _) (AllStay.cons (Stays.v _) (AllStay.cons (Stays.a _) (AllStay.cons (Stays.v _) (AllStay.cons (Stays.v _) (AllStay.cons (Stays.v _) (AllStay.cons (Stays.v _) (AllStay.cons (Stays.v _) (AllStay.cons (Stays.v _) (AllStay.cons (Stays.v _) (AllStay.cons (Stays.v _) (AllStay.cons (Stays.v _) (AllStay.cons (Stays.v _) (AllStay.nil)))))))))))))))))))
                · refine Steps.cons (fun a w hS hI hp => ok_on rfl (does_val (x_move rfl (hS.get 5 rfl)) rfl)) ?_
                  refine Steps.cons (fun a w hS hI hp => ok_on rfl (does_index (e := 5) (xs := l0) rfl ((hp.get 0 (by rfl) rfl rfl)) (rfl) (by kernel_rfl) (by kernel_rfl) (by decide) c2 c2 ((Kd.C_below HR0 hI.1)))) ?_
                  refine Steps.cons (fun a w hS hI hp => ok_on rfl (((hp.get 1 (by rfl) rfl rfl)).elim fun _ h_ => does_val (x_load1 (d := .int .u8) rfl h_.1 (by kernel_rfl) rfl h_.2.2) rfl)) ?_
                  refine Steps.cons (fun a w hS hI hp => ok_on rfl (does_val ((i64_w (rd l0 0)) ▸ x_convI rfl (by kernel_rfl) (by kernel_rfl) ((hp.get 2 (by rfl) rfl rfl))) rfl)) ?_
                  refine Steps.cons (fun a w hS hI hp => ok_on rfl (does_call (by kernel_rfl) (ar1 ((hp.get 3 (by rfl) rfl rfl))) ((header_Known.calls k (wrap64 (rd l0 0)) t15 _  At15).mono fun _ _ h => ⟨_, h.1, h.2.below, rfl⟩))) ?_
                  refine Steps.cons (fun a w hS hI hp => ok_on rfl (does_val (x_not rfl ((hp.get 4 (by rfl) rfl rfl))) rfl)) ?_
                  refine Steps.cons (fun a w hS hI hp => ok_on rfl (does_val (x_move rfl ((hp.get 5 (by rfl) rfl rfl))) rfl)) ?_
                  refine Steps.cons (fun a w hS hI hp => ok_if (d := 24) rfl rfl (by rw [hS.size]; decide) (((hp.get 6 (by rfl) rfl rfl)).trans (bF (congrArg (!·) c3))) (does_val (x_move rfl (hS.get 5 rfl)) rfl)) ?_
                  refine Steps.cons (fun a w hS hI hp => ok_if (d := 24) rfl rfl (by rw [hS.size]; decide) (((hp.get 6 (by rfl) rfl rfl)).trans (bF (congrArg (!·) c3))) (does_index (e := 5) (xs := l0) rfl ((hp.get 7 (by rfl) rfl rfl)) (rfl) (by kernel_rfl) (by kernel_rfl) (by decide) c4 c4 ((Kd.C_below HR0 hI.1)))) ?_
                  refine Steps.cons (fun a w hS hI hp => ok_if (d := 24) rfl rfl (by rw [hS.size]; decide) (((hp.get 6 (by rfl) rfl rfl)).trans (bF (congrArg (!·) c3))) (((hp.get 8 (by rfl) rfl rfl)).elim fun _ h_ => does_val (x_load1 (d := .int .u8) rfl h_.1 (by kernel_rfl) rfl h_.2.2) rfl)) ?_
                  refine Steps.cons (fun a w hS hI hp => ok_if (d := 24) rfl rfl (by rw [hS.size]; decide) (((hp.get 6 (by rfl) rfl rfl)).trans (bF (congrArg (!·) c3))) (does_val (x_bin rfl ((hp.get 9 (by rfl) rfl rfl)) (rfl) (b_and _ _ _ _ _ _)) rfl)) ?_
                  refine Steps.cons (fun a w hS hI hp => ok_if (d := 24) rfl rfl (by rw [hS.size]; decide) (((hp.get 6 (by rfl) rfl rfl)).trans (bF (congrArg (!·) c3))) (does_val (x_bin rfl ((hp.get 10 (by rfl) rfl rfl)) (rfl) (b_neq _ _ _ _ _ _)) rfl)) ?_
                  refine Steps.cons (fun a w hS hI hp => ok_on rfl (does_val (x_pickF rfl (((hp.get 6 (by rfl) rfl rfl)).trans (bF (congrArg (!·) c3))) ((hp.get 11 (by rfl) rfl rfl))) rfl)) ?_
                  refine Steps.cons (fun a w hS hI hp => ok_on rfl (does_val (x_move rfl ((hp.get 12 (by rfl) rfl rfl))) rfl)) ?_
                  refine Steps.cons (fun a w hS hI hp => ok_if (d := 31) rfl rfl (by rw [hS.size]; decide) (((hp.get 13 (by rfl) rfl rfl)).trans (bF (congrArg (!·) (decide_eq_true c5)))) (does_val (x_move rfl (hS.get 0 rfl)) rfl)) ?_
                  refine Steps.cons (fun a w hS hI hp => ok_if (d := 31) rfl rfl (by rw [hS.size]; decide) (((hp.get 13 (by rfl) rfl rfl)).trans (bF (congrArg (!·) (decide_eq_true c5)))) (does_call (by kernel_rfl) (ar3 ((hp.get 14 (by rfl) rfl rfl)) (rfl) (rfl)) ((header_in.calls t10_1 34 400 t16 _  At16).mono fun _ _ h => ⟨_, h.1, h.2.below, rfl⟩))) ?_
                  refine Steps.cons (fun a w hS hI hp => ok_if (d := 31) rfl rfl (by rw [hS.size]; decide) (((hp.get 13 (by rfl) rfl rfl)).trans (bF (congrArg (!·) (decide_eq_true c5)))) (does_val (x_not rfl ((hp.get 15 (by rfl) rfl rfl))) rfl)) ?_
                  refine Steps.cons (fun a w hS hI hp => ok_on rfl (does_val (x_pickF rfl (((hp.get 13 (by rfl) rfl rfl)).trans (bF (congrArg (!·) (decide_eq_true c5)))) ((hp.get 16 (by rfl) rfl rfl))) rfl)) ?_
                  refine Steps.cons (fun a w hS hI hp => ok_on rfl (does_val (x_assign rfl ((hp.get 17 (by rfl) rfl rfl))) rfl)) ?_
                  exact Steps.nil
                clear hS
                intro at17 w18 hS hI hp
                have hBw18_w := hI.1
                have hBw18_w3 := hI.2.1
                have hBw18_w12 := hI.2.2
                have hv17 : sl _ 17 = .bool (!t16) := hp 18 (by decide)
                have hBw18_w18 := Below.refl w18.heap.size w18
                have hS := hS.cons hv17
                clear hp hI hv17
                refine hK14 _ _ ?_
                clear hK14 K14
                refine wp_cond_false ((hS.get 0 rfl).trans (bF (congrArg (!·) c6))) ?_
                refine wp_seq_k (fun K19 hK19 => ?_)
                refine reg_seq (N := 90) (bs := [(17, .bool (!t16)), (5, .int .i64 t10_1), (10, .bool (decide ((l0.length : Int) < 34))), (4, .int .i64 0), (3, .int .i64 0), (2, .pointer (some ⟨g4, 0, none⟩)), (0, .slice A0 l0.length c0)]) (I := fun x => Below w.heap.size w x ∧ Below w3.heap.size w3 x ∧ Below w18.heap.size w18 x) (ps := [IsV (.slice A0 l0.length c0), IsV (.int .i64 (l0.length : Int)), IsV (.int .i64 t10_1), IsV (.bool (decide ((l0.length : Int) < t10_1))), IsV (.bool (decide ((l0.length : Int) < t10_1)))]) (by kernel_rfl) ?_ ?_ rfl hS ⟨hBw18_w, hBw18_w3, hBw18_w18⟩ ?_ ?_
                · exact fun x y hI hb => ⟨below_step hI.1 hb, below_step hI.2.1 hb, below_step hI.2.2 hb⟩
                · exact AllStay.cons (Stays.v _) (AllStay.cons (Stays.v _) (AllStay.cons (Stays.v _) (AllStay.cons (Stays.v _) (AllStay.cons (Stays.v _) (AllStay.nil)))))
                · refine Steps.cons (fun a w hS hI hp => ok_on rfl (does_val (x_move rfl (hS.get 6 rfl)) rfl)) ?_
                  refine Steps.cons (fun a w hS hI hp => ok_on rfl (does_val (x_len (e := 5) rfl (by kernel_rfl) ((hp.get 0 (by rfl) rfl rfl))) rfl)) ?_
                  refine Steps.cons (fun a w hS hI hp => ok_on rfl (does_val (x_move rfl (hS.get 1 rfl)) rfl)) ?_
                  refine Steps.cons (fun a w hS hI hp => ok_on rfl (does_val (x_bin rfl ((hp.get 1 (by rfl) rfl rfl)) ((hp.get 2 (by rfl) rfl rfl)) (b_lss _ _ _ _ _ _)) rfl)) ?_
                  refine Steps.cons (fun a w hS hI hp => ok_on rfl (does_val (x_assign rfl ((hp.get 3 (by rfl) rfl rfl))) rfl)) ?_
                  exact Steps.nil
                clear hS
                intro at20 w21 hS hI hp
                have hBw21_w := hI.1
                have hBw21_w3 := hI.2.1
                have hBw21_w18 := hI.2.2
                have hv37 : sl _ 37 = .bool (decide ((l0.length : Int) < t10_1)) := hp 4 (by decide)
                have hBw21_w21 := Below.refl w21.heap.size w21
                have hS := hS.cons hv37
                clear hp hI hv37
                refine hK19 _ _ ?_
                clear hK19 K19
                refine wp_cond_true ((hS.get 0 rfl).trans (bT (decide_eq_true c7))) ?_
                refine wp_seq_k (fun K22 hK22 => ?_)
                refine reg_seq_tail 1 (N := 90) (bs := [(37, .bool (decide ((l0.length : Int) < t10_1))), (17, .bool (!t16)), (5, .int .i64 t10_1), (10, .bool (decide ((l0.length : Int) < 34))), (4, .int .i64 0), (3, .int .i64 0), (2, .pointer (some ⟨g4, 0, none⟩)), (0, .slice A0 l0.length c0)]) (I := fun x => Below w.heap.size w x ∧ Below w3.heap.size w3 x ∧ Below w21.heap.size w21 x) (ps := [IsV (.agg #[.int .i64 0, .int .i64 0, .int .i64 0, .int .i64 0, .int .u64 0, .int .i64 0, .int .i64 0, .int .i64 0, .int .i64 0, .int .u64 0, .int .i64 0, .int .i64 0, .int .i64 0, .int .i64 0, .int .i64 0, .int .i64 0, .int .i64 0, .int .u64 0, .int .i64 0, .int .i64 0, .int .i64 0, .int .i64 0, .int .i64 0])]) (by kernel_rfl) ?_ ?_ rfl hS ⟨hBw21_w, hBw21_w3, hBw21_w21⟩ ?_ ?_
                · exact fun x y hI hb => ⟨below_step hI.1 hb, below_step hI.2.1 hb, below_step hI.2.2 hb⟩
                · exact AllStay.cons (Stays.v _) (AllStay.nil)
                · refine Steps.cons (fun a w hS hI hp => ok_on rfl (does_val (x_build (vs := []) rfl (by rw [Array.toList_map]; exact (show [] = _ from rfl)) (by kernel_rfl)) rfl)) ?_
                  exact Steps.nil
                clear hS
                intro at23 w24 hS hI hp
                have hBw24_w := hI.1
                have hBw24_w3 := hI.2.1
                have hBw24_w21 := hI.2.2
                have hv42 : sl _ 42 = .agg #[.int .i64 0, .int .i64 0, .int .i64 0, .int .i64 0, .int .u64 0, .int .i64 0, .int .i64 0, .int .i64 0, .int .i64 0, .int .u64 0, .int .i64 0, .int .i64 0, .int .i64 0, .int .i64 0, .int .i64 0, .int .i64 0, .int .i64 0, .int .u64 0, .int .i64 0, .int .i64 0, .int .i64 0, .int .i64 0, .int .i64 0] := hp 0 (by decide)
                have hBw24_w24 := Below.refl w24.heap.size w24
                have hS := hS.cons hv42
                clear hp hI hv42
                show wpList _ _ _ [_, _, _] _ _
                refine list_step rfl (does_storeAll (g := g4) (cs := #[.int .i64 0, .int .i64 0, .int .i64 0, .int .i64 0, .int .u64 0, .int .i64 0, .int .i64 0, .int .i64 0, .int .i64 0, .int .u64 0, .int .i64 0, .int .i64 0, .int .i64 0, .int .i64 0, .int .i64 0, .int .i64 0, .int .i64 0, .int .u64 0, .int .i64 0, .int .i64 0, .int .i64 0, .int .i64 0, .int .i64 0]) rfl (hS.get 7 rfl) (hS.get 0 rfl) ((hBw24_w3.block g4 (blk_lt hbxg4)).trans hbxg4) (by kernel_rfl) (by kernel_rfl) (by kernel_rfl)) ?_
                rintro vw25 w25 ⟨rfl, hbxw25, hT⟩
                have hBw25_w := hT.below hBw24_w hgeg4 (hBw24_w).size
                have hBw25_w25 := Below.refl w25.heap.size w25
                clear hT
                refine list_step rfl (R := fun v w' => Below _ _ w' ∧ (IsV (.int .i64 0)) v w') (does_val (x_assign rfl (rfl)) rfl) ?_
                rintro vw26 w26 ⟨hb, he⟩
                have hBw26_w := below_step hBw25_w hb
                have hBw26_w25 := below_step hBw25_w25 hb
                have hBw26_w26 := Below.refl w26.heap.size w26
                obtain rfl : vw26 = .int .i64 0 := he
                replace hS := ((((((((hS.nil).cons (hS.get 8 rfl)).cons (hS.get 7 rfl)).cons (hS.get 5 rfl)).cons (hS.get 4 rfl)).cons (hS.get 3 rfl)).cons (hS.get 2 rfl)).cons (hS.get 1 rfl)).cons (hS.get 0 rfl)
                refine hS.next (v := .int .i64 0) (d := 3) rfl (by decide) (by rfl) ?_
                clear hS
                intro at27 hS
                refine list_step rfl (R := fun v w' => Below _ _ w' ∧ (IsV (.int .i64 2)) v w') (does_val (x_assign rfl (rfl)) rfl) ?_
                rintro vw28 w28 ⟨hb, he⟩
                have hBw28_w := below_step hBw26_w hb
                have hBw28_w25 := below_step hBw26_w25 hb
                have hBw28_w26 := below_step hBw26_w26 hb
                have hBw28_w28 := Below.refl w28.heap.size w28
                obtain rfl : vw28 = .int .i64 2 := he
                replace hS := ((((((((hS.nil).cons (hS.get 8 rfl)).cons (hS.get 7 rfl)).cons (hS.get 5 rfl)).cons (hS.get 4 rfl)).cons (hS.get 3 rfl)).cons (hS.get 2 rfl)).cons (hS.get 1 rfl)).cons (hS.get 0 rfl)
                refine hS.next (v := .int .i64 2) (d := 4) rfl (by decide) (by rfl) ?_
                clear hS
                intro at29 hS
                refine wpList_nil ?_
                refine hK22 _ _ ?_
                clear hK22 K22
                refine wp_ret ?_
                (try simp only [Exit.then, Exit.inBlock])
                exact bodyPost_ret (v := .tuple #[.agg #[.int .i64 0, .int .i64 0, .int .i64 0, .int .i64 0, .int .u64 0, .int .i64 0, .int .i64 0, .int .i64 0, .int .i64 0, .int .u64 0, .int .i64 0, .int .i64 0, .int .i64 0, .int .i64 0, .int .i64 0, .int .i64 0, .int .i64 0, .int .u64 0, .int .i64 0, .int .i64 0, .int .i64 0, .int .i64 0, .int .i64 0], .int .i64 0, .int .i64 2]) (results_list (rs := [.cell 2 28, .tmp 3, .tmp 4]) rfl (by simp) (Vals.cell g4 28 #[.int .i64 0, .int .i64 0, .int .i64 0, .int .i64 0, .int .u64 0, .int .i64 0, .int .i64 0, .int .i64 0, .int .i64 0, .int .u64 0, .int .i64 0, .int .i64 0, .int .i64 0, .int .i64 0, .int .i64 0, .int .i64 0, .int .i64 0, .int .u64 0, .int .i64 0, .int .i64 0, .int .i64 0, .int .i64 0, .int .i64 0] (0, 0) _ (hS.get 7 rfl) ((hBw28_w25.block g4 (blk_lt hbxw25)).trans hbxw25) Try.underlying28 rfl (by kernel_rfl) (Vals.at (hS.get 1 rfl) (Vals.at (hS.get 0 rfl) .nil)))) hS.nodef ⟨rfl, hBw28_w⟩
              · rw [if_neg c7] at H
                by_cases c8 : (l0.length : Int) > t10_1
                · rw [if_pos c8] at H
                  simp only [Option.some.injEq, Prod.mk.injEq] at H
                  obtain ⟨rfl, rfl, rfl, rfl, rfl, rfl, rfl, rfl, rfl, rfl, rfl, rfl, rfl, rfl, rfl, rfl, rfl, rfl, rfl, rfl, rfl, rfl, rfl, rfl, rfl⟩ := H
                  refine calls_of_wp (fn := Try.f17) (by kernel_rfl) rfl ?_
                  have hS := St.enter #[.slice A0 l0.length c0] 90 (by simp) [(0, .slice A0 l0.length c0)] (by simp)
                  have HB0 := Below.refl w.heap.size w
                  refine wp_seq_k (fun K1 hK1 => ?_)
                  refine reg_seq (N := 90) (bs := [(0, .slice A0 l0.length c0)]) (I := fun x => Below w.heap.size w x) (ps := [IsB #[.int .i64 0, .int .i64 0, .int .i64 0, .int .i64 0, .int .u64 0, .int .i64 0, .int .i64 0, .int .i64 0, .int .i64 0, .int .u64 0, .int .i64 0, .int .i64 0, .int .i64 0, .int .i64 0, .int .i64 0, .int .i64 0, .int .i64 0, .int .u64 0, .int .i64 0, .int .i64 0, .int .i64 0, .int .i64 0, .int .i64 0] 28 w.heap.size, IsV (.int .i64 0), IsV (.int .i64 0)]) (by kernel_rfl) ?_ ?_ rfl hS HB0 ?_ ?_
                  · exact fun x y hI hb => below_step hI hb
                  · exact AllStay.cons (Stays.b _ _ _) (AllStay.cons (Stays.v _) (AllStay.cons (Stays.v _) (AllStay.nil)))
                  · refine Steps.cons (fun a w hS hI hp => ok_on rfl (does_var (x_alloc rfl (by kernel_rfl)) (hI).size)) ?_
                    refine Steps.cons (fun a w hS hI hp => ok_on rfl (does_val (x_assign rfl (rfl)) rfl)) ?_
                    refine Steps.cons (fun a w hS hI hp => ok_on rfl (does_val (x_assign rfl (rfl)) rfl)) ?_
                    exact Steps.nil
                  clear hS
                  intro at2 w3 hS hI hp
                  have hBw3_w := hI
                  obtain ⟨g4, hv2, hgeg4, hbxg4⟩ := (show IsB _ 28 _ (sl _ 2) _ from hp 0 (by decide))
                  have hv3 : sl _ 3 = .int .i64 0 := hp 1 (by decide)
                  have hv4 : sl _ 4 = .int .i64 0 := hp 2 (by decide)
                  have hBw3_w3 := Below.refl w3.heap.size w3
                  have hS := hS.cons hv2
                  have hS := hS.cons hv3
                  have hS := hS.cons hv4
                  clear hp hI hv2 hv3 hv4
                  refine hK1 _ _ ?_
                  clear hK1 K1
                  refine wp_seq_k (fun K5 hK5 => ?_)
                  refine wp_seq_k (fun K6 hK6 => ?_)
                  refine reg_seq (N := 90) (bs := [(4, .int .i64 0), (3, .int .i64 0), (2, .pointer (some ⟨g4, 0, none⟩)), (0, .slice A0 l0.length c0)]) (I := fun x => Below w.heap.size w x ∧ Below w3.heap.size w3 x) (ps := [IsV (.slice A0 l0.length c0), IsV (.int .i64 (l0.length : Int)), IsV (.bool (decide ((l0.length : Int) < 34)))]) (by kernel_rfl) ?_ ?_ rfl hS ⟨hBw3_w, hBw3_w3⟩ ?_ ?_
                  · exact fun x y hI hb => ⟨below_step hI.1 hb, below_step hI.2 hb⟩
                  · exact AllStay.cons (Stays.v _) (AllStay.cons (Stays.v _) (AllStay.cons (Stays.v _) (AllStay.nil)))
                  · refine Steps.cons (fun a w hS hI hp => ok_on rfl (does_val (x_move rfl (hS.get 3 rfl)) rfl)) ?_
                    refine Steps.cons (fun a w hS hI hp => ok_on rfl (does_val (x_len (e := 5) rfl (by kernel_rfl) ((hp.get 0 (by rfl) rfl rfl))) rfl)) ?_
                    refine Steps.cons (fun a w hS hI hp => ok_on rfl (does_val (x_bin rfl ((hp.get 1 (by rfl) rfl rfl)) (rfl) (b_lss _ _ _ _ _ _)) rfl)) ?_
                    exact Steps.nil
                  clear hS
                  intro at7 w8 hS hI hp
                  have hBw8_w := hI.1
                  have hBw8_w3 := hI.2
                  have hv10 : sl _ 10 = .bool (decide ((l0.length : Int) < 34)) := hp 2 (by decide)
                  have hBw8_w8 := Below.refl w8.heap.size w8
                  have hS := hS.cons hv10
                  clear hp hI hv10
                  refine hK6 _ _ ?_
                  clear hK6 K6
                  refine wp_cond_false ((hS.get 0 rfl).trans (bF (decide_eq_false c1))) ?_
                  refine wp_skip ?_
                  refine hK5 _ _ ?_
                  clear hK5 K5
                  refine wp_seq_k (fun K9 hK9 => ?_)
                  refine reg_seq (N := 90) (bs := [(10, .bool (decide ((l0.length : Int) < 34))), (4, .int .i64 0), (3, .int .i64 0), (2, .pointer (some ⟨g4, 0, none⟩)), (0, .slice A0 l0.length c0)]) (I := fun x => Below w.heap.size w x ∧ Below w3.heap.size w3 x ∧ Below w8.heap.size w8 x) (ps := [IsV (.slice A0 l0.length c0), IsV (.tuple #[.int .i64 t10_1, .bool t10_2]), IsV (.tuple #[.int .i64 t10_1, .bool t10_2]), IsV (.int .i64 t10_1), IsV (.bool t10_2), IsV (.int .i64 t10_1), IsV (.bool t10_2)]) (by kernel_rfl) ?_ ?_ rfl hS ⟨hBw8_w, hBw8_w3, hBw8_w8⟩ ?_ ?_
                  · exact fun x y hI hb => ⟨below_step hI.1 hb, below_step hI.2.1 hb, below_step hI.2.2 hb⟩
                  · exact AllStay.cons (Stays.v _) (AllStay.cons (Stays.v _) (AllStay.cons (Stays.v _) (AllStay.cons (Stays.v _) (AllStay.cons (Stays.v _) (AllStay.cons (Stays.v _) (AllStay.cons (Stays.v _) (AllStay.nil)))))))
                  · refine Steps.cons (fun a w hS hI hp => ok_on rfl (does_val (x_move rfl (hS.get 4 rfl)) rfl)) ?_
                    refine Steps.cons (fun a w hS hI hp => ok_on rfl (does_call (by kernel_rfl) (ar3 ((hp.get 0 (by rfl) rfl rfl)) (rfl) (rfl)) ((octets_Get.calls k _ _ l0 2 2 t10_1 t10_2 _ (Kd.C_below HR0 hI.1) HC0 At10).mono fun _ _ h => ⟨_, h.1, h.2.below, rfl⟩))) ?_
                    refine Steps.cons (fun a w hS hI hp => ok_on rfl (does_val (x_move rfl ((hp.get 1 (by rfl) rfl rfl))) rfl)) ?_
                    refine Steps.cons (fun a w hS hI hp => ok_on rfl (does_val (x_extract rfl ((hp.get 2 (by rfl) rfl rfl)) rfl) rfl)) ?_
                    refine Steps.cons (fun a w hS hI hp => ok_on rfl (does_val (x_extract rfl ((hp.get 2 (by rfl) rfl rfl)) rfl) rfl)) ?_
                    refine Steps.cons (fun a w hS hI hp => ok_on rfl (does_val (x_assign rfl ((hp.get 3 (by rfl) rfl rfl))) rfl)) ?_
                    refine Steps.cons (fun a w hS hI hp => ok_on rfl (does_val (x_assign rfl ((hp.get 4 (by rfl) rfl rfl))) rfl)) ?_
                    exact Steps.nil
                  clear hS
                  intro at11 w12 hS hI hp
                  have hBw12_w := hI.1
                  have hBw12_w3 := hI.2.1
                  have hBw12_w8 := hI.2.2
                  have hv5 : sl _ 5 = .int .i64 t10_1 := hp 5 (by decide)
                  have hBw12_w12 := Below.refl w12.heap.size w12
                  have hS := hS.cons hv5
                  clear hp hI hv5
                  refine hK9 _ _ ?_
                  clear hK9 K9
                  refine wp_seq_k (fun K13 hK13 => ?_)
                  refine wp_block ?_
                  refine wp_seq_k (fun K14 hK14 => ?_)
                  refine reg_seq (N := 90) (bs := [(5, .int .i64 t10_1), (10, .bool (decide ((l0.length : Int) < 34))), (4, .int .i64 0), (3, .int .i64 0), (2, .pointer (some ⟨g4, 0, none⟩)), (0, .slice A0 l0.length c0)]) (I := fun x => Below w.heap.size w x ∧ Below w3.heap.size w3 x ∧ Below w12.heap.size w12 x) (ps := [IsV (.slice A0 l0.length c0), IsA (.int .u8 (rd l0 0)), IsV (.int .u8 (rd l0 0)), IsV (.int .i64 (wrap64 (rd l0 0))), IsV (.bool t15), IsV (.bool (!t15)), IsV (.bool (!t15)), IsV (.slice A0 l0.length c0), IsA (.int .u8 (rd l0 1)), IsV (.int .u8 (rd l0 1)), IsV (.int .u8 (Go.bits .and .u8 (rd l0 1) 15)), IsV (.bool (!decide ((Go.bits .and .u8 (rd l0 1) 15) = 2))), IsV (.bool (!decide ((Go.bits .and .u8 (rd l0 1) 15) = 2))), IsV (.bool (!decide ((Go.bits .and .u8 (rd l0 1) 15) = 2))), IsV (.int .i64 t10_1), IsV (.bool t16), IsV (.bool (!t16)), IsV (.bool (!t16)), IsV (.bool (!t16))]) (by kernel_rfl) ?_ ?_ rfl hS ⟨hBw12_w, hBw12_w3, hBw12_w12⟩ ?_ ?_
                  · exact fun x y hI hb => ⟨below_step hI.1 hb, below_step hI.2.1 hb, below_step hI.2.2 hb⟩
                  · exact AllStay.cons (Stays.v _) (AllStay.cons (Stays.a _) (AllStay.cons (Stays.v _) (AllStay.cons (Stays.v _) (AllStay.cons (Stays.v _) (AllStay.cons (Stays.v _) (AllStay.cons (Stays.v _) (AllStay.cons (Stays.v _) (AllStay.cons (Stays.a _) (AllStay.cons (Stays.v _) (AllStay.cons (Stays.v _) (AllStay.cons (Stays.v _) (AllStay.cons (Stays.v _) (AllStay.cons (Stays.v _) (AllStay.cons (Stays.v _) (AllStay.cons (Stays.v _) (AllStay.cons (Stays.v _) (AllStay.cons (Stays.v _) (AllStay.cons (Stays.v _) (AllStay.nil)))))))))))))))))))
                  · refine Steps.cons (fun a w hS hI hp => ok_on rfl (does_val (x_move rfl (hS.get 5 rfl)) rfl)) ?_
                    refine Steps.cons (fun a w hS hI hp => ok_on rfl (does_index (e := 5) (xs := l0) rfl ((hp.get 0 (by rfl) rfl rfl)) (rfl) (by kernel_rfl) (by kernel_rfl) (by decide) c2 c2 ((Kd.C_below HR0 hI.1)))) ?_
                    refine Steps.cons (fun a w hS hI hp => ok_on rfl (((hp.get 1 (by rfl) rfl rfl)).elim fun _ h_ => does_val (x_load1 (d := .int .u8) rfl h_.1 (by kernel_rfl) rfl h_.2.2) rfl)) ?_
                    refine Steps.cons (fun a w hS hI hp => ok_on rfl (does_val ((i64_w (rd l0 0)) ▸ x_convI rfl (by kernel_rfl) (by kernel_rfl) ((hp.get 2 (by rfl) rfl rfl))) rfl)) ?_
                    refine Steps.cons (fun a w hS hI hp => ok_on rfl (does_call (by kernel_rfl) (ar1 ((hp.get 3 (by rfl) rfl rfl))) ((header_Known.calls k (wrap64 (rd l0 0)) t15 _  At15).mono fun _ _ h => ⟨_, h.1, h.2.below, rfl⟩))) ?_
                    refine Steps.cons (fun a w hS hI hp => ok_on rfl (does_val (x_not rfl ((hp.get 4 (by rfl) rfl rfl))) rfl)) ?_
                    refine Steps.cons (fun a w hS hI hp => ok_on rfl (does_val (x_move rfl ((hp.get 5 (by rfl) rfl rfl))) rfl)) ?_
                    refine Steps.cons (fun a w hS hI hp => ok_if (d := 24) rfl rfl (by rw [hS.size]; decide) (((hp.get 6 (by rfl) rfl rfl)).trans (bF (congrArg (!·) c3))) (does_val (x_move rfl (hS.get 5 rfl)) rfl)) ?_
                    refine Steps.cons (fun a w hS hI hp => ok_if (d := 24) rfl rfl (by rw [hS.size]; decide) (((hp.get 6 (by rfl) rfl rfl)).trans (bF (congrArg (!·) c3))) (does_index (e := 5) (xs := l0) rfl ((hp.get 7 (by rfl) rfl rfl)) (rfl) (by kernel_rfl) (by kernel_rfl) (by decide) c4 c4 ((Kd.C_below HR0 hI.1)))) ?_
                    refine Steps.cons (fun a w hS hI hp => ok_if (d := 24) rfl rfl (by rw [hS.size]; decide) (((hp.get 6 (by rfl) rfl rfl)).trans (bF (congrArg (!·) c3))) (((hp.get 8 (by rfl) rfl rfl)).elim fun _ h_ => does_val (x_load1 (d := .int .u8) rfl h_.1 (by kernel_rfl) rfl h_.2.2) rfl)) ?_
                    refine Steps.cons (fun a w hS hI hp => ok_if (d := 24) rfl rfl (by rw [hS.size]; decide) (((hp.get 6 (by rfl) rfl rfl)).trans (bF (congrArg (!·) c3))) (does_val (x_bin rfl ((hp.get 9 (by rfl) rfl rfl)) (rfl) (b_and _ _ _ _ _ _)) rfl)) ?_
                    refine Steps.cons (fun a w hS hI hp => ok_if (d := 24) rfl rfl (by rw [hS.size]; decide) (((hp.get 6 (by rfl) rfl rfl)).trans (bF (congrArg (!·) c3))) (does_val (x_bin rfl ((hp.get 10 (by rfl) rfl rfl)) (rfl) (b_neq _ _ _ _ _ _)) rfl)) ?_
                    refine Steps.cons (fun a w hS hI hp => ok_on rfl (does_val (x_pickF rfl (((hp.get 6 (by rfl) rfl rfl)).trans (bF (congrArg (!·) c3))) ((hp.get 11 (by rfl) rfl rfl))) rfl)) ?_
                    refine Steps.cons (fun a w hS hI hp => ok_on rfl (does_val (x_move rfl ((hp.get 12 (by rfl) rfl rfl))) rfl)) ?_
                    refine Steps.cons (fun a w hS hI hp => ok_if (d := 31) rfl rfl (by rw [hS.size]; decide) (((hp.get 13 (by rfl) rfl rfl)).trans (bF (congrArg (!·) (decide_eq_true c5)))) (does_val (x_move rfl (hS.get 0 rfl)) rfl)) ?_
                    refine Steps.cons (fun a w hS hI hp => ok_if (d := 31) rfl rfl (by rw [hS.size]; decide) (((hp.get 13 (by rfl) rfl rfl)).trans (bF (congrArg (!·) (decide_eq_true c5)))) (does_call (by kernel_rfl) (ar3 ((hp.get 14 (by rfl) rfl rfl)) (rfl) (rfl)) ((header_in.calls t10_1 34 400 t16 _  At16).mono fun _ _ h => ⟨_, h.1, h.2.below, rfl⟩))) ?_
                    refine Steps.cons (fun a w hS hI hp => ok_if (d := 31) rfl rfl (by rw [hS.size]; decide) (((hp.get 13 (by rfl) rfl rfl)).trans (bF (congrArg (!·) (decide_eq_true c5)))) (does_val (x_not rfl ((hp.get 15 (by rfl) rfl rfl))) rfl)) ?_
                    refine Steps.cons (fun a w hS hI hp => ok_on rfl (does_val (x_pickF rfl (((hp.get 13 (by rfl) rfl rfl)).trans (bF (congrArg (!·) (decide_eq_true c5)))) ((hp.get 16 (by rfl) rfl rfl))) rfl)) ?_
                    refine Steps.cons (fun a w hS hI hp => ok_on rfl (does_val (x_assign rfl ((hp.get 17 (by rfl) rfl rfl))) rfl)) ?_
                    exact Steps.nil
                  clear hS
                  intro at17 w18 hS hI hp
                  have hBw18_w := hI.1
                  have hBw18_w3 := hI.2.1
                  have hBw18_w12 := hI.2.2
                  have hv17 : sl _ 17 = .bool (!t16) := hp 18 (by decide)
                  have hBw18_w18 := Below.refl w18.heap.size w18
                  have hS := hS.cons hv17
                  clear hp hI hv17
                  refine hK14 _ _ ?_
                  clear hK14 K14
                  refine wp_cond_false ((hS.get 0 rfl).trans (bF (congrArg (!·) c6))) ?_
                  refine wp_seq_k (fun K19 hK19 => ?_)
                  refine reg_seq (N := 90) (bs := [(17, .bool (!t16)), (5, .int .i64 t10_1), (10, .bool (decide ((l0.length : Int) < 34))), (4, .int .i64 0), (3, .int .i64 0), (2, .pointer (some ⟨g4, 0, none⟩)), (0, .slice A0 l0.length c0)]) (I := fun x => Below w.heap.size w x ∧ Below w3.heap.size w3 x ∧ Below w18.heap.size w18 x) (ps := [IsV (.slice A0 l0.length c0), IsV (.int .i64 (l0.length : Int)), IsV (.int .i64 t10_1), IsV (.bool (decide ((l0.length : Int) < t10_1))), IsV (.bool (decide ((l0.length : Int) < t10_1)))]) (by kernel_rfl) ?_ ?_ rfl hS ⟨hBw18_w, hBw18_w3, hBw18_w18⟩ ?_ ?_
                  · exact fun x y hI hb => ⟨below_step hI.1 hb, below_step hI.2.1 hb, below_step hI.2.2 hb⟩
                  · exact AllStay.cons (Stays.v _) (AllStay.cons (Stays.v _) (AllStay.cons (Stays.v _) (AllStay.cons (Stays.v _) (AllStay.cons (Stays.v _) (AllStay.nil)))))
                  · refine Steps.cons (fun a w hS hI hp => ok_on rfl (does_val (x_move rfl (hS.get 6 rfl)) rfl)) ?_
                    refine Steps.cons (fun a w hS hI hp => ok_on rfl (does_val (x_len (e := 5) rfl (by kernel_rfl) ((hp.get 0 (by rfl) rfl rfl))) rfl)) ?_
                    refine Steps.cons (fun a w hS hI hp => ok_on rfl (does_val (x_move rfl (hS.get 1 rfl)) rfl)) ?_
                    refine Steps.cons (fun a w hS hI hp => ok_on rfl (does_val (x_bin rfl ((hp.get 1 (by rfl) rfl rfl)) ((hp.get 2 (by rfl) rfl rfl)) (b_lss _ _ _ _ _ _)) rfl)) ?_
                    refine Steps.cons (fun a w hS hI hp => ok_on rfl (does_val (x_assign rfl ((hp.get 3 (by rfl) rfl rfl))) rfl)) ?_
                    exact Steps.nil
                  clear hS
                  intro at20 w21 hS hI hp
                  have hBw21_w := hI.1
                  have hBw21_w3 := hI.2.1
                  have hBw21_w18 := hI.2.2
                  have hv37 : sl _ 37 = .bool (decide ((l0.length : Int) < t10_1)) := hp 4 (by decide)
                  have hBw21_w21 := Below.refl w21.heap.size w21
                  have hS := hS.cons hv37
                  clear hp hI hv37
                  refine hK19 _ _ ?_
                  clear hK19 K19
                  refine wp_cond_false ((hS.get 0 rfl).trans (bF (decide_eq_false c7))) ?_
                  refine wp_seq_k (fun K22 hK22 => ?_)
                  refine reg_seq (N := 90) (bs := [(37, .bool (decide ((l0.length : Int) < t10_1))), (17, .bool (!t16)), (5, .int .i64 t10_1), (10, .bool (decide ((l0.length : Int) < 34))), (4, .int .i64 0), (3, .int .i64 0), (2, .pointer (some ⟨g4, 0, none⟩)), (0, .slice A0 l0.length c0)]) (I := fun x => Below w.heap.size w x ∧ Below w3.heap.size w3 x ∧ Below w21.heap.size w21 x) (ps := [IsV (.slice A0 l0.length c0), IsV (.int .i64 (l0.length : Int)), IsV (.int .i64 t10_1), IsV (.bool (decide ((l0.length : Int) > t10_1))), IsV (.bool (decide ((l0.length : Int) > t10_1)))]) (by kernel_rfl) ?_ ?_ rfl hS ⟨hBw21_w, hBw21_w3, hBw21_w21⟩ ?_ ?_
                  · exact fun x y hI hb => ⟨below_step hI.1 hb, below_step hI.2.1 hb, below_step hI.2.2 hb⟩
                  · exact AllStay.cons (Stays.v _) (AllStay.cons (Stays.v _) (AllStay.cons (Stays.v _) (AllStay.cons (Stays.v _) (AllStay.cons (Stays.v _) (AllStay.nil)))))
                  · refine Steps.cons (fun a w hS hI hp => ok_on rfl (does_val (x_move rfl (hS.get 7 rfl)) rfl)) ?_
                    refine Steps.cons (fun a w hS hI hp => ok_on rfl (does_val (x_len (e := 5) rfl (by kernel_rfl) ((hp.get 0 (by rfl) rfl rfl))) rfl)) ?_
                    refine Steps.cons (fun a w hS hI hp => ok_on rfl (does_val (x_move rfl (hS.get 2 rfl)) rfl)) ?_
                    refine Steps.cons (fun a w hS hI hp => ok_on rfl (does_val (x_bin rfl ((hp.get 1 (by rfl) rfl rfl)) ((hp.get 2 (by rfl) rfl rfl)) (b_gtr _ _ _ _ _ _)) rfl)) ?_
                    refine Steps.cons (fun a w hS hI hp => ok_on rfl (does_val (x_assign rfl ((hp.get 3 (by rfl) rfl rfl))) rfl)) ?_
                    exact Steps.nil
                  clear hS
                  intro at23 w24 hS hI hp
                  have hBw24_w := hI.1
                  have hBw24_w3 := hI.2.1
                  have hBw24_w21 := hI.2.2
                  have hv43 : sl _ 43 = .bool (decide ((l0.length : Int) > t10_1)) := hp 4 (by decide)
                  have hBw24_w24 := Below.refl w24.heap.size w24
                  have hS := hS.cons hv43
                  clear hp hI hv43
                  refine hK22 _ _ ?_
                  clear hK22 K22
                  refine wp_cond_true ((hS.get 0 rfl).trans (bT (decide_eq_true c8))) ?_
                  refine wp_seq_k (fun K25 hK25 => ?_)
                  refine reg_seq_tail 1 (N := 90) (bs := [(43, .bool (decide ((l0.length : Int) > t10_1))), (37, .bool (decide ((l0.length : Int) < t10_1))), (17, .bool (!t16)), (5, .int .i64 t10_1), (10, .bool (decide ((l0.length : Int) < 34))), (4, .int .i64 0), (3, .int .i64 0), (2, .pointer (some ⟨g4, 0, none⟩)), (0, .slice A0 l0.length c0)]) (I := fun x => Below w.heap.size w x ∧ Below w3.heap.size w3 x ∧ Below w24.heap.size w24 x) (ps := [IsV (.agg #[.int .i64 0, .int .i64 0, .int .i64 0, .int .i64 0, .int .u64 0, .int .i64 0, .int .i64 0, .int .i64 0, .int .i64 0, .int .u64 0, .int .i64 0, .int .i64 0, .int .i64 0, .int .i64 0, .int .i64 0, .int .i64 0, .int .i64 0, .int .u64 0, .int .i64 0, .int .i64 0, .int .i64 0, .int .i64 0, .int .i64 0])]) (by kernel_rfl) ?_ ?_ rfl hS ⟨hBw24_w, hBw24_w3, hBw24_w24⟩ ?_ ?_
                  · exact fun x y hI hb => ⟨below_step hI.1 hb, below_step hI.2.1 hb, below_step hI.2.2 hb⟩
                  · exact AllStay.cons (Stays.v _) (AllStay.nil)
                  · refine Steps.cons (fun a w hS hI hp => ok_on rfl (does_val (x_build (vs := []) rfl (by rw [Array.toList_map]; exact (show [] = _ from rfl)) (by kernel_rfl)) rfl)) ?_
                    exact Steps.nil
                  clear hS
                  intro at26 w27 hS hI hp
                  have hBw27_w := hI.1
                  have hBw27_w3 := hI.2.1
                  have hBw27_w24 := hI.2.2
                  have hv48 : sl _ 48 = .agg #[.int .i64 0, .int .i64 0, .int .i64 0, .int .i64 0, .int .u64 0, .int .i64 0, .int .i64 0, .int .i64 0, .int .i64 0, .int .u64 0, .int .i64 0, .int .i64 0, .int .i64 0, .int .i64 0, .int .i64 0, .int .i64 0, .int .i64 0, .int .u64 0, .int .i64 0, .int .i64 0, .int .i64 0, .int .i64 0, .int .i64 0] := hp 0 (by decide)
                  have hBw27_w27 := Below.refl w27.heap.size w27
                  have hS := hS.cons hv48
                  clear hp hI hv48
                  show wpList _ _ _ [_, _, _] _ _
                  refine list_step rfl (does_storeAll (g := g4) (cs := #[.int .i64 0, .int .i64 0, .int .i64 0, .int .i64 0, .int .u64 0, .int .i64 0, .int .i64 0, .int .i64 0, .int .i64 0, .int .u64 0, .int .i64 0, .int .i64 0, .int .i64 0, .int .i64 0, .int .i64 0, .int .i64 0, .int .i64 0, .int .u64 0, .int .i64 0, .int .i64 0, .int .i64 0, .int .i64 0, .int .i64 0]) rfl (hS.get 8 rfl) (hS.get 0 rfl) ((hBw27_w3.block g4 (blk_lt hbxg4)).trans hbxg4) (by kernel_rfl) (by kernel_rfl) (by kernel_rfl)) ?_
                  rintro vw28 w28 ⟨rfl, hbxw28, hT⟩
                  have hBw28_w := hT.below hBw27_w hgeg4 (hBw27_w).size
                  have hBw28_w28 := Below.refl w28.heap.size w28
                  clear hT
                  refine list_step rfl (R := fun v w' => Below _ _ w' ∧ (IsV (.int .i64 0)) v w') (does_val (x_assign rfl (rfl)) rfl) ?_
                  rintro vw29 w29 ⟨hb, he⟩
                  have hBw29_w := below_step hBw28_w hb
                  have hBw29_w28 := below_step hBw28_w28 hb
                  have hBw29_w29 := Below.refl w29.heap.size w29
                  obtain rfl : vw29 = .int .i64 0 := he
                  replace hS := (((((((((hS.nil).cons (hS.get 9 rfl)).cons (hS.get 8 rfl)).cons (hS.get 6 rfl)).cons (hS.get 5 rfl)).cons (hS.get 4 rfl)).cons (hS.get 3 rfl)).cons (hS.get 2 rfl)).cons (hS.get 1 rfl)).cons (hS.get 0 rfl)
                  refine hS.next (v := .int .i64 0) (d := 3) rfl (by decide) (by rfl) ?_
                  clear hS
                  intro at30 hS
                  refine list_step rfl (R := fun v w' => Below _ _ w' ∧ (IsV (.int .i64 3)) v w') (does_val (x_assign rfl (rfl)) rfl) ?_
                  rintro vw31 w31 ⟨hb, he⟩
                  have hBw31_w := below_step hBw29_w hb
                  have hBw31_w28 := below_step hBw29_w28 hb
                  have hBw31_w29 := below_step hBw29_w29 hb
                  have hBw31_w31 := Below.refl w31.heap.size w31
                  obtain rfl : vw31 = .int .i64 3 := he
                  replace hS := (((((((((hS.nil).cons (hS.get 9 rfl)).cons (hS.get 8 rfl)).cons (hS.get 6 rfl)).cons (hS.get 5 rfl)).cons (hS.get 4 rfl)).cons (hS.get 3 rfl)).cons (hS.get 2 rfl)).cons (hS.get 1 rfl)).cons (hS.get 0 rfl)
                  refine hS.next (v := .int .i64 3) (d := 4) rfl (by decide) (by rfl) ?_
                  clear hS
                  intro at32 hS
                  refine wpList_nil ?_
                  refine hK25 _ _ ?_
                  clear hK25 K25
                  refine wp_ret ?_
                  (try simp only [Exit.then, Exit.inBlock])
                  exact bodyPost_ret (v := .tuple #[.agg #[.int .i64 0, .int .i64 0, .int .i64 0, .int .i64 0, .int .u64 0, .int .i64 0, .int .i64 0, .int .i64 0, .int .i64 0, .int .u64 0, .int .i64 0, .int .i64 0, .int .i64 0, .int .i64 0, .int .i64 0, .int .i64 0, .int .i64 0, .int .u64 0, .int .i64 0, .int .i64 0, .int .i64 0, .int .i64 0, .int .i64 0], .int .i64 0, .int .i64 3]) (results_list (rs := [.cell 2 28, .tmp 3, .tmp 4]) rfl (by simp) (Vals.cell g4 28 #[.int .i64 0, .int .i64 0, .int .i64 0, .int .i64 0, .int .u64 0, .int .i64 0, .int .i64 0, .int .i64 0, .int .i64 0, .int .u64 0, .int .i64 0, .int .i64 0, .int .i64 0, .int .i64 0, .int .i64 0, .int .i64 0, .int .i64 0, .int .u64 0, .int .i64 0, .int .i64 0, .int .i64 0, .int .i64 0, .int .i64 0] (0, 0) _ (hS.get 8 rfl) ((hBw31_w28.block g4 (blk_lt hbxw28)).trans hbxw28) Try.underlying28 rfl (by kernel_rfl) (Vals.at (hS.get 1 rfl) (Vals.at (hS.get 0 rfl) .nil)))) hS.nodef ⟨rfl, hBw31_w⟩
                · rw [if_neg c8] at H
                  by_cases c9 : 4 < (l0.length : Int)
                  · rw [if_pos c9] at H
                    obtain ⟨t31, At31, H⟩ := Option.bind_eq_some_iff.mp H
                    obtain ⟨t31_1, t31_2⟩ := t31
                    (try dsimp only at H)
                    obtain ⟨t36, At36, H⟩ := Option.bind_eq_some_iff.mp H
                    obtain ⟨t36_1, t36_2⟩ := t36
                    (try dsimp only at H)
                    obtain ⟨t41, At41, H⟩ := Option.bind_eq_some_iff.mp H
                    obtain ⟨t41_1, t41_2, t41_3⟩ := t41
                    (try dsimp only at H)
                    obtain ⟨t46, At46, H⟩ := Option.bind_eq_some_iff.mp H
                    obtain ⟨t46_1, t46_2⟩ := t46
                    (try dsimp only at H)
                    obtain ⟨t51, At51, H⟩ := Option.bind_eq_some_iff.mp H
                    obtain ⟨t51_1, t51_2⟩ := t51
                    (try dsimp only at H)
                    simp only [Option.some.injEq, Prod.mk.injEq] at H
                    obtain ⟨rfl, rfl, rfl, rfl, rfl, rfl, rfl, rfl, rfl, rfl, rfl, rfl, rfl, rfl, rfl, rfl, rfl, rfl, rfl, rfl, rfl, rfl, rfl, rfl, rfl⟩ := H
                    refine calls_of_wp (fn := Try.f17) (by kernel_rfl) rfl ?_
                    have hS := St.enter #[.slice A0 l0.length c0] 90 (by simp) [(0, .slice A0 l0.length c0)] (by simp)
                    have HB0 := Below.refl w.heap.size w
                    refine wp_seq_k (fun K1 hK1 => ?_)
                    refine reg_seq (N := 90) (bs := [(0, .slice A0 l0.length c0)]) (I := fun x => Below w.heap.size w x) (ps := [IsB #[.int .i64 0, .int .i64 0, .int .i64 0, .int .i64 0, .int .u64 0, .int .i64 0, .int .i64 0, .int .i64 0, .int .i64 0, .int .u64 0, .int .i64 0, .int .i64 0, .int .i64 0, .int .i64 0, .int .i64 0, .int .i64 0, .int .i64 0, .int .u64 0, .int .i64 0, .int .i64 0, .int .i64 0, .int .i64 0, .int .i64 0] 28 w.heap.size, IsV (.int .i64 0), IsV (.int .i64 0)]) (by kernel_rfl) ?_ ?_ rfl hS HB0 ?_ ?_
                    · exact fun x y hI hb => below_step hI hb
                    · exact AllStay.cons (Stays.b _ _ _) (AllStay.cons (Stays.v _) (AllStay.cons (Stays.v _) (AllStay.nil)))
                    · refine Steps.cons (fun a w hS hI hp => ok_on rfl (does_var (x_alloc rfl (by kernel_rfl)) (hI).size)) ?_
                      refine Steps.cons (fun a w hS hI hp => ok_on rfl (does_val (x_assign rfl (rfl)) rfl)) ?_
                      refine Steps.cons (fun a w hS hI hp => ok_on rfl (does_val (x_assign rfl (rfl)) rfl)) ?_
                      exact Steps.nil
                    clear hS
                    intro at2 w3 hS hI hp
                    have hBw3_w := hI
                    obtain ⟨g4, hv2, hgeg4, hbxg4⟩ := (show IsB _ 28 _ (sl _ 2) _ from hp 0 (by decide))
                    have hv3 : sl _ 3 = .int .i64 0 := hp 1 (by decide)
                    have hv4 : sl _ 4 = .int .i64 0 := hp 2 (by decide)
                    have hBw3_w3 := Below.refl w3.heap.size w3
                    have hS := hS.cons hv2
                    have hS := hS.cons hv3
                    have hS := hS.cons hv4
                    clear hp hI hv2 hv3 hv4
                    refine hK1 _ _ ?_
                    clear hK1 K1
                    refine wp_seq_k (fun K5 hK5 => ?_)
                    refine wp_seq_k (fun K6 hK6 => ?_)
                    refine reg_seq (N := 90) (bs := [(4, .int .i64 0), (3, .int .i64 0), (2, .pointer (some ⟨g4, 0, none⟩)), (0, .slice A0 l0.length c0)]) (I := fun x => Below w.heap.size w x ∧ Below w3.heap.size w3 x) (ps := [IsV (.slice A0 l0.length c0), IsV (.int .i64 (l0.length : Int)), IsV (.bool (decide ((l0.length : Int) < 34)))]) (by kernel_rfl) ?_ ?_ rfl hS ⟨hBw3_w, hBw3_w3⟩ ?_ ?_
                    · exact fun x y hI hb => ⟨below_step hI.1 hb, below_step hI.2 hb⟩
                    · exact AllStay.cons (Stays.v _) (AllStay.cons (Stays.v _) (AllStay.cons (Stays.v _) (AllStay.nil)))
                    · refine Steps.cons (fun a w hS hI hp => ok_on rfl (does_val (x_move rfl (hS.get 3 rfl)) rfl)) ?_
                      refine Steps.cons (fun a w hS hI hp => ok_on rfl (does_val (x_len (e := 5) rfl (by kernel_rfl) ((hp.get 0 (by rfl) rfl rfl))) rfl)) ?_
                      refine Steps.cons (fun a w hS hI hp => ok_on rfl (does_val (x_bin rfl ((hp.get 1 (by rfl) rfl rfl)) (rfl) (b_lss _ _ _ _ _ _)) rfl)) ?_
                      exact Steps.nil
                    clear hS
                    intro at7 w8 hS hI hp
                    have hBw8_w := hI.1
                    have hBw8_w3 := hI.2
                    have hv10 : sl _ 10 = .bool (decide ((l0.length : Int) < 34)) := hp 2 (by decide)
                    have hBw8_w8 := Below.refl w8.heap.size w8
                    have hS := hS.cons hv10
                    clear hp hI hv10
                    refine hK6 _ _ ?_
                    clear hK6 K6
                    refine wp_cond_false ((hS.get 0 rfl).trans (bF (decide_eq_false c1))) ?_
                    refine wp_skip ?_
                    refine hK5 _ _ ?_
                    clear hK5 K5
                    refine wp_seq_k (fun K9 hK9 => ?_)
                    refine reg_seq (N := 90) (bs := [(10, .bool (decide ((l0.length : Int) < 34))), (4, .int .i64 0), (3, .int .i64 0), (2, .pointer (some ⟨g4, 0, none⟩)), (0, .slice A0 l0.length c0)]) (I := fun x => Below w.heap.size w x ∧ Below w3.heap.size w3 x ∧ Below w8.heap.size w8 x) (ps := [IsV (.slice A0 l0.length c0), IsV (.tuple #[.int .i64 t10_1, .bool t10_2]), IsV (.tuple #[.int .i64 t10_1, .bool t10_2]), IsV (.int .i64 t10_1), IsV (.bool t10_2), IsV (.int .i64 t10_1), IsV (.bool t10_2)]) (by kernel_rfl) ?_ ?_ rfl hS ⟨hBw8_w, hBw8_w3, hBw8_w8⟩ ?_ ?_
                    · exact fun x y hI hb => ⟨below_step hI.1 hb, below_step hI.2.1 hb, below_step hI.2.2 hb⟩
                    · exact AllStay.cons (Stays.v _) (AllStay.cons (Stays.v _) (AllStay.cons (Stays.v _) (AllStay.cons (Stays.v _) (AllStay.cons (Stays.v _) (AllStay.cons (Stays.v _) (AllStay.cons (Stays.v _) (AllStay.nil)))))))
                    · refine Steps.cons (fun a w hS hI hp => ok_on rfl (does_val (x_move rfl (hS.get 4 rfl)) rfl)) ?_
                      refine Steps.cons (fun a w hS hI hp => ok_on rfl (does_call (by kernel_rfl) (ar3 ((hp.get 0 (by rfl) rfl rfl)) (rfl) (rfl)) ((octets_Get.calls k _ _ l0 2 2 t10_1 t10_2 _ (Kd.C_below HR0 hI.1) HC0 At10).mono fun _ _ h => ⟨_, h.1, h.2.below, rfl⟩))) ?_
                      refine Steps.cons (fun a w hS hI hp => ok_on rfl (does_val (x_move rfl ((hp.get 1 (by rfl) rfl rfl))) rfl)) ?_
                      refine Steps.cons (fun a w hS hI hp => ok_on rfl (does_val (x_extract rfl ((hp.get 2 (by rfl) rfl rfl)) rfl) rfl)) ?_
                      refine Steps.cons (fun a w hS hI hp => ok_on rfl (does_val (x_extract rfl ((hp.get 2 (by rfl) rfl rfl)) rfl) rfl)) ?_
                      refine Steps.cons (fun a w hS hI hp => ok_on rfl (does_val (x_assign rfl ((hp.get 3 (by rfl) rfl rfl))) rfl)) ?_
                      refine Steps.cons (fun a w hS hI hp => ok_on rfl (does_val (x_assign rfl ((hp.get 4 (by rfl) rfl rfl))) rfl)) ?_
                      exact Steps.nil
                    clear hS
                    intro at11 w12 hS hI hp
                    have hBw12_w := hI.1
                    have hBw12_w3 := hI.2.1
                    have hBw12_w8 := hI.2.2
                    have hv5 : sl _ 5 = .int .i64 t10_1 := hp 5 (by decide)
                    have hBw12_w12 := Below.refl w12.heap.size w12
                    have hS := hS.cons hv5
                    clear hp hI hv5
                    refine hK9 _ _ ?_
                    clear hK9 K9
                    refine wp_seq_k (fun K13 hK13 => ?_)
                    refine wp_block ?_
                    refine wp_seq_k (fun K14 hK14 => ?_)
                    refine reg_seq (N := 90) (bs := [(5, .int .i64 t10_1), (10, .bool (decide ((l0.length : Int) < 34))), (4, .int .i64 0), (3, .int .i64 0), (2, .pointer (some ⟨g4, 0, none⟩)), (0, .slice A0 l0.length c0)]) (I := fun x => Below w.heap.size w x ∧ Below w3.heap.size w3 x ∧ Below w12.heap.size w12 x) (ps := [IsV (.slice A0 l0.length c0), IsA (.int .u8 (rd l0 0)), IsV (.int .u8 (rd l0 0)), IsV (.int .i64 (wrap64 (rd l0 0))), IsV (.bool t15), IsV (.bool (!t15)), IsV (.bool (!t15)), IsV (.slice A0 l0.length c0), IsA (.int .u8 (rd l0 1)), IsV (.int .u8 (rd l0 1)), IsV (.int .u8 (Go.bits .and .u8 (rd l0 1) 15)), IsV (.bool (!decide ((Go.bits .and .u8 (rd l0 1) 15) = 2))), IsV (.bool (!decide ((Go.bits .and .u8 (rd l0 1) 15) = 2))), IsV (.bool (!decide ((Go.bits .and .u8 (rd l0 1) 15) = 2))), IsV (.int .i64 t10_1), IsV (.bool t16), IsV (.bool (!t16)), IsV (.bool (!t16)), IsV (.bool (!t16))]) (by kernel_rfl) ?_ ?_ rfl hS ⟨hBw12_w, hBw12_w3, hBw12_w12⟩ ?_ ?_
                    · exact fun x y hI hb => ⟨below_step hI.1 hb, below_step hI.2.1 hb, below_step hI.2.2 hb⟩
                    · exact AllStay.cons (Stays.v _) (AllStay.cons (Stays.a _) (AllStay.cons (Stays.v _) (AllStay.cons (Stays.v _) (AllStay.cons (Stays.v _) (AllStay.cons (Stays.v _) (AllStay.cons (Stays.v _) (AllStay.cons (Stays.v _) (AllStay.cons (Stays.a _) (AllStay.cons (Stays.v _) (AllStay.cons (Stays.v _) (AllStay.cons (Stays.v _) (AllStay.cons (Stays.v _) (AllStay.cons (Stays.v _) (AllStay.cons (Stays.v _) (AllStay.cons (Stays.v _) (AllStay.cons (Stays.v _) (AllStay.cons (Stays.v _) (AllStay.cons (Stays.v _) (AllStay.nil)))))))))))))))))))
                    · refine Steps.cons (fun a w hS hI hp => ok_on rfl (does_val (x_move rfl (hS.get 5 rfl)) rfl)) ?_
                      refine Steps.cons (fun a w hS hI hp => ok_on rfl (does_index (e := 5) (xs := l0) rfl ((hp.get 0 (by rfl) rfl rfl)) (rfl) (by kernel_rfl) (by kernel_rfl) (by decide) c2 c2 ((Kd.C_below HR0 hI.1)))) ?_
                      refine Steps.cons (fun a w hS hI hp => ok_on rfl (((hp.get 1 (by rfl) rfl rfl)).elim fun _ h_ => does_val (x_load1 (d := .int .u8) rfl h_.1 (by kernel_rfl) rfl h_.2.2) rfl)) ?_
                      refine Steps.cons (fun a w hS hI hp => ok_on rfl (does_val ((i64_w (rd l0 0)) ▸ x_convI rfl (by kernel_rfl) (by kernel_rfl) ((hp.get 2 (by rfl) rfl rfl))) rfl)) ?_
                      refine Steps.cons (fun a w hS hI hp => ok_on rfl (does_call (by kernel_rfl) (ar1 ((hp.get 3 (by rfl) rfl rfl))) ((header_Known.calls k (wrap64 (rd l0 0)) t15 _  At15).mono fun _ _ h => ⟨_, h.1, h.2.below, rfl⟩))) ?_
                      refine Steps.cons (fun a w hS hI hp => ok_on rfl (does_val (x_not rfl ((hp.get 4 (by rfl) rfl rfl))) rfl)) ?_
                      refine Steps.cons (fun a w hS hI hp => ok_on rfl (does_val (x_move rfl ((hp.get 5 (by rfl) rfl rfl))) rfl)) ?_
                      refine Steps.cons (fun a w hS hI hp => ok_if (d := 24) rfl rfl (by rw [hS.size]; decide) (((hp.get 6 (by rfl) rfl rfl)).trans (bF (congrArg (!·) c3))) (does_val (x_move rfl (hS.get 5 rfl)) rfl)) ?_
                      refine Steps.cons (fun a w hS hI hp => ok_if (d := 24) rfl rfl (by rw [hS.size]; decide) (((hp.get 6 (by rfl) rfl rfl)).trans (bF (congrArg (!·) c3))) (does_index (e := 5) (xs := l0) rfl ((hp.get 7 (by rfl) rfl rfl)) (rfl) (by kernel_rfl) (by kernel_rfl) (by decide) c4 c4 ((Kd.C_below HR0 hI.1)))) ?_
                      refine Steps.cons (fun a w hS hI hp => ok_if (d := 24) rfl rfl (by rw [hS.size]; decide) (((hp.get 6 (by rfl) rfl rfl)).trans (bF (congrArg (!·) c3))) (((hp.get 8 (by rfl) rfl rfl)).elim fun _ h_ => does_val (x_load1 (d := .int .u8) rfl h_.1 (by kernel_rfl) rfl h_.2.2) rfl)) ?_
                      refine Steps.cons (fun a w hS hI hp => ok_if (d := 24) rfl rfl (by rw [hS.size]; decide) (((hp.get 6 (by rfl) rfl rfl)).trans (bF (congrArg (!·) c3))) (does_val (x_bin rfl ((hp.get 9 (by rfl) rfl rfl)) (rfl) (b_and _ _ _ _ _ _)) rfl)) ?_
                      refine Steps.cons (fun a w hS hI hp => ok_if (d := 24) rfl rfl (by rw [hS.size]; decide) (((hp.get 6 (by rfl) rfl rfl)).trans (bF (congrArg (!·) c3))) (does_val (x_bin rfl ((hp.get 10 (by rfl) rfl rfl)) (rfl) (b_neq _ _ _ _ _ _)) rfl)) ?_
                      refine Steps.cons (fun a w hS hI hp => ok_on rfl (does_val (x_pickF rfl (((hp.get 6 (by rfl) rfl rfl)).trans (bF (congrArg (!·) c3))) ((hp.get 11 (by rfl) rfl rfl))) rfl)) ?_
                      refine Steps.cons (fun a w hS hI hp => ok_on rfl (does_val (x_move rfl ((hp.get 12 (by rfl) rfl rfl))) rfl)) ?_
                      refine Steps.cons (fun a w hS hI hp => ok_if (d := 31) rfl rfl (by rw [hS.size]; decide) (((hp.get 13 (by rfl) rfl rfl)).trans (bF (congrArg (!·) (decide_eq_true c5)))) (does_val (x_move rfl (hS.get 0 rfl)) rfl)) ?_
                      refine Steps.cons (fun a w hS hI hp => ok_if (d := 31) rfl rfl (by rw [hS.size]; decide) (((hp.get 13 (by rfl) rfl rfl)).trans (bF (congrArg (!·) (decide_eq_true c5)))) (does_call (by kernel_rfl) (ar3 ((hp.get 14 (by rfl) rfl rfl)) (rfl) (rfl)) ((header_in.calls t10_1 34 400 t16 _  At16).mono fun _ _ h => ⟨_, h.1, h.2.below, rfl⟩))) ?_
                      refine Steps.cons (fun a w hS hI hp => ok_if (d := 31) rfl rfl (by rw [hS.size]; decide) (((hp.get 13 (by rfl) rfl rfl)).trans (bF (congrArg (!·) (decide_eq_true c5)))) (does_val (x_not rfl ((hp.get 15 (by rfl) rfl rfl))) rfl)) ?_
                      refine Steps.cons (fun a w hS hI hp => ok_on rfl (does_val (x_pickF rfl (((hp.get 13 (by rfl) rfl rfl)).trans (bF (congrArg (!·) (decide_eq_true c5)))) ((hp.get 16 (by rfl) rfl rfl))) rfl)) ?_
                      refine Steps.cons (fun a w hS hI hp => ok_on rfl (does_val (x_assign rfl ((hp.get 17 (by rfl) rfl rfl))) rfl)) ?_
                      exact Steps.nil
                    clear hS
                    intro at17 w18 hS hI hp
                    have hBw18_w := hI.1
                    have hBw18_w3 := hI.2.1
                    have hBw18_w12 := hI.2.2
                    have hv17 : sl _ 17 = .bool (!t16) := hp 18 (by decide)
                    have hBw18_w18 := Below.refl w18.heap.size w18
                    have hS := hS.cons hv17
                    clear hp hI hv17
                    refine hK14 _ _ ?_
                    clear hK14 K14
                    refine wp_cond_false ((hS.get 0 rfl).trans (bF (congrArg (!·) c6))) ?_
                    refine wp_seq_k (fun K19 hK19 => ?_)
                    refine reg_seq (N := 90) (bs := [(17, .bool (!t16)), (5, .int .i64 t10_1), (10, .bool (decide ((l0.length : Int) < 34))), (4, .int .i64 0), (3, .int .i64 0), (2, .pointer (some ⟨g4, 0, none⟩)), (0, .slice A0 l0.length c0)]) (I := fun x => Below w.heap.size w x ∧ Below w3.heap.size w3 x ∧ Below w18.heap.size w18 x) (ps := [IsV (.slice A0 l0.length c0), IsV (.int .i64 (l0.length : Int)), IsV (.int .i64 t10_1), IsV (.bool (decide ((l0.length : Int) < t10_1))), IsV (.bool (decide ((l0.length : Int) < t10_1)))]) (by kernel_rfl) ?_ ?_ rfl hS ⟨hBw18_w, hBw18_w3, hBw18_w18⟩ ?_ ?_
                    · exact fun x y hI hb => ⟨below_step hI.1 hb, below_step hI.2.1 hb, below_step hI.2.2 hb⟩
                    · exact AllStay.cons (Stays.v _) (AllStay.cons (Stays.v _) (AllStay.cons (Stays.v _) (AllStay.cons (Stays.v _) (AllStay.cons (Stays.v _) (AllStay.nil)))))
                    · refine Steps.cons (fun a w hS hI hp => ok_on rfl (does_val (x_move rfl (hS.get 6 rfl)) rfl)) ?_
                      refine Steps.cons (fun a w hS hI hp => ok_on rfl (does_val (x_len (e := 5) rfl (by kernel_rfl) ((hp.get 0 (by rfl) rfl rfl))) rfl)) ?_
                      refine Steps.cons (fun a w hS hI hp => ok_on rfl (does_val (x_move rfl (hS.get 1 rfl)) rfl)) ?_
                      refine Steps.cons (fun a w hS hI hp => ok_on rfl (does_val (x_bin rfl ((hp.get 1 (by rfl) rfl rfl)) ((hp.get 2 (by rfl) rfl rfl)) (b_lss _ _ _ _ _ _)) rfl)) ?_
                      refine Steps.cons (fun a w hS hI hp => ok_on rfl (does_val (x_assign rfl ((hp.get 3 (by rfl) rfl rfl))) rfl)) ?_
                      exact Steps.nil
                    clear hS
                    intro at20 w21 hS hI hp
                    have hBw21_w := hI.1
                    have hBw21_w3 := hI.2.1
                    have hBw21_w18 := hI.2.2
                    have hv37 : sl _ 37 = .bool (decide ((l0.length : Int) < t10_1)) := hp 4 (by decide)
                    have hBw21_w21 := Below.refl w21.heap.size w21
                    have hS := hS.cons hv37
                    clear hp hI hv37
                    refine hK19 _ _ ?_
                    clear hK19 K19
                    refine wp_cond_false ((hS.get 0 rfl).trans (bF (decide_eq_false c7))) ?_
                    refine wp_seq_k (fun K22 hK22 => ?_)
                    refine reg_seq (N := 90) (bs := [(37, .bool (decide ((l0.length : Int) < t10_1))), (17, .bool (!t16)), (5, .int .i64 t10_1), (10, .bool (decide ((l0.length : Int) < 34))), (4, .int .i64 0), (3, .int .i64 0), (2, .pointer (some ⟨g4, 0, none⟩)), (0, .slice A0 l0.length c0)]) (I := fun x => Below w.heap.size w x ∧ Below w3.heap.size w3 x ∧ Below w21.heap.size w21 x) (ps := [IsV (.slice A0 l0.length c0), IsV (.int .i64 (l0.length : Int)), IsV (.int .i64 t10_1), IsV (.bool (decide ((l0.length : Int) > t10_1))), IsV (.bool (decide ((l0.length : Int) > t10_1)))]) (by kernel_rfl) ?_ ?_ rfl hS ⟨hBw21_w, hBw21_w3, hBw21_w21⟩ ?_ ?_
                    · exact fun x y hI hb => ⟨below_step hI.1 hb, below_step hI.2.1 hb, below_step hI.2.2 hb⟩
                    · exact AllStay.cons (Stays.v _) (AllStay.cons (Stays.v _) (AllStay.cons (Stays.v _) (AllStay.cons (Stays.v _) (AllStay.cons (Stays.v _) (AllStay.nil)))))
                    · refine Steps.cons (fun a w hS hI hp => ok_on rfl (does_val (x_move rfl (hS.get 7 rfl)) rfl)) ?_
                      refine Steps.cons (fun a w hS hI hp => ok_on rfl (does_val (x_len (e := 5) rfl (by kernel_rfl) ((hp.get 0 (by rfl) rfl rfl))) rfl)) ?_
                      refine Steps.cons (fun a w hS hI hp => ok_on rfl (does_val (x_move rfl (hS.get 2 rfl)) rfl)) ?_
                      refine Steps.cons (fun a w hS hI hp => ok_on rfl (does_val (x_bin rfl ((hp.get 1 (by rfl) rfl rfl)) ((hp.get 2 (by rfl) rfl rfl)) (b_gtr _ _ _ _ _ _)) rfl)) ?_
                      refine Steps.cons (fun a w hS hI hp => ok_on rfl (does_val (x_assign rfl ((hp.get 3 (by rfl) rfl rfl))) rfl)) ?_
                      exact Steps.nil
                    clear hS
                    intro at23 w24 hS hI hp
                    have hBw24_w := hI.1
                    have hBw24_w3 := hI.2.1
                    have hBw24_w21 := hI.2.2
                    have hv43 : sl _ 43 = .bool (decide ((l0.length : Int) > t10_1)) := hp 4 (by decide)
                    have hBw24_w24 := Below.refl w24.heap.size w24
                    have hS := hS.cons hv43
                    clear hp hI hv43
                    refine hK22 _ _ ?_
                    clear hK22 K22
                    refine wp_cond_false ((hS.get 0 rfl).trans (bF (decide_eq_false c8))) ?_
                    refine wp_skip ?_
                    refine hK13 _ _ ?_
                    clear hK13 K13
                    refine wp_seq_k (fun K25 hK25 => ?_)
                    refine reg_any_tail 10 (N := 90) (bs := [(43, .bool (decide ((l0.length : Int) > t10_1))), (37, .bool (decide ((l0.length : Int) < t10_1))), (17, .bool (!t16)), (5, .int .i64 t10_1), (10, .bool (decide ((l0.length : Int) < 34))), (4, .int .i64 0), (3, .int .i64 0), (2, .pointer (some ⟨g4, 0, none⟩)), (0, .slice A0 l0.length c0)]) (I := fun x => Below w.heap.size w x ∧ Below w3.heap.size w3 x ∧ Below w24.heap.size w24 x) (ps := [IsV (.slice A0 l0.length c0), IsA (.int .u8 (rd l0 0)), IsV (.int .u8 (rd l0 0)), IsV (.int .i64 (wrap64 (rd l0 0))), IsV (.slice A0 l0.length c0), IsA (.int .u8 (rd l0 4)), IsV (.int .u8 (rd l0 4)), IsV (.int .i64 (wrap64 (rd l0 4))), IsV (.agg #[.int .i64 (wrap64 (rd l0 0)), .int .i64 (wrap64 (rd l0 4)), .int .i64 0, .int .i64 0, .int .u64 0, .int .i64 0, .int .i64 0, .int .i64 0, .int .i64 0, .int .u64 0, .int .i64 0, .int .i64 0, .int .i64 0, .int .i64 0, .int .i64 0, .int .i64 0, .int .i64 0, .int .u64 0, .int .i64 0, .int .i64 0, .int .i64 0, .int .i64 0, .int .i64 0]), IsB #[.int .i64 0, .int .i64 0, .int .i64 0, .int .i64 0, .int .u64 0, .int .i64 0, .int .i64 0, .int .i64 0, .int .i64 0, .int .u64 0, .int .i64 0, .int .i64 0, .int .i64 0, .int .i64 0, .int .i64 0, .int .i64 0, .int .i64 0, .int .u64 0, .int .i64 0, .int .i64 0, .int .i64 0, .int .i64 0, .int .i64 0] 28 w24.heap.size]) (by kernel_rfl) (by kernel_rfl) (by kernel_rfl) (by decide) ?_ ?_ rfl hS ⟨hBw24_w, hBw24_w3, hBw24_w24⟩ ?_ ?_
                    · exact fun x y hI hb => ⟨below_step hI.1 hb, below_step hI.2.1 hb, below_step hI.2.2 hb⟩
                    · exact AllStay.cons (Stays.v _) (AllStay.cons (Stays.a _) (AllStay.cons (Stays.v _) (AllStay.cons (Stays.v _) (AllStay.cons (Stays.v _) (AllStay.cons (Stays.a _) (AllStay.cons (Stays.v _) (AllStay.cons (Stays.v _) (AllStay.cons (Stays.v _) (AllStay.cons (Stays.b _ _ _) (AllStay.nil))))))))))
                    · refine Steps.cons (fun a w hS hI hp => ok_on rfl (does_val (x_move rfl (hS.get 8 rfl)) rfl)) ?_
                      refine Steps.cons (fun a w hS hI hp => ok_on rfl (does_index (e := 5) (xs := l0) rfl ((hp.get 0 (by rfl) rfl rfl)) (rfl) (by kernel_rfl) (by kernel_rfl) (by decide) c2 c2 ((Kd.C_below HR0 hI.1)))) ?_
                      refine Steps.cons (fun a w hS hI hp => ok_on rfl (((hp.get 1 (by rfl) rfl rfl)).elim fun _ h_ => does_val (x_load1 (d := .int .u8) rfl h_.1 (by kernel_rfl) rfl h_.2.2) rfl)) ?_
                      refine Steps.cons (fun a w hS hI hp => ok_on rfl (does_val ((i64_w (rd l0 0)) ▸ x_convI rfl (by kernel_rfl) (by kernel_rfl) ((hp.get 2 (by rfl) rfl rfl))) rfl)) ?_
                      refine Steps.cons (fun a w hS hI hp => ok_on rfl (does_val (x_move rfl (hS.get 8 rfl)) rfl)) ?_
                      refine Steps.cons (fun a w hS hI hp => ok_on rfl (does_index (e := 5) (xs := l0) rfl ((hp.get 4 (by rfl) rfl rfl)) (rfl) (by kernel_rfl) (by kernel_rfl) (by decide) c9 c9 ((Kd.C_below HR0 hI.1)))) ?_
                      refine Steps.cons (fun a w hS hI hp => ok_on rfl (((hp.get 5 (by rfl) rfl rfl)).elim fun _ h_ => does_val (x_load1 (d := .int .u8) rfl h_.1 (by kernel_rfl) rfl h_.2.2) rfl)) ?_
                      refine Steps.cons (fun a w hS hI hp => ok_on rfl (does_val ((i64_w (rd l0 4)) ▸ x_convI rfl (by kernel_rfl) (by kernel_rfl) ((hp.get 6 (by rfl) rfl rfl))) rfl)) ?_
                      refine Steps.cons (fun a w hS hI hp => ok_on rfl (does_val (x_build (vs := [(0, .int .i64 (wrap64 (rd l0 0))), (1, .int .i64 (wrap64 (rd l0 4)))]) rfl (by rw [Array.toList_map]; exact (show [(0, a.eval (.tmp 52)), (1, a.eval (.tmp 56))] = _ from (li_cons ((hp.get 3 (by rfl) rfl rfl)) (li_cons ((hp.get 7 (by rfl) rfl rfl)) rfl)))) (by kernel_rfl)) rfl)) ?_
                      refine Steps.cons (fun a w hS hI hp => ok_on rfl (does_var (x_alloc rfl (by kernel_rfl)) (hI.2.2).size)) ?_
                      exact Steps.nil
                    clear hS
                    intro at26 w27 hS hI hp
                    have hBw27_w := hI.1
                    have hBw27_w3 := hI.2.1
                    have hBw27_w24 := hI.2.2
                    have hv57 : sl _ 57 = .agg #[.int .i64 (wrap64 (rd l0 0)), .int .i64 (wrap64 (rd l0 4)), .int .i64 0, .int .i64 0, .int .u64 0, .int .i64 0, .int .i64 0, .int .i64 0, .int .i64 0, .int .u64 0, .int .i64 0, .int .i64 0, .int .i64 0, .int .i64 0, .int .i64 0, .int .i64 0, .int .i64 0, .int .u64 0, .int .i64 0, .int .i64 0, .int .i64 0, .int .i64 0, .int .i64 0] := hp 8 (by decide)
                    obtain ⟨g28, hv7, hgeg28, hbxg28⟩ := (show IsB _ 28 _ (sl _ 7) _ from hp 9 (by decide))
                    have hBw27_w27 := Below.refl w27.heap.size w27
                    have hS := hS.cons hv57
                    have hS := hS.cons hv7
                    clear hp hI hv57 hv7
                    show wpList _ _ _ [_] _ _
                    refine list_step rfl (does_storeAll (g := g28) (cs := #[.int .i64 (wrap64 (rd l0 0)), .int .i64 (wrap64 (rd l0 4)), .int .i64 0, .int .i64 0, .int .u64 0, .int .i64 0, .int .i64 0, .int .i64 0, .int .i64 0, .int .u64 0, .int .i64 0, .int .i64 0, .int .i64 0, .int .i64 0, .int .i64 0, .int .i64 0, .int .i64 0, .int .u64 0, .int .i64 0, .int .i64 0, .int .i64 0, .int .i64 0, .int .i64 0]) rfl (hS.get 0 rfl) (hS.get 1 rfl) ((hBw27_w27.block g28 (blk_lt hbxg28)).trans hbxg28) (by kernel_rfl) (by kernel_rfl) (by kernel_rfl)) ?_
                    rintro vw29 w29 ⟨rfl, hbxw29, hT⟩
                    have hBw29_w := hT.below hBw27_w (Nat.le_trans (hBw24_w).size hgeg28) (hBw27_w).size
                    have hBw29_w3 := hT.below hBw27_w3 (Nat.le_trans (hBw24_w3).size hgeg28) (hBw27_w3).size
                    have hBw29_w24 := hT.below hBw27_w24 hgeg28 (hBw27_w24).size
                    have hBw29_w29 := Below.refl w29.heap.size w29
                    clear hT
                    refine wpList_nil ?_
                    refine hK25 _ _ ?_
                    clear hK25 K25
                    refine wp_seq_k (fun K30 hK30 => ?_)
                    refine reg_seq_tail 6 (N := 90) (bs := [(7, .pointer (some ⟨g28, 0, none⟩)), (57, .agg #[.int .i64 (wrap64 (rd l0 0)), .int .i64 (wrap64 (rd l0 4)), .int .i64 0, .int .i64 0, .int .u64 0, .int .i64 0, .int .i64 0, .int .i64 0, .int .i64 0, .int .u64 0, .int .i64 0, .int .i64 0, .int .i64 0, .int .i64 0, .int .i64 0, .int .i64 0, .int .i64 0, .int .u64 0, .int .i64 0, .int .i64 0, .int .i64 0, .int .i64 0, .int .i64 0]), (43, .bool (decide ((l0.length : Int) > t10_1))), (37, .bool (decide ((l0.length : Int) < t10_1))), (17, .bool (!t16)), (5, .int .i64 t10_1), (10, .bool (decide ((l0.length : Int) < 34))), (4, .int .i64 0), (3, .int .i64 0), (2, .pointer (some ⟨g4, 0, none⟩)), (0, .slice A0 l0.length c0)]) (I := fun x => Below w.heap.size w x ∧ Below w3.heap.size w3 x ∧ Below w24.heap.size w24 x ∧ Below w29.heap.size w29 x) (ps := [IsV (.slice A0 l0.length c0), IsV (.tuple #[.int .i64 t31_1, .bool t31_2]), IsV (.tuple #[.int .i64 t31_1, .bool t31_2]), IsV (.int .i64 t31_1), IsV (.bool t31_2), IsV (.pointer (some ⟨g28, 2, none⟩))]) (by kernel_rfl) ?_ ?_ rfl hS ⟨hBw29_w, hBw29_w3, hBw29_w24, hBw29_w29⟩ ?_ ?_
                    · exact fun x y hI hb => ⟨below_step hI.1 hb, below_step hI.2.1 hb, below_step hI.2.2.1 hb, below_step hI.2.2.2 hb⟩
                    · exact AllStay.cons (Stays.v _) (AllStay.cons (Stays.v _) (AllStay.cons (Stays.v _) (AllStay.cons (Stays.v _) (AllStay.cons (Stays.v _) (AllStay.cons (Stays.v _) (AllStay.nil))))))
                    · refine Steps.cons (fun a w hS hI hp => ok_on rfl (does_val (x_move rfl (hS.get 10 rfl)) rfl)) ?_
                      refine Steps.cons (fun a w hS hI hp => ok_on rfl (does_call (by kernel_rfl) (ar3 ((hp.get 0 (by rfl) rfl rfl)) (rfl) (rfl)) ((octets_Get.calls k _ _ l0 6 2 t31_1 t31_2 _ (Kd.C_below HR0 hI.1) HC0 At31).mono fun _ _ h => ⟨_, h.1, h.2.below, rfl⟩))) ?_
                      refine Steps.cons (fun a w hS hI hp => ok_on rfl (does_val (x_move rfl ((hp.get 1 (by rfl) rfl rfl))) rfl)) ?_
                      refine Steps.cons (fun a w hS hI hp => ok_on rfl (does_val (x_extract rfl ((hp.get 2 (by rfl) rfl rfl)) rfl) rfl)) ?_
                      refine Steps.cons (fun a w hS hI hp => ok_on rfl (does_val (x_extract rfl ((hp.get 2 (by rfl) rfl rfl)) rfl) rfl)) ?_
                      refine Steps.cons (fun a w hS hI hp => ok_on rfl (does_val (x_field rfl (hS.get 0 rfl) Try.underlying28 rfl (by kernel_rfl)) rfl)) ?_
                      exact Steps.nil
                    clear hS
                    intro at32 w33 hS hI hp
                    have hBw33_w := hI.1
                    have hBw33_w3 := hI.2.1
                    have hBw33_w24 := hI.2.2.1
                    have hBw33_w29 := hI.2.2.2
                    replace hS := ((((((((((hS.nil).cons (hS.get 10 rfl)).cons (hS.get 9 rfl)).cons (hS.get 8 rfl)).cons (hS.get 7 rfl)).cons (hS.get 6 rfl)).cons (hS.get 5 rfl)).cons (hS.get 4 rfl)).cons (hS.get 3 rfl)).cons (hS.get 2 rfl)).cons (hS.get 0 rfl)
                    have hv61 : sl _ 61 = .int .i64 t31_1 := hp 3 (by decide)
                    have hv63 : sl _ 63 = .pointer (some ⟨g28, 2, none⟩) := hp 5 (by decide)
                    have hBw33_w33 := Below.refl w33.heap.size w33
                    have hS := hS.cons hv61
                    have hS := hS.cons hv63
                    clear hp hI hv61 hv63
                    show wpList _ _ _ [_] _ _
                    refine list_step rfl (does_store (g := g28) (off := 2) (v := .int .i64 t31_1) (new := #[.int .i64 (wrap64 (rd l0 0)), .int .i64 (wrap64 (rd l0 4)), .int .i64 t31_1, .int .i64 0, .int .u64 0, .int .i64 0, .int .i64 0, .int .i64 0, .int .i64 0, .int .u64 0, .int .i64 0, .int .i64 0, .int .i64 0, .int .i64 0, .int .i64 0, .int .i64 0, .int .i64 0, .int .u64 0, .int .i64 0, .int .i64 0, .int .i64 0, .int .i64 0, .int .i64 0]) rfl (hS.get 0 rfl) (hS.get 1 rfl) ((hBw33_w29.block g28 (blk_lt hbxw29)).trans hbxw29) (by kernel_rfl) (by kernel_rfl) (by kernel_rfl) (by kernel_rfl)) ?_
                    rintro vw34 w34 ⟨rfl, hbxw34, hT⟩
                    have hBw34_w := hT.below hBw33_w (Nat.le_trans (hBw24_w).size hgeg28) (hBw33_w).size
                    have hBw34_w3 := hT.below hBw33_w3 (Nat.le_trans (hBw24_w3).size hgeg28) (hBw33_w3).size
                    have hBw34_w24 := hT.below hBw33_w24 hgeg28 (hBw33_w24).size
                    have hBw34_w34 := Below.refl w34.heap.size w34
                    clear hT
                    refine wpList_nil ?_
                    refine hK30 _ _ ?_
                    clear hK30 K30
                    refine wp_seq_k (fun K35 hK35 => ?_)
                    refine reg_seq_tail 6 (N := 90) (bs := [(63, .pointer (some ⟨g28, 2, none⟩)), (61, .int .i64 t31_1), (7, .pointer (some ⟨g28, 0, none⟩)), (43, .bool (decide ((l0.length : Int) > t10_1))), (37, .bool (decide ((l0.length : Int) < t10_1))), (17, .bool (!t16)), (5, .int .i64 t10_1), (10, .bool (decide ((l0.length : Int) < 34))), (4, .int .i64 0), (3, .int .i64 0), (2, .pointer (some ⟨g4, 0, none⟩)), (0, .slice A0 l0.length c0)]) (I := fun x => Below w.heap.size w x ∧ Below w3.heap.size w3 x ∧ Below w24.heap.size w24 x ∧ Below w34.heap.size w34 x) (ps := [IsV (.slice A0 l0.length c0), IsV (.tuple #[.int .i64 t36_1, .bool t36_2]), IsV (.tuple #[.int .i64 t36_1, .bool t36_2]), IsV (.int .i64 t36_1), IsV (.bool t36_2), IsV (.pointer (some ⟨g28, 3, none⟩))]) (by kernel_rfl) ?_ ?_ rfl hS ⟨hBw34_w, hBw34_w3, hBw34_w24, hBw34_w34⟩ ?_ ?_
                    · exact fun x y hI hb => ⟨below_step hI.1 hb, below_step hI.2.1 hb, below_step hI.2.2.1 hb, below_step hI.2.2.2 hb⟩
                    · exact AllStay.cons (Stays.v _) (AllStay.cons (Stays.v _) (AllStay.cons (Stays.v _) (AllStay.cons (Stays.v _) (AllStay.cons (Stays.v _) (AllStay.cons (Stays.v _) (AllStay.nil))))))
                    · refine Steps.cons (fun a w hS hI hp => ok_on rfl (does_val (x_move rfl (hS.get 11 rfl)) rfl)) ?_
                      refine Steps.cons (fun a w hS hI hp => ok_on rfl (does_call (by kernel_rfl) (ar3 ((hp.get 0 (by rfl) rfl rfl)) (rfl) (rfl)) ((octets_Signed.calls k _ _ l0 8 8 t36_1 t36_2 _ (Kd.C_below HR0 hI.1) HC0 At36).mono fun _ _ h => ⟨_, h.1, h.2.below, rfl⟩))) ?_
                      refine Steps.cons (fun a w hS hI hp => ok_on rfl (does_val (x_move rfl ((hp.get 1 (by rfl) rfl rfl))) rfl)) ?_
                      refine Steps.cons (fun a w hS hI hp => ok_on rfl (does_val (x_extract rfl ((hp.get 2 (by rfl) rfl rfl)) rfl) rfl)) ?_
                      refine Steps.cons (fun a w hS hI hp => ok_on rfl (does_val (x_extract rfl ((hp.get 2 (by rfl) rfl rfl)) rfl) rfl)) ?_
                      refine Steps.cons (fun a w hS hI hp => ok_on rfl (does_val (x_field rfl (hS.get 2 rfl) Try.underlying28 rfl (by kernel_rfl)) rfl)) ?_
                      exact Steps.nil
                    clear hS
                    intro at37 w38 hS hI hp
                    have hBw38_w := hI.1
                    have hBw38_w3 := hI.2.1
                    have hBw38_w24 := hI.2.2.1
                    have hBw38_w34 := hI.2.2.2
                    replace hS := ((((((((((hS.nil).cons (hS.get 11 rfl)).cons (hS.get 10 rfl)).cons (hS.get 9 rfl)).cons (hS.get 8 rfl)).cons (hS.get 7 rfl)).cons (hS.get 6 rfl)).cons (hS.get 5 rfl)).cons (hS.get 4 rfl)).cons (hS.get 3 rfl)).cons (hS.get 2 rfl)
                    have hv67 : sl _ 67 = .int .i64 t36_1 := hp 3 (by decide)
                    have hv69 : sl _ 69 = .pointer (some ⟨g28, 3, none⟩) := hp 5 (by decide)
                    have hBw38_w38 := Below.refl w38.heap.size w38
                    have hS := hS.cons hv67
                    have hS := hS.cons hv69
                    clear hp hI hv67 hv69
                    show wpList _ _ _ [_] _ _
                    refine list_step rfl (does_store (g := g28) (off := 3) (v := .int .i64 t36_1) (new := #[.int .i64 (wrap64 (rd l0 0)), .int .i64 (wrap64 (rd l0 4)), .int .i64 t31_1, .int .i64 t36_1, .int .u64 0, .int .i64 0, .int .i64 0, .int .i64 0, .int .i64 0, .int .u64 0, .int .i64 0, .int .i64 0, .int .i64 0, .int .i64 0, .int .i64 0, .int .i64 0, .int .i64 0, .int .u64 0, .int .i64 0, .int .i64 0, .int .i64 0, .int .i64 0, .int .i64 0]) rfl (hS.get 0 rfl) (hS.get 1 rfl) ((hBw38_w34.block g28 (blk_lt hbxw34)).trans hbxw34) (by kernel_rfl) (by kernel_rfl) (by kernel_rfl) (by kernel_rfl)) ?_
                    rintro vw39 w39 ⟨rfl, hbxw39, hT⟩
                    have hBw39_w := hT.below hBw38_w (Nat.le_trans (hBw24_w).size hgeg28) (hBw38_w).size
                    have hBw39_w3 := hT.below hBw38_w3 (Nat.le_trans (hBw24_w3).size hgeg28) (hBw38_w3).size
                    have hBw39_w24 := hT.below hBw38_w24 hgeg28 (hBw38_w24).size
                    have hBw39_w39 := Below.refl w39.heap.size w39
                    clear hT
                    refine wpList_nil ?_
                    refine hK35 _ _ ?_
                    clear hK35 K35
                    refine wp_seq_k (fun K40 hK40 => ?_)
                    refine reg_seq_tail 6 (N := 90) (bs := [(69, .pointer (some ⟨g28, 3, none⟩)), (67, .int .i64 t36_1), (7, .pointer (some ⟨g28, 0, none⟩)), (43, .bool (decide ((l0.length : Int) > t10_1))), (37, .bool (decide ((l0.length : Int) < t10_1))), (17, .bool (!t16)), (5, .int .i64 t10_1), (10, .bool (decide ((l0.length : Int) < 34))), (4, .int .i64 0), (3, .int .i64 0), (2, .pointer (some ⟨g4, 0, none⟩)), (0, .slice A0 l0.length c0)]) (I := fun x => Below w.heap.size w x ∧ Below w3.heap.size w3 x ∧ Below w24.heap.size w24 x ∧ Below w39.heap.size w39 x) (ps := [IsV (.slice A0 l0.length c0), IsV (.tuple #[.agg #[.int .u64 t41_1, .int .i64 t41_2], .bool t41_3]), IsV (.tuple #[.agg #[.int .u64 t41_1, .int .i64 t41_2], .bool t41_3]), IsV (.agg #[.int .u64 t41_1, .int .i64 t41_2]), IsV (.bool t41_3), IsV (.pointer (some ⟨g28, 4, none⟩))]) (by kernel_rfl) ?_ ?_ rfl hS ⟨hBw39_w, hBw39_w3, hBw39_w24, hBw39_w39⟩ ?_ ?_
                    · exact fun x y hI hb => ⟨below_step hI.1 hb, below_step hI.2.1 hb, below_step hI.2.2.1 hb, below_step hI.2.2.2 hb⟩
                    · exact AllStay.cons (Stays.v _) (AllStay.cons (Stays.v _) (AllStay.cons (Stays.v _) (AllStay.cons (Stays.v _) (AllStay.cons (Stays.v _) (AllStay.cons (Stays.v _) (AllStay.nil))))))
                    · refine Steps.cons (fun a w hS hI hp => ok_on rfl (does_val (x_move rfl (hS.get 11 rfl)) rfl)) ?_
                      refine Steps.cons (fun a w hS hI hp => ok_on rfl (does_call (by kernel_rfl) (ar2 ((hp.get 0 (by rfl) rfl rfl)) (rfl)) ((ident_Get.calls k _ _ l0 20 t41_1 t41_2 t41_3 _ (Kd.C_below HR0 hI.1) HC0 At41).mono fun _ _ h => ⟨_, h.1, h.2, rfl⟩))) ?_
                      refine Steps.cons (fun a w hS hI hp => ok_on rfl (does_val (x_move rfl ((hp.get 1 (by rfl) rfl rfl))) rfl)) ?_
                      refine Steps.cons (fun a w hS hI hp => ok_on rfl (does_val (x_extract rfl ((hp.get 2 (by rfl) rfl rfl)) rfl) rfl)) ?_
                      refine Steps.cons (fun a w hS hI hp => ok_on rfl (does_val (x_extract rfl ((hp.get 2 (by rfl) rfl rfl)) rfl) rfl)) ?_
                      refine Steps.cons (fun a w hS hI hp => ok_on rfl (does_val (x_field rfl (hS.get 2 rfl) Try.underlying28 rfl (by kernel_rfl)) rfl)) ?_
                      exact Steps.nil
                    clear hS
                    intro at42 w43 hS hI hp
                    have hBw43_w := hI.1
                    have hBw43_w3 := hI.2.1
                    have hBw43_w24 := hI.2.2.1
                    have hBw43_w39 := hI.2.2.2
                    replace hS := ((((((((((hS.nil).cons (hS.get 11 rfl)).cons (hS.get 10 rfl)).cons (hS.get 9 rfl)).cons (hS.get 8 rfl)).cons (hS.get 7 rfl)).cons (hS.get 6 rfl)).cons (hS.get 5 rfl)).cons (hS.get 4 rfl)).cons (hS.get 3 rfl)).cons (hS.get 2 rfl)
                    have hv73 : sl _ 73 = .agg #[.int .u64 t41_1, .int .i64 t41_2] := hp 3 (by decide)
                    have hv75 : sl _ 75 = .pointer (some ⟨g28, 4, none⟩) := hp 5 (by decide)
                    have hBw43_w43 := Below.refl w43.heap.size w43
                    have hS := hS.cons hv73
                    have hS := hS.cons hv75
                    clear hp hI hv73 hv75
                    show wpList _ _ _ [_] _ _
                    refine list_step rfl (does_store (g := g28) (off := 4) (v := .agg #[.int .u64 t41_1, .int .i64 t41_2]) (new := #[.int .i64 (wrap64 (rd l0 0)), .int .i64 (wrap64 (rd l0 4)), .int .i64 t31_1, .int .i64 t36_1, .int .u64 t41_1, .int .i64 t41_2, .int .i64 0, .int .i64 0, .int .i64 0, .int .u64 0, .int .i64 0, .int .i64 0, .int .i64 0, .int .i64 0, .int .i64 0, .int .i64 0, .int .i64 0, .int .u64 0, .int .i64 0, .int .i64 0, .int .i64 0, .int .i64 0, .int .i64 0]) rfl (hS.get 0 rfl) (hS.get 1 rfl) ((hBw43_w39.block g28 (blk_lt hbxw39)).trans hbxw39) (by kernel_rfl) (by kernel_rfl) (by kernel_rfl) (by kernel_rfl)) ?_
                    rintro vw44 w44 ⟨rfl, hbxw44, hT⟩
                    have hBw44_w := hT.below hBw43_w (Nat.le_trans (hBw24_w).size hgeg28) (hBw43_w).size
                    have hBw44_w3 := hT.below hBw43_w3 (Nat.le_trans (hBw24_w3).size hgeg28) (hBw43_w3).size
                    have hBw44_w24 := hT.below hBw43_w24 hgeg28 (hBw43_w24).size
                    have hBw44_w44 := Below.refl w44.heap.size w44
                    clear hT
                    refine wpList_nil ?_
                    refine hK40 _ _ ?_
                    clear hK40 K40
                    refine wp_seq_k (fun K45 hK45 => ?_)
                    refine reg_seq_tail 6 (N := 90) (bs := [(75, .pointer (some ⟨g28, 4, none⟩)), (73, .agg #[.int .u64 t41_1, .int .i64 t41_2]), (7, .pointer (some ⟨g28, 0, none⟩)), (43, .bool (decide ((l0.length : Int) > t10_1))), (37, .bool (decide ((l0.length : Int) < t10_1))), (17, .bool (!t16)), (5, .int .i64 t10_1), (10, .bool (decide ((l0.length : Int) < 34))), (4, .int .i64 0), (3, .int .i64 0), (2, .pointer (some ⟨g4, 0, none⟩)), (0, .slice A0 l0.length c0)]) (I := fun x => Below w.heap.size w x ∧ Below w3.heap.size w3 x ∧ Below w24.heap.size w24 x ∧ Below w44.heap.size w44 x) (ps := [IsV (.slice A0 l0.length c0), IsV (.tuple #[.int .i64 t46_1, .bool t46_2]), IsV (.tuple #[.int .i64 t46_1, .bool t46_2]), IsV (.int .i64 t46_1), IsV (.bool t46_2), IsV (.pointer (some ⟨g28, 6, none⟩))]) (by kernel_rfl) ?_ ?_ rfl hS ⟨hBw44_w, hBw44_w3, hBw44_w24, hBw44_w44⟩ ?_ ?_
                    · exact fun x y hI hb => ⟨below_step hI.1 hb, below_step hI.2.1 hb, below_step hI.2.2.1 hb, below_step hI.2.2.2 hb⟩
                    · exact AllStay.cons (Stays.v _) (AllStay.cons (Stays.v _) (AllStay.cons (Stays.v _) (AllStay.cons (Stays.v _) (AllStay.cons (Stays.v _) (AllStay.cons (Stays.v _) (AllStay.nil))))))
                    · refine Steps.cons (fun a w hS hI hp => ok_on rfl (does_val (x_move rfl (hS.get 11 rfl)) rfl)) ?_
                      refine Steps.cons (fun a w hS hI hp => ok_on rfl (does_call (by kernel_rfl) (ar3 ((hp.get 0 (by rfl) rfl rfl)) (rfl) (rfl)) ((octets_Get.calls k _ _ l0 30 2 t46_1 t46_2 _ (Kd.C_below HR0 hI.1) HC0 At46).mono fun _ _ h => ⟨_, h.1, h.2.below, rfl⟩))) ?_
                      refine Steps.cons (fun a w hS hI hp => ok_on rfl (does_val (x_move rfl ((hp.get 1 (by rfl) rfl rfl))) rfl)) ?_
                      refine Steps.cons (fun a w hS hI hp => ok_on rfl (does_val (x_extract rfl ((hp.get 2 (by rfl) rfl rfl)) rfl) rfl)) ?_
                      refine Steps.cons (fun a w hS hI hp => ok_on rfl (does_val (x_extract rfl ((hp.get 2 (by rfl) rfl rfl)) rfl) rfl)) ?_
                      refine Steps.cons (fun a w hS hI hp => ok_on rfl (does_val (x_field rfl (hS.get 2 rfl) Try.underlying28 rfl (by kernel_rfl)) rfl)) ?_
                      exact Steps.nil
                    clear hS
                    intro at47 w48 hS hI hp
                    have hBw48_w := hI.1
                    have hBw48_w3 := hI.2.1
                    have hBw48_w24 := hI.2.2.1
                    have hBw48_w44 := hI.2.2.2
                    replace hS := ((((((((((hS.nil).cons (hS.get 11 rfl)).cons (hS.get 10 rfl)).cons (hS.get 9 rfl)).cons (hS.get 8 rfl)).cons (hS.get 7 rfl)).cons (hS.get 6 rfl)).cons (hS.get 5 rfl)).cons (hS.get 4 rfl)).cons (hS.get 3 rfl)).cons (hS.get 2 rfl)
                    have hv79 : sl _ 79 = .int .i64 t46_1 := hp 3 (by decide)
                    have hv81 : sl _ 81 = .pointer (some ⟨g28, 6, none⟩) := hp 5 (by decide)
                    have hBw48_w48 := Below.refl w48.heap.size w48
                    have hS := hS.cons hv79
                    have hS := hS.cons hv81
                    clear hp hI hv79 hv81
                    show wpList _ _ _ [_] _ _
                    refine list_step rfl (does_store (g := g28) (off := 6) (v := .int .i64 t46_1) (new := #[.int .i64 (wrap64 (rd l0 0)), .int .i64 (wrap64 (rd l0 4)), .int .i64 t31_1, .int .i64 t36_1, .int .u64 t41_1, .int .i64 t41_2, .int .i64 t46_1, .int .i64 0, .int .i64 0, .int .u64 0, .int .i64 0, .int .i64 0, .int .i64 0, .int .i64 0, .int .i64 0, .int .i64 0, .int .i64 0, .int .u64 0, .int .i64 0, .int .i64 0, .int .i64 0, .int .i64 0, .int .i64 0]) rfl (hS.get 0 rfl) (hS.get 1 rfl) ((hBw48_w44.block g28 (blk_lt hbxw44)).trans hbxw44) (by kernel_rfl) (by kernel_rfl) (by kernel_rfl) (by kernel_rfl)) ?_
                    rintro vw49 w49 ⟨rfl, hbxw49, hT⟩
                    have hBw49_w := hT.below hBw48_w (Nat.le_trans (hBw24_w).size hgeg28) (hBw48_w).size
                    have hBw49_w3 := hT.below hBw48_w3 (Nat.le_trans (hBw24_w3).size hgeg28) (hBw48_w3).size
                    have hBw49_w24 := hT.below hBw48_w24 hgeg28 (hBw48_w24).size
                    have hBw49_w49 := Below.refl w49.heap.size w49
                    clear hT
                    refine wpList_nil ?_
                    refine hK45 _ _ ?_
                    clear hK45 K45
                    refine wp_seq_k (fun K50 hK50 => ?_)
                    refine reg_seq_tail 6 (N := 90) (bs := [(81, .pointer (some ⟨g28, 6, none⟩)), (79, .int .i64 t46_1), (7, .pointer (some ⟨g28, 0, none⟩)), (43, .bool (decide ((l0.length : Int) > t10_1))), (37, .bool (decide ((l0.length : Int) < t10_1))), (17, .bool (!t16)), (5, .int .i64 t10_1), (10, .bool (decide ((l0.length : Int) < 34))), (4, .int .i64 0), (3, .int .i64 0), (2, .pointer (some ⟨g4, 0, none⟩)), (0, .slice A0 l0.length c0)]) (I := fun x => Below w.heap.size w x ∧ Below w3.heap.size w3 x ∧ Below w24.heap.size w24 x ∧ Below w49.heap.size w49 x) (ps := [IsV (.slice A0 l0.length c0), IsV (.tuple #[.int .i64 t51_1, .bool t51_2]), IsV (.tuple #[.int .i64 t51_1, .bool t51_2]), IsV (.int .i64 t51_1), IsV (.bool t51_2), IsV (.pointer (some ⟨g28, 7, none⟩))]) (by kernel_rfl) ?_ ?_ rfl hS ⟨hBw49_w, hBw49_w3, hBw49_w24, hBw49_w49⟩ ?_ ?_
                    · exact fun x y hI hb => ⟨below_step hI.1 hb, below_step hI.2.1 hb, below_step hI.2.2.1 hb, below_step hI.2.2.2 hb⟩
                    · exact AllStay.cons (Stays.v _) (AllStay.cons (Stays.v _) (AllStay.cons (Stays.v _) (AllStay.cons (Stays.v _) (AllStay.cons (Stays.v _) (AllStay.cons (Stays.v _) (AllStay.nil))))))
                    · refine Steps.cons (fun a w hS hI hp => ok_on rfl (does_val (x_move rfl (hS.get 11 rfl)) rfl)) ?_
                      refine Steps.cons (fun a w hS hI hp => ok_on rfl (does_call (by kernel_rfl) (ar3 ((hp.get 0 (by rfl) rfl rfl)) (rfl) (rfl)) ((octets_Signed.calls k _ _ l0 33 1 t51_1 t51_2 _ (Kd.C_below HR0 hI.1) HC0 At51).mono fun _ _ h => ⟨_, h.1, h.2.below, rfl⟩))) ?_
                      refine Steps.cons (fun a w hS hI hp => ok_on rfl (does_val (x_move rfl ((hp.get 1 (by rfl) rfl rfl))) rfl)) ?_
                      refine Steps.cons (fun a w hS hI hp => ok_on rfl (does_val (x_extract rfl ((hp.get 2 (by rfl) rfl rfl)) rfl) rfl)) ?_
                      refine Steps.cons (fun a w hS hI hp => ok_on rfl (does_val (x_extract rfl ((hp.get 2 (by rfl) rfl rfl)) rfl) rfl)) ?_
                      refine Steps.cons (fun a w hS hI hp => ok_on rfl (does_val (x_field rfl (hS.get 2 rfl) Try.underlying28 rfl (by kernel_rfl)) rfl)) ?_
                      exact Steps.nil
                    clear hS
                    intro at52 w53 hS hI hp
                    have hBw53_w := hI.1
                    have hBw53_w3 := hI.2.1
                    have hBw53_w24 := hI.2.2.1
                    have hBw53_w49 := hI.2.2.2
                    replace hS := (((((((((hS.nil).cons (hS.get 10 rfl)).cons (hS.get 9 rfl)).cons (hS.get 8 rfl)).cons (hS.get 7 rfl)).cons (hS.get 6 rfl)).cons (hS.get 5 rfl)).cons (hS.get 4 rfl)).cons (hS.get 3 rfl)).cons (hS.get 2 rfl)
                    have hv85 : sl _ 85 = .int .i64 t51_1 := hp 3 (by decide)
                    have hv87 : sl _ 87 = .pointer (some ⟨g28, 7, none⟩) := hp 5 (by decide)
                    have hBw53_w53 := Below.refl w53.heap.size w53
                    have hS := hS.cons hv85
                    have hS := hS.cons hv87
                    clear hp hI hv85 hv87
                    show wpList _ _ _ [_] _ _
                    refine list_step rfl (does_store (g := g28) (off := 7) (v := .int .i64 t51_1) (new := #[.int .i64 (wrap64 (rd l0 0)), .int .i64 (wrap64 (rd l0 4)), .int .i64 t31_1, .int .i64 t36_1, .int .u64 t41_1, .int .i64 t41_2, .int .i64 t46_1, .int .i64 t51_1, .int .i64 0, .int .u64 0, .int .i64 0, .int .i64 0, .int .i64 0, .int .i64 0, .int .i64 0, .int .i64 0, .int .i64 0, .int .u64 0, .int .i64 0, .int .i64 0, .int .i64 0, .int .i64 0, .int .i64 0]) rfl (hS.get 0 rfl) (hS.get 1 rfl) ((hBw53_w49.block g28 (blk_lt hbxw49)).trans hbxw49) (by kernel_rfl) (by kernel_rfl) (by kernel_rfl) (by kernel_rfl)) ?_
                    rintro vw54 w54 ⟨rfl, hbxw54, hT⟩
                    have hBw54_w := hT.below hBw53_w (Nat.le_trans (hBw24_w).size hgeg28) (hBw53_w).size
                    have hBw54_w3 := hT.below hBw53_w3 (Nat.le_trans (hBw24_w3).size hgeg28) (hBw53_w3).size
                    have hBw54_w24 := hT.below hBw53_w24 hgeg28 (hBw53_w24).size
                    have hBw54_w54 := Below.refl w54.heap.size w54
                    clear hT
                    refine wpList_nil ?_
                    refine hK50 _ _ ?_
                    clear hK50 K50
                    refine wp_seq_k (fun K55 hK55 => ?_)
                    refine reg_seq_tail 2 (N := 90) (bs := [(87, .pointer (some ⟨g28, 7, none⟩)), (85, .int .i64 t51_1), (7, .pointer (some ⟨g28, 0, none⟩)), (43, .bool (decide ((l0.length : Int) > t10_1))), (37, .bool (decide ((l0.length : Int) < t10_1))), (17, .bool (!t16)), (5, .int .i64 t10_1), (10, .bool (decide ((l0.length : Int) < 34))), (4, .int .i64 0), (3, .int .i64 0), (2, .pointer (some ⟨g4, 0, none⟩))]) (I := fun x => Below w.heap.size w x ∧ Below w3.heap.size w3 x ∧ Below w24.heap.size w24 x ∧ Below w54.heap.size w54 x) (ps := [IsV (.agg #[.int .i64 (wrap64 (rd l0 0)), .int .i64 (wrap64 (rd l0 4)), .int .i64 t31_1, .int .i64 t36_1, .int .u64 t41_1, .int .i64 t41_2, .int .i64 t46_1, .int .i64 t51_1, .int .i64 0, .int .u64 0, .int .i64 0, .int .i64 0, .int .i64 0, .int .i64 0, .int .i64 0, .int .i64 0, .int .i64 0, .int .u64 0, .int .i64 0, .int .i64 0, .int .i64 0, .int .i64 0, .int .i64 0]), IsV (.int .i64 t10_1)]) (by kernel_rfl) ?_ ?_ rfl hS ⟨hBw54_w, hBw54_w3, hBw54_w24, hBw54_w54⟩ ?_ ?_
                    · exact fun x y hI hb => ⟨below_step hI.1 hb, below_step hI.2.1 hb, below_step hI.2.2.1 hb, below_step hI.2.2.2 hb⟩
                    · exact AllStay.cons (Stays.v _) (AllStay.cons (Stays.v _) (AllStay.nil))
                    · refine Steps.cons (fun a w hS hI hp => ok_on rfl (does_loadrow rfl (hS.get 2 rfl) (((hI.2.2.2).block g28 (blk_lt hbxw54)).trans hbxw54) Try.underlying28 rfl (by kernel_rfl) rfl)) ?_
                      refine Steps.cons (fun a w hS hI hp => ok_on rfl (does_val (x_move rfl (hS.get 6 rfl)) rfl)) ?_
                      exact Steps.nil
                    clear hS
                    intro at56 w57 hS hI hp
                    have hBw57_w := hI.1
                    have hBw57_w3 := hI.2.1
                    have hBw57_w24 := hI.2.2.1
                    have hBw57_w54 := hI.2.2.2
                    replace hS := (((((((hS.nil).cons (hS.get 10 rfl)).cons (hS.get 9 rfl)).cons (hS.get 8 rfl)).cons (hS.get 7 rfl)).cons (hS.get 5 rfl)).cons (hS.get 4 rfl)).cons (hS.get 3 rfl)
                    have hv88 : sl _ 88 = .agg #[.int .i64 (wrap64 (rd l0 0)), .int .i64 (wrap64 (rd l0 4)), .int .i64 t31_1, .int .i64 t36_1, .int .u64 t41_1, .int .i64 t41_2, .int .i64 t46_1, .int .i64 t51_1, .int .i64 0, .int .u64 0, .int .i64 0, .int .i64 0, .int .i64 0, .int .i64 0, .int .i64 0, .int .i64 0, .int .i64 0, .int .u64 0, .int .i64 0, .int .i64 0, .int .i64 0, .int .i64 0, .int .i64 0] := hp 0 (by decide)
                    have hv89 : sl _ 89 = .int .i64 t10_1 := hp 1 (by decide)
                    have hBw57_w57 := Below.refl w57.heap.size w57
                    have hS := hS.cons hv88
                    have hS := hS.cons hv89
                    clear hp hI hv88 hv89
                    show wpList _ _ _ [_, _, _] _ _
                    refine list_step rfl (does_storeAll (g := g4) (cs := #[.int .i64 (wrap64 (rd l0 0)), .int .i64 (wrap64 (rd l0 4)), .int .i64 t31_1, .int .i64 t36_1, .int .u64 t41_1, .int .i64 t41_2, .int .i64 t46_1, .int .i64 t51_1, .int .i64 0, .int .u64 0, .int .i64 0, .int .i64 0, .int .i64 0, .int .i64 0, .int .i64 0, .int .i64 0, .int .i64 0, .int .u64 0, .int .i64 0, .int .i64 0, .int .i64 0, .int .i64 0, .int .i64 0]) rfl (hS.get 8 rfl) (hS.get 1 rfl) ((hBw57_w3.block g4 (blk_lt hbxg4)).trans hbxg4) (by kernel_rfl) (by kernel_rfl) (by kernel_rfl)) ?_
                    rintro vw58 w58 ⟨rfl, hbxw58, hT⟩
                    have hn59 := hT.blk ((hBw57_w54.block g28 (blk_lt hbxw54)).trans hbxw54) (Nat.ne_of_gt (Nat.lt_of_lt_of_le (Nat.lt_of_lt_of_le (blk_lt hbxg4) (hBw24_w3).size) hgeg28))
                    have hBw58_w := hT.below hBw57_w hgeg4 (hBw57_w).size
                    have hBw58_w58 := Below.refl w58.heap.size w58
                    clear hT
                    refine list_step rfl (R := fun v w' => Below _ _ w' ∧ (IsV (.int .i64 t10_1)) v w') (does_val (x_assign rfl (hS.get 0 rfl)) rfl) ?_
                    rintro vw60 w60 ⟨hb, he⟩
                    have hBw60_w := below_step hBw58_w hb
                    have hBw60_w58 := below_step hBw58_w58 hb
                    have hBw60_w60 := Below.refl w60.heap.size w60
                    obtain rfl : vw60 = .int .i64 t10_1 := he
                    replace hS := ((((((((hS.nil).cons (hS.get 8 rfl)).cons (hS.get 6 rfl)).cons (hS.get 5 rfl)).cons (hS.get 4 rfl)).cons (hS.get 3 rfl)).cons (hS.get 2 rfl)).cons (hS.get 1 rfl)).cons (hS.get 0 rfl)
                    refine hS.next (v := .int .i64 t10_1) (d := 3) rfl (by decide) (by rfl) ?_
                    clear hS
                    intro at61 hS
                    refine list_step rfl (R := fun v w' => Below _ _ w' ∧ (IsV (.int .i64 0)) v w') (does_val (x_assign rfl (rfl)) rfl) ?_
                    rintro vw62 w62 ⟨hb, he⟩
                    have hBw62_w := below_step hBw60_w hb
                    have hBw62_w58 := below_step hBw60_w58 hb
                    have hBw62_w60 := below_step hBw60_w60 hb
                    have hBw62_w62 := Below.refl w62.heap.size w62
                    obtain rfl : vw62 = .int .i64 0 := he
                    replace hS := ((((((((hS.nil).cons (hS.get 8 rfl)).cons (hS.get 6 rfl)).cons (hS.get 5 rfl)).cons (hS.get 4 rfl)).cons (hS.get 3 rfl)).cons (hS.get 2 rfl)).cons (hS.get 1 rfl)).cons (hS.get 0 rfl)
                    refine hS.next (v := .int .i64 0) (d := 4) rfl (by decide) (by rfl) ?_
                    clear hS
                    intro at63 hS
                    refine wpList_nil ?_
                    refine hK55 _ _ ?_
                    clear hK55 K55
                    refine wp_ret ?_
                    (try simp only [Exit.then, Exit.inBlock])
                    exact bodyPost_ret (v := .tuple #[.agg #[.int .i64 (wrap64 (rd l0 0)), .int .i64 (wrap64 (rd l0 4)), .int .i64 t31_1, .int .i64 t36_1, .int .u64 t41_1, .int .i64 t41_2, .int .i64 t46_1, .int .i64 t51_1, .int .i64 0, .int .u64 0, .int .i64 0, .int .i64 0, .int .i64 0, .int .i64 0, .int .i64 0, .int .i64 0, .int .i64 0, .int .u64 0, .int .i64 0, .int .i64 0, .int .i64 0, .int .i64 0, .int .i64 0], .int .i64 t10_1, .int .i64 0]) (results_list (rs := [.cell 2 28, .tmp 3, .tmp 4]) rfl (by simp) (Vals.cell g4 28 #[.int .i64 (wrap64 (rd l0 0)), .int .i64 (wrap64 (rd l0 4)), .int .i64 t31_1, .int .i64 t36_1, .int .u64 t41_1, .int .i64 t41_2, .int .i64 t46_1, .int .i64 t51_1, .int .i64 0, .int .u64 0, .int .i64 0, .int .i64 0, .int .i64 0, .int .i64 0, .int .i64 0, .int .i64 0, .int .i64 0, .int .u64 0, .int .i64 0, .int .i64 0, .int .i64 0, .int .i64 0, .int .i64 0] (0, 0) _ (hS.get 8 rfl) ((hBw62_w58.block g4 (blk_lt hbxw58)).trans hbxw58) Try.underlying28 rfl (by kernel_rfl) (Vals.at (hS.get 1 rfl) (Vals.at (hS.get 0 rfl) .nil)))) hS.nodef ⟨rfl, hBw62_w⟩
                  · rw [if_neg c9] at H
                    exact absurd H (by simp)
            · rw [if_neg c6] at H
              simp only [Option.some.injEq, Prod.mk.injEq] at H
              obtain ⟨rfl, rfl, rfl, rfl, rfl, rfl, rfl, rfl, rfl, rfl, rfl, rfl, rfl, rfl, rfl, rfl, rfl, rfl, rfl, rfl, rfl, rfl, rfl, rfl, rfl⟩ := H
              refine calls_of_wp (fn := Try.f17) (by kernel_rfl) rfl ?_
              have hS := St.enter #[.slice A0 l0.length c0] 90 (by simp) [(0, .slice A0 l0.length c0)] (by simp)
              have HB0 := Below.refl w.heap.size w
              refine wp_seq_k (fun K1 hK1 => ?_)
              refine reg_seq (N := 90) (bs := [(0, .slice A0 l0.length c0)]) (I := fun x => Below w.heap.size w x) (ps := [IsB #[.int .i64 0, .int .i64 0, .int .i64 0, .int .i64 0, .int .u64 0, .int .i64 0, .int .i64 0, .int .i64 0, .int .i64 0, .int .u64 0, .int .i64 0, .int .i64 0, .int .i64 0, .int .i64 0, .int .i64 0, .int .i64 0, .int .i64 0, .int .u64 0, .int .i64 0, .int .i64 0, .int .i64 0, .int .i64 0, .int .i64 0] 28 w.heap.size, IsV (.int .i64 0), IsV (.int .i64 0)]) (by kernel_rfl) ?_ ?_ rfl hS HB0 ?_ ?_
              · exact fun x y hI hb => below_step hI hb
              · exact AllStay.cons (Stays.b _ _ _) (AllStay.cons (Stays.v _) (AllStay.cons (Stays.v _) (AllStay.nil)))
              · refine Steps.cons (fun a w hS hI hp => ok_on rfl (does_var (x_alloc rfl (by kernel_rfl)) (hI).size)) ?_
                refine Steps.cons (fun a w hS hI hp => ok_on rfl (does_val (x_assign rfl (rfl)) rfl)) ?_
                refine Steps.cons (fun a w hS hI hp => ok_on rfl (does_val (x_assign rfl (rfl)) rfl)) ?_
                exact Steps.nil
              clear hS
              intro at2 w3 hS hI hp
              have hBw3_w := hI
              obtain ⟨g4, hv2, hgeg4, hbxg4⟩ := (show IsB _ 28 _ (sl _ 2) _ from hp 0 (by decide))
              have hv3 : sl _ 3 = .int .i64 0 := hp 1 (by decide)
              have hv4 : sl _ 4 = .int .i64 0 := hp 2 (by decide)
              have hBw3_w3 := Below.refl w3.heap.size w3
              have hS := hS.cons hv2
              have hS := hS.cons hv3
              have hS := hS.cons hv4
              clear hp hI hv2 hv3 hv4
              refine hK1 _ _ ?_
              clear hK1 K1
              refine wp_seq_k (fun K5 hK5 => ?_)
              refine wp_seq_k (fun K6 hK6 => ?_)
              refine reg_seq (N := 90) (bs := [(4, .int .i64 0), (3, .int .i64 0), (2, .pointer (some ⟨g4, 0, none⟩)), (0, .slice A0 l0.length c0)]) (I := fun x => Below w.heap.size w x ∧ Below w3.heap.size w3 x) (ps := [IsV (.slice A0 l0.length c0), IsV (.int .i64 (l0.length : Int)), IsV (.bool (decide ((l0.length : Int) < 34)))]) (by kernel_rfl) ?_ ?_ rfl hS ⟨hBw3_w, hBw3_w3⟩ ?_ ?_
              · exact fun x y hI hb => ⟨below_step hI.1 hb, below_step hI.2 hb⟩
              · exact AllStay.cons (Stays.v _) (AllStay.cons (Stays.v _) (AllStay.cons (Stays.v _) (AllStay.nil)))
              · refine Steps.cons (fun a w hS hI hp => ok_on rfl (does_val (x_move rfl (hS.get 3 rfl)) rfl)) ?_
                refine Steps.cons (fun a w hS hI hp => ok_on rfl (does_val (x_len (e := 5) rfl (by kernel_rfl) ((hp.get 0 (by rfl) rfl rfl))) rfl)) ?_
                refine Steps.cons (fun a w hS hI hp => ok_on rfl (does_val (x_bin rfl ((hp.get 1 (by rfl) rfl rfl)) (rfl) (b_lss _ _ _ _ _ _)) rfl)) ?_
                exact Steps.nil
              clear hS
              intro at7 w8 hS hI hp
              have hBw8_w := hI.1
              have hBw8_w3 := hI.2
              have hv10 : sl _ 10 = .bool (decide ((l0.length : Int) < 34)) := hp 2 (by decide)
              have hBw8_w8 := Below.refl w8.heap.size w8
              have hS := hS.cons hv10
              clear hp hI hv10
              refine hK6 _ _ ?_
              clear hK6 K6
              refine wp_cond_false ((hS.get 0 rfl).trans (bF (decide_eq_false c1))) ?_
              refine wp_skip ?_
              refine hK5 _ _ ?_
              clear hK5 K5
              refine wp_seq_k (fun K9 hK9 => ?_)
              refine reg_seq (N := 90) (bs := [(10, .bool (decide ((l0.length : Int) < 34))), (4, .int .i64 0), (3, .int .i64 0), (2, .pointer (some ⟨g4, 0, none⟩)), (0, .slice A0 l0.length c0)]) (I := fun x => Below w.heap.size w x ∧ Below w3.heap.size w3 x ∧ Below w8.heap.size w8 x) (ps := [IsV (.slice A0 l0.length c0), IsV (.tuple #[.int .i64 t10_1, .bool t10_2]), IsV (.tuple #[.int .i64 t10_1, .bool t10_2]), IsV (.int .i64 t10_1), IsV (.bool t10_2), IsV (.int .i64 t10_1), IsV (.bool t10_2)]) (by kernel_rfl) ?_ ?_ rfl hS ⟨hBw8_w, hBw8_w3, hBw8_w8⟩ ?_ ?_
              · exact fun x y hI hb => ⟨below_step hI.1 hb, below_step hI.2.1 hb, below_step hI.2.2 hb⟩
              · exact AllStay.cons (Stays.v _) (AllStay.cons (Stays.v _) (AllStay.cons (Stays.v _) (AllStay.cons (Stays.v _) (AllStay.cons (Stays.v _) (AllStay.cons (Stays.v _) (AllStay.cons (Stays.v _) (AllStay.nil)))))))
              · refine Steps.cons (fun a w hS hI hp => ok_on rfl (does_val (x_move rfl (hS.get 4 rfl)) rfl)) ?_
                refine Steps.cons (fun a w hS hI hp => ok_on rfl (does_call (by kernel_rfl) (ar3 ((hp.get 0 (by rfl) rfl rfl)) (rfl) (rfl)) ((octets_Get.calls k _ _ l0 2 2 t10_1 t10_2 _ (Kd.C_below HR0 hI.1) HC0 At10).mono fun _ _ h => ⟨_, h.1, h.2.below, rfl⟩))) ?_
                refine Steps.cons (fun a w hS hI hp => ok_on rfl (does_val (x_move rfl ((hp.get 1 (by rfl) rfl rfl))) rfl)) ?_
                refine Steps.cons (fun a w hS hI hp => ok_on rfl (does_val (x_extract rfl ((hp.get 2 (by rfl) rfl rfl)) rfl) rfl)) ?_
                refine Steps.cons (fun a w hS hI hp => ok_on rfl (does_val (x_extract rfl ((hp.get 2 (by rfl) rfl rfl)) rfl) rfl)) ?_
                refine Steps.cons (fun a w hS hI hp => ok_on rfl (does_val (x_assign rfl ((hp.get 3 (by rfl) rfl rfl))) rfl)) ?_
                refine Steps.cons (fun a w hS hI hp => ok_on rfl (does_val (x_assign rfl ((hp.get 4 (by rfl) rfl rfl))) rfl)) ?_
                exact Steps.nil
              clear hS
              intro at11 w12 hS hI hp
              have hBw12_w := hI.1
              have hBw12_w3 := hI.2.1
              have hBw12_w8 := hI.2.2
              have hv5 : sl _ 5 = .int .i64 t10_1 := hp 5 (by decide)
              have hBw12_w12 := Below.refl w12.heap.size w12
              have hS := hS.cons hv5
              clear hp hI hv5
              refine hK9 _ _ ?_
              clear hK9 K9
              refine wp_seq_k (fun K13 hK13 => ?_)
              refine wp_block ?_
              refine wp_seq_k (fun K14 hK14 => ?_)
              refine reg_seq (N := 90) (bs := [(5, .int .i64 t10_1), (10, .bool (decide ((l0.length : Int) < 34))), (4, .int .i64 0), (3, .int .i64 0), (2, .pointer (some ⟨g4, 0, none⟩)), (0, .slice A0 l0.length c0)]) (I := fun x => Below w.heap.size w x ∧ Below w3.heap.size w3 x ∧ Below w12.heap.size w12 x) (ps := [IsV (.slice A0 l0.length c0), IsA (.int .u8 (rd l0 0)), IsV (.int .u8 (rd l0 0)), IsV (.int .i64 (wrap64 (rd l0 0))), IsV (.bool t15), IsV (.bool (!t15)), IsV (.bool (!t15)), IsV (.slice A0 l0.length c0), IsA (.int .u8 (rd l0 1)), IsV (.int .u8 (rd l0 1)), IsV (.int .u8 (Go.bits .and .u8 (rd l0 1) 15)), IsV (.bool (!decide ((Go.bits .and .u8 (rd l0 1) 15) = 2))), IsV (.bool (!decide ((Go.bits .and .u8 (rd l0 1) 15) = 2))), IsV (.bool (!decide ((Go.bits .and .u8 (rd l0 1) 15) = 2))), IsV (.int .i64 t10_1), IsV (.bool t16), IsV (.bool (!t16)), IsV (.bool (!t16)), IsV (.bool (!t16))]) (by kernel_rfl) ?_ ?_ rfl hS ⟨hBw12_w, hBw12_w3, hBw12_w12⟩ ?_ ?_
              · exact fun x y hI hb => ⟨below_step hI.1 hb, below_step hI.2.1 hb, below_step hI.2.2 hb⟩
              · exact AllStay.cons (Stays.v _) (AllStay.cons (Stays.a _) (AllStay.cons (Stays.v _) (AllStay.cons (Stays.v _) (AllStay.cons (Stays.v _) (AllStay.cons (Stays.v _) (AllStay.cons (Stays.v _) (AllStay.cons (Stays.v _) (AllStay.cons (Stays.a _) (AllStay.cons (Stays.v _) (AllStay.cons (Stays.v _) (AllStay.cons (Stays.v _) (AllStay.cons (Stays.v _) (AllStay.cons (Stays.v _) (AllStay.cons (Stays.v _) (AllStay.cons (Stays.v _) (AllStay.cons (Stays.v _) (AllStay.cons (Stays.v _) (AllStay.cons (Stays.v _) (AllStay.nil)))))))))))))))))))
              · refine Steps.cons (fun a w hS hI hp => ok_on rfl (does_val (x_move rfl (hS.get 5 rfl)) rfl)) ?_
                refine Steps.cons (fun a w hS hI hp => ok_on rfl (does_index (e := 5) (xs := l0) rfl ((hp.get 0 (by rfl) rfl rfl)) (rfl) (by kernel_rfl) (by kernel_rfl) (by decide) c2 c2 ((Kd.C_below HR0 hI.1)))) ?_
                refine Steps.cons (fun a w hS hI hp => ok_on rfl (((hp.get 1 (by rfl) rfl rfl)).elim fun _ h_ => does_val (x_load1 (d := .int .u8) rfl h_.1 (by kernel_rfl) rfl h_.2.2) rfl)) ?_
                refine Steps.cons (fun a w hS hI hp => ok_on rfl (does_val ((i64_w (rd l0 0)) ▸ x_convI rfl (by kernel_rfl) (by kernel_rfl) ((hp.get 2 (by rfl) rfl rfl))) rfl)) ?_
                refine Steps.cons (fun a w hS hI hp => ok_on rfl (does_call (by kernel_rfl) (ar1 ((hp.get 3 (by rfl) rfl rfl))) ((header_Known.calls k (wrap64 (rd l0 0)) t15 _  At15).mono fun _ _ h => ⟨_, h.1, h.2.below, rfl⟩))) ?_
                refine Steps.cons (fun a w hS hI hp => ok_on rfl (does_val (x_not rfl ((hp.get 4 (by rfl) rfl rfl))) rfl)) ?_
                refine Steps.cons (fun a w hS hI hp => ok_on rfl (does_val (x_move rfl ((hp.get 5 (by rfl) rfl rfl))) rfl)) ?_
                refine Steps.cons (fun a w hS hI hp => ok_if (d := 24) rfl rfl (by rw [hS.size]; decide) (((hp.get 6 (by rfl) rfl rfl)).trans (bF (congrArg (!·) c3))) (does_val (x_move rfl (hS.get 5 rfl)) rfl)) ?_
                refine Steps.cons (fun a w hS hI hp => ok_if (d := 24) rfl rfl (by rw [hS.size]; decide) (((hp.get 6 (by rfl) rfl rfl)).trans (bF (congrArg (!·) c3))) (does_index (e := 5) (xs := l0) rfl ((hp.get 7 (by rfl) rfl rfl)) (rfl) (by kernel_rfl) (by kernel_rfl) (by decide) c4 c4 ((Kd.C_below HR0 hI.1)))) ?_
                refine Steps.cons (fun a w hS hI hp => ok_if (d := 24) rfl rfl (by rw [hS.size]; decide) (((hp.get 6 (by rfl) rfl rfl)).trans (bF (congrArg (!·) c3))) (((hp.get 8 (by rfl) rfl rfl)).elim fun _ h_ => does_val (x_load1 (d := .int .u8) rfl h_.1 (by kernel_rfl) rfl h_.2.2) rfl)) ?_
                refine Steps.cons (fun a w hS hI hp => ok_if (d := 24) rfl rfl (by rw [hS.size]; decide) (((hp.get 6 (by rfl) rfl rfl)).trans (bF (congrArg (!·) c3))) (does_val (x_bin rfl ((hp.get 9 (by rfl) rfl rfl)) (rfl) (b_and _ _ _ _ _ _)) rfl)) ?_
                refine Steps.cons (fun a w hS hI hp => ok_if (d := 24) rfl rfl (by rw [hS.size]; decide) (((hp.get 6 (by rfl) rfl rfl)).trans (bF (congrArg (!·) c3))) (does_val (x_bin rfl ((hp.get 10 (by rfl) rfl rfl)) (rfl) (b_neq _ _ _ _ _ _)) rfl)) ?_
                refine Steps.cons (fun a w hS hI hp => ok_on rfl (does_val (x_pickF rfl (((hp.get 6 (by rfl) rfl rfl)).trans (bF (congrArg (!·) c3))) ((hp.get 11 (by rfl) rfl rfl))) rfl)) ?_
                refine Steps.cons (fun a w hS hI hp => ok_on rfl (does_val (x_move rfl ((hp.get 12 (by rfl) rfl rfl))) rfl)) ?_
                refine Steps.cons (fun a w hS hI hp => ok_if (d := 31) rfl rfl (by rw [hS.size]; decide) (((hp.get 13 (by rfl) rfl rfl)).trans (bF (congrArg (!·) (decide_eq_true c5)))) (does_val (x_move rfl (hS.get 0 rfl)) rfl)) ?_
                refine Steps.cons (fun a w hS hI hp => ok_if (d := 31) rfl rfl (by rw [hS.size]; decide) (((hp.get 13 (by rfl) rfl rfl)).trans (bF (congrArg (!·) (decide_eq_true c5)))) (does_call (by kernel_rfl) (ar3 ((hp.get 14 (by rfl) rfl rfl)) (rfl) (rfl)) ((header_in.calls t10_1 34 400 t16 _  At16).mono fun _ _ h => ⟨_, h.1, h.2.below, rfl⟩))) ?_
                refine Steps.cons (fun a w hS hI hp => ok_if (d := 31) rfl rfl (by rw [hS.size]; decide) (((hp.get 13 (by rfl) rfl rfl)).trans (bF (congrArg (!·) (decide_eq_true c5)))) (does_val (x_not rfl ((hp.get 15 (by rfl) rfl rfl))) rfl)) ?_
                refine Steps.cons (fun a w hS hI hp => ok_on rfl (does_val (x_pickF rfl (((hp.get 13 (by rfl) rfl rfl)).trans (bF (congrArg (!·) (decide_eq_true c5)))) ((hp.get 16 (by rfl) rfl rfl))) rfl)) ?_
                refine Steps.cons (fun a w hS hI hp => ok_on rfl (does_val (x_assign rfl ((hp.get 17 (by rfl) rfl rfl))) rfl)) ?_
                exact Steps.nil
              clear hS
              intro at17 w18 hS hI hp
              have hBw18_w := hI.1
              have hBw18_w3 := hI.2.1
              have hBw18_w12 := hI.2.2
              have hv17 : sl _ 17 = .bool (!t16) := hp 18 (by decide)
              have hBw18_w18 := Below.refl w18.heap.size w18
              have hS := hS.cons hv17
              clear hp hI hv17
              refine hK14 _ _ ?_
              clear hK14 K14
              refine wp_cond_true ((hS.get 0 rfl).trans (bT (congrArg (!·) (Bool.eq_false_iff.2 c6)))) ?_
              refine wp_seq_k (fun K19 hK19 => ?_)
              refine reg_seq_tail 1 (N := 90) (bs := [(17, .bool (!t16)), (5, .int .i64 t10_1), (10, .bool (decide ((l0.length : Int) < 34))), (4, .int .i64 0), (3, .int .i64 0), (2, .pointer (some ⟨g4, 0, none⟩)), (0, .slice A0 l0.length c0)]) (I := fun x => Below w.heap.size w x ∧ Below w3.heap.size w3 x ∧ Below w18.heap.size w18 x) (ps := [IsV (.agg #[.int .i64 0, .int .i64 0, .int .i64 0, .int .i64 0, .int .u64 0, .int .i64 0, .int .i64 0, .int .i64 0, .int .i64 0, .int .u64 0, .int .i64 0, .int .i64 0, .int .i64 0, .int .i64 0, .int .i64 0, .int .i64 0, .int .i64 0, .int .u64 0, .int .i64 0, .int .i64 0, .int .i64 0, .int .i64 0, .int .i64 0])]) (by kernel_rfl) ?_ ?_ rfl hS ⟨hBw18_w, hBw18_w3, hBw18_w18⟩ ?_ ?_
              · exact fun x y hI hb => ⟨below_step hI.1 hb, below_step hI.2.1 hb, below_step hI.2.2 hb⟩
              · exact AllStay.cons (Stays.v _) (AllStay.nil)
              · refine Steps.cons (fun a w hS hI hp => ok_on rfl (does_val (x_build (vs := []) rfl (by rw [Array.toList_map]; exact (show [] = _ from rfl)) (by kernel_rfl)) rfl)) ?_
                exact Steps.nil
              clear hS
              intro at20 w21 hS hI hp
              have hBw21_w := hI.1
              have hBw21_w3 := hI.2.1
              have hBw21_w18 := hI.2.2
              have hv36 : sl _ 36 = .agg #[.int .i64 0, .int .i64 0, .int .i64 0, .int .i64 0, .int .u64 0, .int .i64 0, .int .i64 0, .int .i64 0, .int .i64 0, .int .u64 0, .int .i64 0, .int .i64 0, .int .i64 0, .int .i64 0, .int .i64 0, .int .i64 0, .int .i64 0, .int .u64 0, .int .i64 0, .int .i64 0, .int .i64 0, .int .i64 0, .int .i64 0] := hp 0 (by decide)
              have hBw21_w21 := Below.refl w21.heap.size w21
              have hS := hS.cons hv36
              clear hp hI hv36
              show wpList _ _ _ [_, _, _] _ _
              refine list_step rfl (does_storeAll (g := g4) (cs := #[.int .i64 0, .int .i64 0, .int .i64 0, .int .i64 0, .int .u64 0, .int .i64 0, .int .i64 0, .int .i64 0, .int .i64 0, .int .u64 0, .int .i64 0, .int .i64 0, .int .i64 0, .int .i64 0, .int .i64 0, .int .i64 0, .int .i64 0, .int .u64 0, .int .i64 0, .int .i64 0, .int .i64 0, .int .i64 0, .int .i64 0]) rfl (hS.get 6 rfl) (hS.get 0 rfl) ((hBw21_w3.block g4 (blk_lt hbxg4)).trans hbxg4) (by kernel_rfl) (by kernel_rfl) (by kernel_rfl)) ?_
              rintro vw22 w22 ⟨rfl, hbxw22, hT⟩
              have hBw22_w := hT.below hBw21_w hgeg4 (hBw21_w).size
              have hBw22_w22 := Below.refl w22.heap.size w22
              clear hT
              refine list_step rfl (R := fun v w' => Below _ _ w' ∧ (IsV (.int .i64 0)) v w') (does_val (x_assign rfl (rfl)) rfl) ?_
              rintro vw23 w23 ⟨hb, he⟩
              have hBw23_w := below_step hBw22_w hb
              have hBw23_w22 := below_step hBw22_w22 hb
              have hBw23_w23 := Below.refl w23.heap.size w23
              obtain rfl : vw23 = .int .i64 0 := he
              replace hS := (((((((hS.nil).cons (hS.get 7 rfl)).cons (hS.get 6 rfl)).cons (hS.get 4 rfl)).cons (hS.get 3 rfl)).cons (hS.get 2 rfl)).cons (hS.get 1 rfl)).cons (hS.get 0 rfl)
              refine hS.next (v := .int .i64 0) (d := 3) rfl (by decide) (by rfl) ?_
              clear hS
              intro at24 hS
              refine list_step rfl (R := fun v w' => Below _ _ w' ∧ (IsV (.int .i64 4)) v w') (does_val (x_assign rfl (rfl)) rfl) ?_
              rintro vw25 w25 ⟨hb, he⟩
              have hBw25_w := below_step hBw23_w hb
              have hBw25_w22 := below_step hBw23_w22 hb
              have hBw25_w23 := below_step hBw23_w23 hb
              have hBw25_w25 := Below.refl w25.heap.size w25
              obtain rfl : vw25 = .int .i64 4 := he
              replace hS := (((((((hS.nil).cons (hS.get 7 rfl)).cons (hS.get 6 rfl)).cons (hS.get 4 rfl)).cons (hS.get 3 rfl)).cons (hS.get 2 rfl)).cons (hS.get 1 rfl)).cons (hS.get 0 rfl)
              refine hS.next (v := .int .i64 4) (d := 4) rfl (by decide) (by rfl) ?_
              clear hS
              intro at26 hS
              refine wpList_nil ?_
              refine hK19 _ _ ?_
              clear hK19 K19
              refine wp_ret ?_
              (try simp only [Exit.then, Exit.inBlock])
              exact bodyPost_ret (v := .tuple #[.agg #[.int .i64 0, .int .i64 0, .int .i64 0, .int .i64 0, .int .u64 0, .int .i64 0, .int .i64 0, .int .i64 0, .int .i64 0, .int .u64 0, .int .i64 0, .int .i64 0, .int .i64 0, .int .i64 0, .int .i64 0, .int .i64 0, .int .i64 0, .int .u64 0, .int .i64 0, .int .i64 0, .int .i64 0, .int .i64 0, .int .i64 0], .int .i64 0, .int .i64 4]) (results_list (rs := [.cell 2 28, .tmp 3, .tmp 4]) rfl (by simp) (Vals.cell g4 28 #[.int .i64 0, .int .i64 0, .int .i64 0, .int .i64 0, .int .u64 0, .int .i64 0, .int .i64 0, .int .i64 0, .int .i64 0, .int .u64 0, .int .i64 0, .int .i64 0, .int .i64 0, .int .i64 0, .int .i64 0, .int .i64 0, .int .i64 0, .int .u64 0, .int .i64 0, .int .i64 0, .int .i64 0, .int .i64 0, .int .i64 0] (0, 0) _ (hS.get 6 rfl) ((hBw25_w22.block g4 (blk_lt hbxw22)).trans hbxw22) Try.underlying28 rfl (by kernel_rfl) (Vals.at (hS.get 1 rfl) (Vals.at (hS.get 0 rfl) .nil)))) hS.nodef ⟨rfl, hBw25_w⟩
          · rw [if_neg c5] at H
            simp only [Option.some.injEq, Prod.mk.injEq] at H
            obtain ⟨rfl, rfl, rfl, rfl, rfl, rfl, rfl, rfl, rfl, rfl, rfl, rfl, rfl, rfl, rfl, rfl, rfl, rfl, rfl, rfl, rfl, rfl, rfl, rfl, rfl⟩ := H
            refine calls_of_wp (fn := Try.f17) (by kernel_rfl) rfl ?_
            have hS := St.enter #[.slice A0 l0.length c0] 90 (by simp) [(0, .slice A0 l0.length c0)] (by simp)
            have HB0 := Below.refl w.heap.size w
            refine wp_seq_k (fun K1 hK1 => ?_)
            refine reg_seq (N := 90) (bs := [(0, .slice A0 l0.length c0)]) (I := fun x => Below w.heap.size w x) (ps := [IsB #[.int .i64 0, .int .i64 0, .int .i64 0, .int .i64 0, .int .u64 0, .int .i64 0, .int .i64 0, .int .i64 0, .int .i64 0, .int .u64 0, .int .i64 0, .int .i64 0, .int .i64 0, .int .i64 0, .int .i64 0, .int .i64 0, .int .i64 0, .int .u64 0, .int .i64 0, .int .i64 0, .int .i64 0, .int .i64 0, .int .i64 0] 28 w.heap.size, IsV (.int .i64 0), IsV (.int .i64 0)]) (by kernel_rfl) ?_ ?_ rfl hS HB0 ?_ ?_
            · exact fun x y hI hb => below_step hI hb
            · exact AllStay.cons (Stays.b _ _ _) (AllStay.cons (Stays.v _) (AllStay.cons (Stays.v _) (AllStay.nil)))
            · refine Steps.cons (fun a w hS hI hp => ok_on rfl (does_var (x_alloc rfl (by kernel_rfl)) (hI).size)) ?_
              refine Steps.cons (fun a w hS hI hp => ok_on rfl (does_val (x_assign rfl (rfl)) rfl)) ?_
              refine Steps.cons (fun a w hS hI hp => ok_on rfl (does_val (x_assign rfl (rfl)) rfl)) ?_
              exact Steps.nil
            clear hS
            intro at2 w3 hS hI hp
            have hBw3_w := hI
            obtain ⟨g4, hv2, hgeg4, hbxg4⟩ := (show IsB _ 28 _ (sl _ 2) _ from hp 0 (by decide))
            have hv3 : sl _ 3 = .int .i64 0 := hp 1 (by decide)
            have hv4 : sl _ 4 = .int .i64 0 := hp 2 (by decide)
            have hBw3_w3 := Below.refl w3.heap.size w3
            have hS := hS.cons hv2
            have hS := hS.cons hv3
            have hS := hS.cons hv4
            clear hp hI hv2 hv3 hv4
            refine hK1 _ _ ?_
            clear hK1 K1
            refine wp_seq_k (fun K5 hK5 => ?_)
            refine wp_seq_k (fun K6 hK6 => ?_)
            refine reg_seq (N := 90) (bs := [(4, .int .i64 0), (3, .int .i64 0), (2, .pointer (some ⟨g4, 0, none⟩)), (0, .slice A0 l0.length c0)]) (I := fun x => Below w.heap.size w x ∧ Below w3.heap.size w3 x) (ps := [IsV (.slice A0 l0.length c0), IsV (.int .i64 (l0.length : Int)), IsV (.bool (decide ((l0.length : Int) < 34)))]) (by kernel_rfl) ?_ ?_ rfl hS ⟨hBw3_w, hBw3_w3⟩ ?_ ?_
            · exact fun x y hI hb => ⟨below_step hI.1 hb, below_step hI.2 hb⟩
            · exact AllStay.cons (Stays.v _) (AllStay.cons (Stays.v _) (AllStay.cons (Stays.v _) (AllStay.nil)))
            · refine Steps.cons (fun a w hS hI hp => ok_on rfl (does_val (x_move rfl (hS.get 3 rfl)) rfl)) ?_
              refine Steps.cons (fun a w hS hI hp => ok_on rfl (does_val (x_len (e := 5) rfl (by kernel_rfl) ((hp.get 0 (by rfl) rfl rfl))) rfl)) ?_
              refine Steps.cons (fun a w hS hI hp => ok_on rfl (does_val (x_bin rfl ((hp.get 1 (by rfl) rfl rfl)) (rfl) (b_lss _ _ _ _ _ _)) rfl)) ?_
              exact Steps.nil
            clear hS
            intro at7 w8 hS hI hp
            have hBw8_w := hI.1
            have hBw8_w3 := hI.2
            have hv10 : sl _ 10 = .bool (decide ((l0.length : Int) < 34)) := hp 2 (by decide)
            have hBw8_w8 := Below.refl w8.heap.size w8
            have hS := hS.cons hv10
            clear hp hI hv10
            refine hK6 _ _ ?_
            clear hK6 K6
            refine wp_cond_false ((hS.get 0 rfl).trans (bF (decide_eq_false c1))) ?_
            refine wp_skip ?_
            refine hK5 _ _ ?_
            clear hK5 K5
            refine wp_seq_k (fun K9 hK9 => ?_)
            refine reg_seq (N := 90) (bs := [(10, .bool (decide ((l0.length : Int) < 34))), (4, .int .i64 0), (3, .int .i64 0), (2, .pointer (some ⟨g4, 0, none⟩)), (0, .slice A0 l0.length c0)]) (I := fun x => Below w.heap.size w x ∧ Below w3.heap.size w3 x ∧ Below w8.heap.size w8 x) (ps := [IsV (.slice A0 l0.length c0), IsV (.tuple #[.int .i64 t10_1, .bool t10_2]), IsV (.tuple #[.int .i64 t10_1, .bool t10_2]), IsV (.int .i64 t10_1), IsV (.bool t10_2), IsV (.int .i64 t10_1), IsV (.bool t10_2)]) (by kernel_rfl) ?_ ?_ rfl hS ⟨hBw8_w, hBw8_w3, hBw8_w8⟩ ?_ ?_
            · exact fun x y hI hb => ⟨below_step hI.1 hb, below_step hI.2.1 hb, below_step hI.2.2 hb⟩
            · exact AllStay.cons (Stays.v _) (AllStay.cons (Stays.v _) (AllStay.cons (Stays.v _) (AllStay.cons (Stays.v _) (AllStay.cons (Stays.v _) (AllStay.cons (Stays.v _) (AllStay.cons (Stays.v _) (AllStay.nil)))))))
            · refine Steps.cons (fun a w hS hI hp => ok_on rfl (does_val (x_move rfl (hS.get 4 rfl)) rfl)) ?_
              refine Steps.cons (fun a w hS hI hp => ok_on rfl (does_call (by kernel_rfl) (ar3 ((hp.get 0 (by rfl) rfl rfl)) (rfl) (rfl)) ((octets_Get.calls k _ _ l0 2 2 t10_1 t10_2 _ (Kd.C_below HR0 hI.1) HC0 At10).mono fun _ _ h => ⟨_, h.1, h.2.below, rfl⟩))) ?_
              refine Steps.cons (fun a w hS hI hp => ok_on rfl (does_val (x_move rfl ((hp.get 1 (by rfl) rfl rfl))) rfl)) ?_
              refine Steps.cons (fun a w hS hI hp => ok_on rfl (does_val (x_extract rfl ((hp.get 2 (by rfl) rfl rfl)) rfl) rfl)) ?_
              refine Steps.cons (fun a w hS hI hp => ok_on rfl (does_val (x_extract rfl ((hp.get 2 (by rfl) rfl rfl)) rfl) rfl)) ?_
              refine Steps.cons (fun a w hS hI hp => ok_on rfl (does_val (x_assign rfl ((hp.get 3 (by rfl) rfl rfl))) rfl)) ?_
              refine Steps.cons (fun a w hS hI hp => ok_on rfl (does_val (x_assign rfl ((hp.get 4 (by rfl) rfl rfl))) rfl)) ?_
              exact Steps.nil
            clear hS
            intro at11 w12 hS hI hp
            have hBw12_w := hI.1
            have hBw12_w3 := hI.2.1
            have hBw12_w8 := hI.2.2
            have hv5 : sl _ 5 = .int .i64 t10_1 := hp 5 (by decide)
            have hBw12_w12 := Below.refl w12.heap.size w12
            have hS := hS.cons hv5
            clear hp hI hv5
            refine hK9 _ _ ?_
            clear hK9 K9
            refine wp_seq_k (fun K13 hK13 => ?_)
            refine wp_block ?_
            refine wp_seq_k (fun K14 hK14 => ?_)
            refine reg_seq (N := 90) (bs := [(5, .int .i64 t10_1), (10, .bool (decide ((l0.length : Int) < 34))), (4, .int .i64 0), (3, .int .i64 0), (2, .pointer (some ⟨g4, 0, none⟩)), (0, .slice A0 l0.length c0)]) (I := fun x => Below w.heap.size w x ∧ Below w3.heap.size w3 x ∧ Below w12.heap.size w12 x) (ps := [IsV (.slice A0 l0.length c0), IsA (.int .u8 (rd l0 0)), IsV (.int .u8 (rd l0 0)), IsV (.int .i64 (wrap64 (rd l0 0))), IsV (.bool t15), IsV (.bool (!t15)), IsV (.bool (!t15)), IsV (.slice A0 l0.length c0), IsA (.int .u8 (rd l0 1)), IsV (.int .u8 (rd l0 1)), IsV (.int .u8 (Go.bits .and .u8 (rd l0 1) 15)), IsV (.bool (!decide ((Go.bits .and .u8 (rd l0 1) 15) = 2))), IsV (.bool (!decide ((Go.bits .and .u8 (rd l0 1) 15) = 2))), IsV (.bool (!decide ((Go.bits .and .u8 (rd l0 1) 15) = 2))), IsV undef, IsV undef, IsV undef, IsV (.bool true), IsV (.bool true)]) (by kernel_rfl) ?_ ?_ rfl hS ⟨hBw12_w, hBw12_w3, hBw12_w12⟩ ?_ ?_
            · exact fun x y hI hb => ⟨below_step hI.1 hb, below_step hI.2.1 hb, below_step hI.2.2 hb⟩
            · exact AllStay.cons (Stays.v _) (AllStay.cons (Stays.a _) (AllStay.cons (Stays.v _) (AllStay.cons (Stays.v _) (AllStay.cons (Stays.v _) (AllStay.cons (Stays.v _) (AllStay.cons (Stays.v _) (AllStay.cons (Stays.v _) (AllStay.cons (Stays.a _) (AllStay.cons (Stays.v _) (AllStay.cons (Stays.v _) (AllStay.cons (Stays.v _) (AllStay.cons (Stays.v _) (AllStay.cons (Stays.v _) (AllStay.cons (Stays.v _) (AllStay.cons (Stays.v _) (AllStay.cons (Stays.v _) (AllStay.cons (Stays.v _) (AllStay.cons (Stays.v _) (AllStay.nil)))))))))))))))))))
            · refine Steps.cons (fun a w hS hI hp => ok_on rfl (does_val (x_move rfl (hS.get 5 rfl)) rfl)) ?_
              refine Steps.cons (fun a w hS hI hp => ok_on rfl (does_index (e := 5) (xs := l0) rfl ((hp.get 0 (by rfl) rfl rfl)) (rfl) (by kernel_rfl) (by kernel_rfl) (by decide) c2 c2 ((Kd.C_below HR0 hI.1)))) ?_
              refine Steps.cons (fun a w hS hI hp => ok_on rfl (((hp.get 1 (by rfl) rfl rfl)).elim fun _ h_ => does_val (x_load1 (d := .int .u8) rfl h_.1 (by kernel_rfl) rfl h_.2.2) rfl)) ?_
              refine Steps.cons (fun a w hS hI hp => ok_on rfl (does_val ((i64_w (rd l0 0)) ▸ x_convI rfl (by kernel_rfl) (by kernel_rfl) ((hp.get 2 (by rfl) rfl rfl))) rfl)) ?_
              refine Steps.cons (fun a w hS hI hp => ok_on rfl (does_call (by kernel_rfl) (ar1 ((hp.get 3 (by rfl) rfl rfl))) ((header_Known.calls k (wrap64 (rd l0 0)) t15 _  At15).mono fun _ _ h => ⟨_, h.1, h.2.below, rfl⟩))) ?_
              refine Steps.cons (fun a w hS hI hp => ok_on rfl (does_val (x_not rfl ((hp.get 4 (by rfl) rfl rfl))) rfl)) ?_
              refine Steps.cons (fun a w hS hI hp => ok_on rfl (does_val (x_move rfl ((hp.get 5 (by rfl) rfl rfl))) rfl)) ?_
              refine Steps.cons (fun a w hS hI hp => ok_if (d := 24) rfl rfl (by rw [hS.size]; decide) (((hp.get 6 (by rfl) rfl rfl)).trans (bF (congrArg (!·) c3))) (does_val (x_move rfl (hS.get 5 rfl)) rfl)) ?_
              refine Steps.cons (fun a w hS hI hp => ok_if (d := 24) rfl rfl (by rw [hS.size]; decide) (((hp.get 6 (by rfl) rfl rfl)).trans (bF (congrArg (!·) c3))) (does_index (e := 5) (xs := l0) rfl ((hp.get 7 (by rfl) rfl rfl)) (rfl) (by kernel_rfl) (by kernel_rfl) (by decide) c4 c4 ((Kd.C_below HR0 hI.1)))) ?_
              refine Steps.cons (fun a w hS hI hp => ok_if (d := 24) rfl rfl (by rw [hS.size]; decide) (((hp.get 6 (by rfl) rfl rfl)).trans (bF (congrArg (!·) c3))) (((hp.get 8 (by rfl) rfl rfl)).elim fun _ h_ => does_val (x_load1 (d := .int .u8) rfl h_.1 (by kernel_rfl) rfl h_.2.2) rfl)) ?_
              refine Steps.cons (fun a w hS hI hp => ok_if (d := 24) rfl rfl (by rw [hS.size]; decide) (((hp.get 6 (by rfl) rfl rfl)).trans (bF (congrArg (!·) c3))) (does_val (x_bin rfl ((hp.get 9 (by rfl) rfl rfl)) (rfl) (b_and _ _ _ _ _ _)) rfl)) ?_
              refine Steps.cons (fun a w hS hI hp => ok_if (d := 24) rfl rfl (by rw [hS.size]; decide) (((hp.get 6 (by rfl) rfl rfl)).trans (bF (congrArg (!·) c3))) (does_val (x_bin rfl ((hp.get 10 (by rfl) rfl rfl)) (rfl) (b_neq _ _ _ _ _ _)) rfl)) ?_
              refine Steps.cons (fun a w hS hI hp => ok_on rfl (does_val (x_pickF rfl (((hp.get 6 (by rfl) rfl rfl)).trans (bF (congrArg (!·) c3))) ((hp.get 11 (by rfl) rfl rfl))) rfl)) ?_
              refine Steps.cons (fun a w hS hI hp => ok_on rfl (does_val (x_move rfl ((hp.get 12 (by rfl) rfl rfl))) rfl)) ?_
              refine Steps.cons (fun a w hS hI hp => ok_off (d := 31) rfl rfl (by rw [hS.size]; decide) (((hp.get 13 (by rfl) rfl rfl)).trans (bT (congrArg (!·) (decide_eq_false c5)))) rfl) ?_
              refine Steps.cons (fun a w hS hI hp => ok_off (d := 31) rfl rfl (by rw [hS.size]; decide) (((hp.get 13 (by rfl) rfl rfl)).trans (bT (congrArg (!·) (decide_eq_false c5)))) rfl) ?_
              refine Steps.cons (fun a w hS hI hp => ok_off (d := 31) rfl rfl (by rw [hS.size]; decide) (((hp.get 13 (by rfl) rfl rfl)).trans (bT (congrArg (!·) (decide_eq_false c5)))) rfl) ?_
              refine Steps.cons (fun a w hS hI hp => ok_on rfl (does_val (x_pickT rfl (((hp.get 13 (by rfl) rfl rfl)).trans (bT (congrArg (!·) (decide_eq_false c5)))) (rfl)) rfl)) ?_
              refine Steps.cons (fun a w hS hI hp => ok_on rfl (does_val (x_assign rfl ((hp.get 17 (by rfl) rfl rfl))) rfl)) ?_
              exact Steps.nil
            clear hS
            intro at16 w17 hS hI hp
            have hBw17_w := hI.1
            have hBw17_w3 := hI.2.1
            have hBw17_w12 := hI.2.2
            have hv17 : sl _ 17 = .bool true := hp 18 (by decide)
            have hBw17_w17 := Below.refl w17.heap.size w17
            have hS := hS.cons hv17
            clear hp hI hv17
            refine hK14 _ _ ?_
            clear hK14 K14
            refine wp_cond_true ((hS.get 0 rfl).trans (bT rfl)) ?_
            refine wp_seq_k (fun K18 hK18 => ?_)
            refine reg_seq_tail 1 (N := 90) (bs := [(17, .bool true), (5, .int .i64 t10_1), (10, .bool (decide ((l0.length : Int) < 34))), (4, .int .i64 0), (3, .int .i64 0), (2, .pointer (some ⟨g4, 0, none⟩)), (0, .slice A0 l0.length c0)]) (I := fun x => Below w.heap.size w x ∧ Below w3.heap.size w3 x ∧ Below w17.heap.size w17 x) (ps := [IsV (.agg #[.int .i64 0, .int .i64 0, .int .i64 0, .int .i64 0, .int .u64 0, .int .i64 0, .int .i64 0, .int .i64 0, .int .i64 0, .int .u64 0, .int .i64 0, .int .i64 0, .int .i64 0, .int .i64 0, .int .i64 0, .int .i64 0, .int .i64 0, .int .u64 0, .int .i64 0, .int .i64 0, .int .i64 0, .int .i64 0, .int .i64 0])]) (by kernel_rfl) ?_ ?_ rfl hS ⟨hBw17_w, hBw17_w3, hBw17_w17⟩ ?_ ?_
            · exact fun x y hI hb => ⟨below_step hI.1 hb, below_step hI.2.1 hb, below_step hI.2.2 hb⟩
            · exact AllStay.cons (Stays.v _) (AllStay.nil)
            · refine Steps.cons (fun a w hS hI hp => ok_on rfl (does_val (x_build (vs := []) rfl (by rw [Array.toList_map]; exact (show [] = _ from rfl)) (by kernel_rfl)) rfl)) ?_
              exact Steps.nil
            clear hS
            intro at19 w20 hS hI hp
            have hBw20_w := hI.1
            have hBw20_w3 := hI.2.1
            have hBw20_w17 := hI.2.2
            have hv36 : sl _ 36 = .agg #[.int .i64 0, .int .i64 0, .int .i64 0, .int .i64 0, .int .u64 0, .int .i64 0, .int .i64 0, .int .i64 0, .int .i64 0, .int .u64 0, .int .i64 0, .int .i64 0, .int .i64 0, .int .i64 0, .int .i64 0, .int .i64 0, .int .i64 0, .int .u64 0, .int .i64 0, .int .i64 0, .int .i64 0, .int .i64 0, .int .i64 0] := hp 0 (by decide)
            have hBw20_w20 := Below.refl w20.heap.size w20
            have hS := hS.cons hv36
            clear hp hI hv36
            show wpList _ _ _ [_, _, _] _ _
            refine list_step rfl (does_storeAll (g := g4) (cs := #[.int .i64 0, .int .i64 0, .int .i64 0, .int .i64 0, .int .u64 0, .int .i64 0, .int .i64 0, .int .i64 0, .int .i64 0, .int .u64 0, .int .i64 0, .int .i64 0, .int .i64 0, .int .i64 0, .int .i64 0, .int .i64 0, .int .i64 0, .int .u64 0, .int .i64 0, .int .i64 0, .int .i64 0, .int .i64 0, .int .i64 0]) rfl (hS.get 6 rfl) (hS.get 0 rfl) ((hBw20_w3.block g4 (blk_lt hbxg4)).trans hbxg4) (by kernel_rfl) (by kernel_rfl) (by kernel_rfl)) ?_
            rintro vw21 w21 ⟨rfl, hbxw21, hT⟩
            have hBw21_w := hT.below hBw20_w hgeg4 (hBw20_w).size
            have hBw21_w21 := Below.refl w21.heap.size w21
            clear hT
            refine list_step rfl (R := fun v w' => Below _ _ w' ∧ (IsV (.int .i64 0)) v w') (does_val (x_assign rfl (rfl)) rfl) ?_
            rintro vw22 w22 ⟨hb, he⟩
            have hBw22_w := below_step hBw21_w hb
            have hBw22_w21 := below_step hBw21_w21 hb
            have hBw22_w22 := Below.refl w22.heap.size w22
            obtain rfl : vw22 = .int .i64 0 := he
            replace hS := (((((((hS.nil).cons (hS.get 7 rfl)).cons (hS.get 6 rfl)).cons (hS.get 4 rfl)).cons (hS.get 3 rfl)).cons (hS.get 2 rfl)).cons (hS.get 1 rfl)).cons (hS.get 0 rfl)
            refine hS.next (v := .int .i64 0) (d := 3) rfl (by decide) (by rfl) ?_
            clear hS
            intro at23 hS
            refine list_step rfl (R := fun v w' => Below _ _ w' ∧ (IsV (.int .i64 4)) v w') (does_val (x_assign rfl (rfl)) rfl) ?_
            rintro vw24 w24 ⟨hb, he⟩
            have hBw24_w := below_step hBw22_w hb
            have hBw24_w21 := below_step hBw22_w21 hb
            have hBw24_w22 := below_step hBw22_w22 hb
            have hBw24_w24 := Below.refl w24.heap.size w24
            obtain rfl : vw24 = .int .i64 4 := he
            replace hS := (((((((hS.nil).cons (hS.get 7 rfl)).cons (hS.get 6 rfl)).cons (hS.get 4 rfl)).cons (hS.get 3 rfl)).cons (hS.get 2 rfl)).cons (hS.get 1 rfl)).cons (hS.get 0 rfl)
            refine hS.next (v := .int .i64 4) (d := 4) rfl (by decide) (by rfl) ?_
            clear hS
            intro at25 hS
            refine wpList_nil ?_
            refine hK18 _ _ ?_
            clear hK18 K18
            refine wp_ret ?_
            (try simp only [Exit.then, Exit.inBlock])
            exact bodyPost_ret (v := .tuple #[.agg #[.int .i64 0, .int .i64 0, .int .i64 0, .int .i64 0, .int .u64 0, .int .i64 0, .int .i64 0, .int .i64 0, .int .i64 0, .int .u64 0, .int .i64 0, .int .i64 0, .int .i64 0, .int .i64 0, .int .i64 0, .int .i64 0, .int .i64 0, .int .u64 0, .int .i64 0, .int .i64 0, .int .i64 0, .int .i64 0, .int .i64 0], .int .i64 0, .int .i64 4]) (results_list (rs := [.cell 2 28, .tmp 3, .tmp 4]) rfl (by simp) (Vals.cell g4 28 #[.int .i64 0, .int .i64 0, .int .i64 0, .int .i64 0, .int .u64 0, .int .i64 0, .int .i64 0, .int .i64 0, .int .i64 0, .int .u64 0, .int .i64 0, .int .i64 0, .int .i64 0, .int .i64 0, .int .i64 0, .int .i64 0, .int .i64 0, .int .u64 0, .int .i64 0, .int .i64 0, .int .i64 0, .int .i64 0, .int .i64 0] (0, 0) _ (hS.get 6 rfl) ((hBw24_w21.block g4 (blk_lt hbxw21)).trans hbxw21) Try.underlying28 rfl (by kernel_rfl) (Vals.at (hS.get 1 rfl) (Vals.at (hS.get 0 rfl) .nil)))) hS.nodef ⟨rfl, hBw24_w⟩
        · rw [if_neg c4] at H
          exact absurd H (by simp)
      · rw [if_neg c3] at H
        simp only [Option.some.injEq, Prod.mk.injEq] at H
        obtain ⟨rfl, rfl, rfl, rfl, rfl, rfl, rfl, rfl, rfl, rfl, rfl, rfl, rfl, rfl, rfl, rfl, rfl, rfl, rfl, rfl, rfl, rfl, rfl, rfl, rfl⟩ := H
        refine calls_of_wp (fn := Try.f17) (by kernel_rfl) rfl ?_
        have hS := St.enter #[.slice A0 l0.length c0] 90 (by simp) [(0, .slice A0 l0.length c0)] (by simp)
        have HB0 := Below.refl w.heap.size w
        refine wp_seq_k (fun K1 hK1 => ?_)
        refine reg_seq (N := 90) (bs := [(0, .slice A0 l0.length c0)]) (I := fun x => Below w.heap.size w x) (ps := [IsB #[.int .i64 0, .int .i64 0, .int .i64 0, .int .i64 0, .int .u64 0, .int .i64 0, .int .i64 0, .int .i64 0, .int .i64 0, .int .u64 0, .int .i64 0, .int .i64 0, .int .i64 0, .int .i64 0, .int .i64 0, .int .i64 0, .int .i64 0, .int .u64 0, .int .i64 0, .int .i64 0, .int .i64 0, .int .i64 0, .int .i64 0] 28 w.heap.size, IsV (.int .i64 0), IsV (.int .i64 0)]) (by kernel_rfl) ?_ ?_ rfl hS HB0 ?_ ?_
        · exact fun x y hI hb => below_step hI hb
        · exact AllStay.cons (Stays.b _ _ _) (AllStay.cons (Stays.v _) (AllStay.cons (Stays.v _) (AllStay.nil)))
        · refine Steps.cons (fun a w hS hI hp => ok_on rfl (does_var (x_alloc rfl (by kernel_rfl)) (hI).size)) ?_
          refine Steps.cons (fun a w hS hI hp => ok_on rfl (does_val (x_assign rfl (rfl)) rfl)) ?_
          refine Steps.cons (fun a w hS hI hp => ok_on rfl (does_val (x_assign rfl (rfl)) rfl)) ?_
          exact Steps.nil
        clear hS
        intro at2 w3 hS hI hp
        have hBw3_w := hI
        obtain ⟨g4, hv2, hgeg4, hbxg4⟩ := (show IsB _ 28 _ (sl _ 2) _ from hp 0 (by decide))
        have hv3 : sl _ 3 = .int .i64 0 := hp 1 (by decide)
        have hv4 : sl _ 4 = .int .i64 0 := hp 2 (by decide)
        have hBw3_w3 := Below.refl w3.heap.size w3
        have hS := hS.cons hv2
        have hS := hS.cons hv3
        have hS := hS.cons hv4
        clear hp hI hv2 hv3 hv4
        refine hK1 _ _ ?_
        clear hK1 K1
        refine wp_seq_k (fun K5 hK5 => ?_)
        refine wp_seq_k (fun K6 hK6 => ?_)
        refine reg_seq (N := 90) (bs := [(4, .int .i64 0), (3, .int .i64 0), (2, .pointer (some ⟨g4, 0, none⟩)), (0, .slice A0 l0.length c0)]) (I := fun x => Below w.heap.size w x ∧ Below w3.heap.size w3 x) (ps := [IsV (.slice A0 l0.length c0), IsV (.int .i64 (l0.length : Int)), IsV (.bool (decide ((l0.length : Int) < 34)))]) (by kernel_rfl) ?_ ?_ rfl hS ⟨hBw3_w, hBw3_w3⟩ ?_ ?_
        · exact fun x y hI hb => ⟨below_step hI.1 hb, below_step hI.2 hb⟩
        · exact AllStay.cons (Stays.v _) (AllStay.cons (Stays.v _) (AllStay.cons (Stays.v _) (AllStay.nil)))
        · refine Steps.cons (fun a w hS hI hp => ok_on rfl (does_val (x_move rfl (hS.get 3 rfl)) rfl)) ?_
          refine Steps.cons (fun a w hS hI hp => ok_on rfl (does_val (x_len (e := 5) rfl (by kernel_rfl) ((hp.get 0 (by rfl) rfl rfl))) rfl)) ?_
          refine Steps.cons (fun a w hS hI hp => ok_on rfl (does_val (x_bin rfl ((hp.get 1 (by rfl) rfl rfl)) (rfl) (b_lss _ _ _ _ _ _)) rfl)) ?_
          exact Steps.nil
        clear hS
        intro at7 w8 hS hI hp
        have hBw8_w := hI.1
        have hBw8_w3 := hI.2
        have hv10 : sl _ 10 = .bool (decide ((l0.length : Int) < 34)) := hp 2 (by decide)
        have hBw8_w8 := Below.refl w8.heap.size w8
        have hS := hS.cons hv10
        clear hp hI hv10
        refine hK6 _ _ ?_
        clear hK6 K6
        refine wp_cond_false ((hS.get 0 rfl).trans (bF (decide_eq_false c1))) ?_
        refine wp_skip ?_
        refine hK5 _ _ ?_
        clear hK5 K5
        refine wp_seq_k (fun K9 hK9 => ?_)
        refine reg_seq (N := 90) (bs := [(10, .bool (decide ((l0.length : Int) < 34))), (4, .int .i64 0), (3, .int .i64 0), (2, .pointer (some ⟨g4, 0, none⟩)), (0, .slice A0 l0.length c0)]) (I := fun x => Below w.heap.size w x ∧ Below w3.heap.size w3 x ∧ Below w8.heap.size w8 x) (ps := [IsV (.slice A0 l0.length c0), IsV (.tuple #[.int .i64 t10_1, .bool t10_2]), IsV (.tuple #[.int .i64 t10_1, .bool t10_2]), IsV (.int .i64 t10_1), IsV (.bool t10_2), IsV (.int .i64 t10_1), IsV (.bool t10_2)]) (by kernel_rfl) ?_ ?_ rfl hS ⟨hBw8_w, hBw8_w3, hBw8_w8⟩ ?_ ?_
        · exact fun x y hI hb => ⟨below_step hI.1 hb, below_step hI.2.1 hb, below_step hI.2.2 hb⟩
        · exact AllStay.cons (Stays.v _) (AllStay.cons (Stays.v _) (AllStay.cons (Stays.v _) (AllStay.cons (Stays.v _) (AllStay.cons (Stays.v _) (AllStay.cons (Stays.v _) (AllStay.cons (Stays.v _) (AllStay.nil)))))))
        · refine Steps.cons (fun a w hS hI hp => ok_on rfl (does_val (x_move rfl (hS.get 4 rfl)) rfl)) ?_
          refine Steps.cons (fun a w hS hI hp => ok_on rfl (does_call (by kernel_rfl) (ar3 ((hp.get 0 (by rfl) rfl rfl)) (rfl) (rfl)) ((octets_Get.calls k _ _ l0 2 2 t10_1 t10_2 _ (Kd.C_below HR0 hI.1) HC0 At10).mono fun _ _ h => ⟨_, h.1, h.2.below, rfl⟩))) ?_
          refine Steps.cons (fun a w hS hI hp => ok_on rfl (does_val (x_move rfl ((hp.get 1 (by rfl) rfl rfl))) rfl)) ?_
          refine Steps.cons (fun a w hS hI hp => ok_on rfl (does_val (x_extract rfl ((hp.get 2 (by rfl) rfl rfl)) rfl) rfl)) ?_
          refine Steps.cons (fun a w hS hI hp => ok_on rfl (does_val (x_extract rfl ((hp.get 2 (by rfl) rfl rfl)) rfl) rfl)) ?_
          refine Steps.cons (fun a w hS hI hp => ok_on rfl (does_val (x_assign rfl ((hp.get 3 (by rfl) rfl rfl))) rfl)) ?_
          refine Steps.cons (fun a w hS hI hp => ok_on rfl (does_val (x_assign rfl ((hp.get 4 (by rfl) rfl rfl))) rfl)) ?_
          exact Steps.nil
        clear hS
        intro at11 w12 hS hI hp
        have hBw12_w := hI.1
        have hBw12_w3 := hI.2.1
        have hBw12_w8 := hI.2.2
        have hv5 : sl _ 5 = .int .i64 t10_1 := hp 5 (by decide)
        have hBw12_w12 := Below.refl w12.heap.size w12
        have hS := hS.cons hv5
        clear hp hI hv5
        refine hK9 _ _ ?_
        clear hK9 K9
        refine wp_seq_k (fun K13 hK13 => ?_)
        refine wp_block ?_
        refine wp_seq_k (fun K14 hK14 => ?_)
        refine reg_seq (N := 90) (bs := [(5, .int .i64 t10_1), (10, .bool (decide ((l0.length : Int) < 34))), (4, .int .i64 0), (3, .int .i64 0), (2, .pointer (some ⟨g4, 0, none⟩)), (0, .slice A0 l0.length c0)]) (I := fun x => Below w.heap.size w x ∧ Below w3.heap.size w3 x ∧ Below w12.heap.size w12 x) (ps := [IsV (.slice A0 l0.length c0), IsA (.int .u8 (rd l0 0)), IsV (.int .u8 (rd l0 0)), IsV (.int .i64 (wrap64 (rd l0 0))), IsV (.bool t15), IsV (.bool (!t15)), IsV (.bool (!t15)), IsV undef, IsV undef, IsV undef, IsV undef, IsV undef, IsV (.bool true), IsV (.bool true), IsV undef, IsV undef, IsV undef, IsV (.bool true), IsV (.bool true)]) (by kernel_rfl) ?_ ?_ rfl hS ⟨hBw12_w, hBw12_w3, hBw12_w12⟩ ?_ ?_
        · exact fun x y hI hb => ⟨below_step hI.1 hb, below_step hI.2.1 hb, below_step hI.2.2 hb⟩
        · exact AllStay.cons (Stays.v _) (AllStay.cons (Stays.a _) (AllStay.cons (Stays.v _) (AllStay.cons (Stays.v _) (AllStay.cons (Stays.v _) (AllStay.cons (Stays.v _) (AllStay.cons (Stays.v _) (AllStay.cons (Stays.v _) (AllStay.cons (Stays.v _) (AllStay.cons (Stays.v _) (AllStay.cons (Stays.v _) (AllStay.cons (Stays.v _) (AllStay.cons (Stays.v _) (AllStay.cons (Stays.v _) (AllStay.cons (Stays.v _) (AllStay.cons (Stays.v _) (AllStay.cons (Stays.v _) (AllStay.cons (Stays.v _) (AllStay.cons (Stays.v _) (AllStay.nil)))))))))))))))))))
        · refine Steps.cons (fun a w hS hI hp => ok_on rfl (does_val (x_move rfl (hS.get 5 rfl)) rfl)) ?_
          refine Steps.cons (fun a w hS hI hp => ok_on rfl (does_index (e := 5) (xs := l0) rfl ((hp.get 0 (by rfl) rfl rfl)) (rfl) (by kernel_rfl) (by kernel_rfl) (by decide) c2 c2 ((Kd.C_below HR0 hI.1)))) ?_
          refine Steps.cons (fun a w hS hI hp => ok_on rfl (((hp.get 1 (by rfl) rfl rfl)).elim fun _ h_ => does_val (x_load1 (d := .int .u8) rfl h_.1 (by kernel_rfl) rfl h_.2.2) rfl)) ?_
          refine Steps.cons (fun a w hS hI hp => ok_on rfl (does_val ((i64_w (rd l0 0)) ▸ x_convI rfl (by kernel_rfl) (by kernel_rfl) ((hp.get 2 (by rfl) rfl rfl))) rfl)) ?_
          refine Steps.cons (fun a w hS hI hp => ok_on rfl (does_call (by kernel_rfl) (ar1 ((hp.get 3 (by rfl) rfl rfl))) ((header_Known.calls k (wrap64 (rd l0 0)) t15 _  At15).mono fun _ _ h => ⟨_, h.1, h.2.below, rfl⟩))) ?_
          refine Steps.cons (fun a w hS hI hp => ok_on rfl (does_val (x_not rfl ((hp.get 4 (by rfl) rfl rfl))) rfl)) ?_
          refine Steps.cons (fun a w hS hI hp => ok_on rfl (does_val (x_move rfl ((hp.get 5 (by rfl) rfl rfl))) rfl)) ?_
          refine Steps.cons (fun a w hS hI hp => ok_off (d := 24) rfl rfl (by rw [hS.size]; decide) (((hp.get 6 (by rfl) rfl rfl)).trans (bT (congrArg (!·) (Bool.eq_false_iff.2 c3)))) rfl) ?_
          refine Steps.cons (fun a w hS hI hp => ok_off (d := 24) rfl rfl (by rw [hS.size]; decide) (((hp.get 6 (by rfl) rfl rfl)).trans (bT (congrArg (!·) (Bool.eq_false_iff.2 c3)))) rfl) ?_
          refine Steps.cons (fun a w hS hI hp => ok_off (d := 24) rfl rfl (by rw [hS.size]; decide) (((hp.get 6 (by rfl) rfl rfl)).trans (bT (congrArg (!·) (Bool.eq_false_iff.2 c3)))) rfl) ?_
          refine Steps.cons (fun a w hS hI hp => ok_off (d := 24) rfl rfl (by rw [hS.size]; decide) (((hp.get 6 (by rfl) rfl rfl)).trans (bT (congrArg (!·) (Bool.eq_false_iff.2 c3)))) rfl) ?_
          refine Steps.cons (fun a w hS hI hp => ok_off (d := 24) rfl rfl (by rw [hS.size]; decide) (((hp.get 6 (by rfl) rfl rfl)).trans (bT (congrArg (!·) (Bool.eq_false_iff.2 c3)))) rfl) ?_
          refine Steps.cons (fun a w hS hI hp => ok_on rfl (does_val (x_pickT rfl (((hp.get 6 (by rfl) rfl rfl)).trans (bT (congrArg (!·) (Bool.eq_false_iff.2 c3)))) (rfl)) rfl)) ?_
          refine Steps.cons (fun a w hS hI hp => ok_on rfl (does_val (x_move rfl ((hp.get 12 (by rfl) rfl rfl))) rfl)) ?_
          refine Steps.cons (fun a w hS hI hp => ok_off (d := 31) rfl rfl (by rw [hS.size]; decide) (((hp.get 13 (by rfl) rfl rfl)).trans (bT rfl)) rfl) ?_
          refine Steps.cons (fun a w hS hI hp => ok_off (d := 31) rfl rfl (by rw [hS.size]; decide) (((hp.get 13 (by rfl) rfl rfl)).trans (bT rfl)) rfl) ?_
          refine Steps.cons (fun a w hS hI hp => ok_off (d := 31) rfl rfl (by rw [hS.size]; decide) (((hp.get 13 (by rfl) rfl rfl)).trans (bT rfl)) rfl) ?_
          refine Steps.cons (fun a w hS hI hp => ok_on rfl (does_val (x_pickT rfl (((hp.get 13 (by rfl) rfl rfl)).trans (bT rfl)) (rfl)) rfl)) ?_
          refine Steps.cons (fun a w hS hI hp => ok_on rfl (does_val (x_assign rfl ((hp.get 17 (by rfl) rfl rfl))) rfl)) ?_
          exact Steps.nil
        clear hS
        intro at16 w17 hS hI hp
        have hBw17_w := hI.1
        have hBw17_w3 := hI.2.1
        have hBw17_w12 := hI.2.2
        have hv17 : sl _ 17 = .bool true := hp 18 (by decide)
        have hBw17_w17 := Below.refl w17.heap.size w17
        have hS := hS.cons hv17
        clear hp hI hv17
        refine hK14 _ _ ?_
        clear hK14 K14
        refine wp_cond_true ((hS.get 0 rfl).trans (bT rfl)) ?_
        refine wp_seq_k (fun K18 hK18 => ?_)
        refine reg_seq_tail 1 (N := 90) (bs := [(17, .bool true), (5, .int .i64 t10_1), (10, .bool (decide ((l0.length : Int) < 34))), (4, .int .i64 0), (3, .int .i64 0), (2, .pointer (some ⟨g4, 0, none⟩)), (0, .slice A0 l0.length c0)]) (I := fun x => Below w.heap.size w x ∧ Below w3.heap.size w3 x ∧ Below w17.heap.size w17 x) (ps := [IsV (.agg #[.int .i64 0, .int .i64 0, .int .i64 0, .int .i64 0, .int .u64 0, .int .i64 0, .int .i64 0, .int .i64 0, .int .i64 0, .int .u64 0, .int .i64 0, .int .i64 0, .int .i64 0, .int .i64 0, .int .i64 0, .int .i64 0, .int .i64 0, .int .u64 0, .int .i64 0, .int .i64 0, .int .i64 0, .int .i64 0, .int .i64 0])]) (by kernel_rfl) ?_ ?_ rfl hS ⟨hBw17_w, hBw17_w3, hBw17_w17⟩ ?_ ?_
        · exact fun x y hI hb => ⟨below_step hI.1 hb, below_step hI.2.1 hb, below_step hI.2.2 hb⟩
        · exact AllStay.cons (Stays.v _) (AllStay.nil)
        · refine Steps.cons (fun a w hS hI hp => ok_on rfl (does_val (x_build (vs := []) rfl (by rw [Array.toList_map]; exact (show [] = _ from rfl)) (by kernel_rfl)) rfl)) ?_
          exact Steps.nil
        clear hS
        intro at19 w20 hS hI hp
        have hBw20_w := hI.1
        have hBw20_w3 := hI.2.1
        have hBw20_w17 := hI.2.2
        have hv36 : sl _ 36 = .agg #[.int .i64 0, .int .i64 0, .int .i64 0, .int .i64 0, .int .u64 0, .int .i64 0, .int .i64 0, .int .i64 0, .int .i64 0, .int .u64 0, .int .i64 0, .int .i64 0, .int .i64 0, .int .i64 0, .int .i64 0, .int .i64 0, .int .i64 0, .int .u64 0, .int .i64 0, .int .i64 0, .int .i64 0, .int .i64 0, .int .i64 0] := hp 0 (by decide)
        have hBw20_w20 := Below.refl w20.heap.size w20
        have hS := hS.cons hv36
        clear hp hI hv36
        show wpList _ _ _ [_, _, _] _ _
        refine list_step rfl (does_storeAll (g := g4) (cs := #[.int .i64 0, .int .i64 0, .int .i64 0, .int .i64 0, .int .u64 0, .int .i64 0, .int .i64 0, .int .i64 0, .int .i64 0, .int .u64 0, .int .i64 0, .int .i64 0, .int .i64 0, .int .i64 0, .int .i64 0, .int .i64 0, .int .i64 0, .int .u64 0, .int .i64 0, .int .i64 0, .int .i64 0, .int .i64 0, .int .i64 0]) rfl (hS.get 6 rfl) (hS.get 0 rfl) ((hBw20_w3.block g4 (blk_lt hbxg4)).trans hbxg4) (by kernel_rfl) (by kernel_rfl) (by kernel_rfl)) ?_
        rintro vw21 w21 ⟨rfl, hbxw21, hT⟩
        have hBw21_w := hT.below hBw20_w hgeg4 (hBw20_w).size
        have hBw21_w21 := Below.refl w21.heap.size w21
        clear hT
        refine list_step rfl (R := fun v w' => Below _ _ w' ∧ (IsV (.int .i64 0)) v w') (does_val (x_assign rfl (rfl)) rfl) ?_
        rintro vw22 w22 ⟨hb, he⟩
        have hBw22_w := below_step hBw21_w hb
        have hBw22_w21 := below_step hBw21_w21 hb
        have hBw22_w22 := Below.refl w22.heap.size w22
        obtain rfl : vw22 = .int .i64 0 := he
        replace hS := (((((((hS.nil).cons (hS.get 7 rfl)).cons (hS.get 6 rfl)).cons (hS.get 4 rfl)).cons (hS.get 3 rfl)).cons (hS.get 2 rfl)).cons (hS.get 1 rfl)).cons (hS.get 0 rfl)
        refine hS.next (v := .int .i64 0) (d := 3) rfl (by decide) (by rfl) ?_
        clear hS
        intro at23 hS
        refine list_step rfl (R := fun v w' => Below _ _ w' ∧ (IsV (.int .i64 4)) v w') (does_val (x_assign rfl (rfl)) rfl) ?_
        rintro vw24 w24 ⟨hb, he⟩
        have hBw24_w := below_step hBw22_w hb
        have hBw24_w21 := below_step hBw22_w21 hb
        have hBw24_w22 := below_step hBw22_w22 hb
        have hBw24_w24 := Below.refl w24.heap.size w24
        obtain rfl : vw24 = .int .i64 4 := he
        replace hS := (((((((hS.nil).cons (hS.get 7 rfl)).cons (hS.get 6 rfl)).cons (hS.get 4 rfl)).cons (hS.get 3 rfl)).cons (hS.get 2 rfl)).cons (hS.get 1 rfl)).cons (hS.get 0 rfl)
        refine hS.next (v := .int .i64 4) (d := 4) rfl (by decide) (by rfl) ?_
        clear hS
        intro at25 hS
        refine wpList_nil ?_
        refine hK18 _ _ ?_
        clear hK18 K18
        refine wp_ret ?_
        (try simp only [Exit.then, Exit.inBlock])
        exact bodyPost_ret (v := .tuple #[.agg #[.int .i64 0, .int .i64 0, .int .i64 0, .int .i64 0, .int .u64 0, .int .i64 0, .int .i64 0, .int .i64 0, .int .i64 0, .int .u64 0, .int .i64 0, .int .i64 0, .int .i64 0, .int .i64 0, .int .i64 0, .int .i64 0, .int .i64 0, .int .u64 0, .int .i64 0, .int .i64 0, .int .i64 0, .int .i64 0, .int .i64 0], .int .i64 0, .int .i64 4]) (results_list (rs := [.cell 2 28, .tmp 3, .tmp 4]) rfl (by simp) (Vals.cell g4 28 #[.int .i64 0, .int .i64 0, .int .i64 0, .int .i64 0, .int .u64 0, .int .i64 0, .int .i64 0, .int .i64 0, .int .i64 0, .int .u64 0, .int .i64 0, .int .i64 0, .int .i64 0, .int .i64 0, .int .i64 0, .int .i64 0, .int .i64 0, .int .u64 0, .int .i64 0, .int .i64 0, .int .i64 0, .int .i64 0, .int .i64 0] (0, 0) _ (hS.get 6 rfl) ((hBw24_w21.block g4 (blk_lt hbxw21)).trans hbxw21) Try.underlying28 rfl (by kernel_rfl) (Vals.at (hS.get 1 rfl) (Vals.at (hS.get 0 rfl) .nil)))) hS.nodef ⟨rfl, hBw24_w⟩
    · rw [if_neg c2] at H
      exact absurd H (by simp)

end Go.Proofs.Ytcflafkafbpibaa.P
