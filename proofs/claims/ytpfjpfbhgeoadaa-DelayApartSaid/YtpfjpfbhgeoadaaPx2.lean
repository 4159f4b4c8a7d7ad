/- Functions and loops of the given program as Lean functions, and that the code comes to what they say: written by this session's own program; Lean checks it. -/
import Derived.Test.YtpfjpfbhgeoadaaPx0
namespace Go.Proofs.Ytpfjpfbhgeoadaa.P
open Go.RowKit Go.Proofs.YtpfjpfbhgeoadaaW.PrintWords Go.Proofs.YtpfjpfbhgeoadaaW.PrintLast Go.Proofs.YtpfjpfbhgeoadaaW.PrintMore
attribute [local go_sem] max2_int min2_int max_two min_two max_three min_three max_four min_four   -- for this text's walks alone
set_option linter.unusedVariables false
set_option linter.unusedSimpArgs false

/-! ### delay_Exchange_Request: function 12: by our own printer -/
def delay_Exchange_Request.f (a0_0 : Int) (a0_1 : Int) (a0_2 : Int) (a0_3 : Int) (a0_4 : Int) (a0_5 : Bool) (a0_6 : Bool) (a1 : Int) (a2 : Int) : Option (Int × Int × Int × Int × Int × Int × Int × Int × Int × Int × Int × Int × Int × Int × Int × Int × Int × Int × Int × Int × Int × Int × Int × Int × Int × Int × Int × Int × Bool × Bool) := some (1, a0_2, 0, 0, a0_0, a0_1, Go.bits .and .i64 a1 65535, 127, 0, 0, 0, 0, 0, 0, 0, 0, 0, 0, 0, 0, 0, 0, 0, a0_0, a0_1, a0_2, Go.bits .and .i64 a1 65535, 0, true, false)
open Go.Proofs.Ytpfjpfbhgeoadaa.E in
set_option maxHeartbeats 8000000 in
set_option maxRecDepth 100000 in
theorem delay_Exchange_Request.calls (g0 : Nat) (a0_0 : Int) (a0_1 : Int) (a0_2 : Int) (a0_3 : Int) (a0_4 : Int) (a0_5 : Bool) (a0_6 : Bool) (a1 : Int) (a2 : Int) (r1 : Int) (r2 : Int) (r3 : Int) (r4 : Int) (r5 : Int) (r6 : Int) (r7 : Int) (r8 : Int) (r9 : Int) (r10 : Int) (r11 : Int) (r12 : Int) (r13 : Int) (r14 : Int) (r15 : Int) (r16 : Int) (r17 : Int) (r18 : Int) (r19 : Int) (r20 : Int) (r21 : Int) (r22 : Int) (r23 : Int) (r24 : Int) (r25 : Int) (r26 : Int) (r27 : Int) (r28 : Int) (r29 : Bool) (r30 : Bool) (w : World) (HP0 : w.heap[g0]? = some (.cells #[.int .u64 a0_0, .int .i64 a0_1, .int .i64 a0_2, .int .i64 a0_3, .int .i64 a0_4, .bool a0_5, .bool a0_6] 54 (0, 0))) (h : delay_Exchange_Request.f a0_0 a0_1 a0_2 a0_3 a0_4 a0_5 a0_6 a1 a2 = some (r1, r2, r3, r4, r5, r6, r7, r8, r9, r10, r11, r12, r13, r14, r15, r16, r17, r18, r19, r20, r21, r22, r23, r24, r25, r26, r27, r28, r29, r30)) :
    Calls Try.prog 12 #[.pointer (some ⟨g0, 0, none⟩), .int .i64 a1, .int .i64 a2] w fun e w' => e = .returned (.agg #[.int .i64 r1, .int .i64 r2, .int .i64 r3, .int .i64 r4, .int .u64 r5, .int .i64 r6, .int .i64 r7, .int .i64 r8, .int .i64 r9, .int .u64 r10, .int .i64 r11, .int .i64 r12, .int .i64 r13, .int .i64 r14, .int .i64 r15, .int .i64 r16, .int .i64 r17, .int .u64 r18, .int .i64 r19, .int .i64 r20, .int .i64 r21, .int .i64 r22, .int .i64 r23]) ∧ w'.heap[g0]? = some (.cells #[.int .u64 r24, .int .i64 r25, .int .i64 r26, .int .i64 r27, .int .i64 r28, .bool r29, .bool r30] 54 (0, 0)) ∧ Tch g0 w w' := by
  have H := h
  clear h
  unfold delay_Exchange_Request.f at H
  simp only [Option.some.injEq, Prod.mk.injEq] at H
  obtain ⟨rfl, rfl, rfl, rfl, rfl, rfl, rfl, rfl, rfl, rfl, rfl, rfl, rfl, rfl, rfl, rfl, rfl, rfl, rfl, rfl, rfl, rfl, rfl, rfl, rfl, rfl, rfl, rfl, rfl, rfl⟩ := H
  refine calls_of_wp (fn := Try.f12) (by kernel_rfl) rfl ?_
  have hS := St.enter #[.pointer (some ⟨g0, 0, none⟩), .int .i64 a1, .int .i64 a2] 27 (by simp) [(0, .pointer (some ⟨g0, 0, none⟩)), (1, .int .i64 a1), (2, .int .i64 a2)] (by simp)
  have HB0 := Below.refl w.heap.size w
  refine wp_seq_k (fun K1 hK1 => ?_)
  refine reg_seq (N := 27) (bs := [(0, .pointer (some ⟨g0, 0, none⟩)), (1, .int .i64 a1), (2, .int .i64 a2)]) (I := fun x => Below w.heap.size w x) (ps := [IsB #[.int .i64 0, .int .i64 0, .int .i64 0, .int .i64 0, .int .u64 0, .int .i64 0, .int .i64 0, .int .i64 0, .int .i64 0, .int .u64 0, .int .i64 0, .int .i64 0, .int .i64 0, .int .i64 0, .int .i64 0, .int .i64 0, .int .i64 0, .int .u64 0, .int .i64 0, .int .i64 0, .int .i64 0, .int .i64 0, .int .i64 0] 34 w.heap.size]) (by kernel_rfl) ?_ ?_ rfl hS HB0 ?_ ?_
  · exact fun x y hI hb => below_step hI hb
  · exact AllStay.cons (Stays.b _ _ _) (AllStay.nil)
  · refine Steps.cons (fun a w hS hI hp => ok_on rfl (does_var (x_alloc rfl (by kernel_rfl)) (hI).size)) ?_
    exact Steps.nil
  clear hS
  intro at2 w3 hS hI hp
  have hBw3_w := hI
  replace hS := ((hS.nil).cons (hS.get 1 rfl)).cons (hS.get 0 rfl)
  obtain ⟨g4, hv6, hgeg4, hbxg4⟩ := (show IsB _ 34 _ (sl _ 6) _ from hp 0 (by decide))
  have hne5 : g4 ≠ g0 := Nat.ne_of_gt (Nat.lt_of_lt_of_le (blk_lt ((HB0.block g0 (blk_lt HP0)).trans HP0)) hgeg4)
  have hBw3_w3 := Below.refl w3.heap.size w3
  have hS := hS.cons hv6
  clear hp hI hv6
  refine hK1 _ _ ?_
  clear hK1 K1
  refine wp_seq_k (fun K6 hK6 => ?_)
  refine reg_seq_tail 6 (N := 27) (bs := [(6, .pointer (some ⟨g4, 0, none⟩)), (0, .pointer (some ⟨g0, 0, none⟩)), (1, .int .i64 a1)]) (I := fun x => Below w.heap.size w x ∧ Below w3.heap.size w3 x) (ps := [IsV (.pointer (some ⟨g0, 0, none⟩)), IsV (.int .i64 a1), IsV (.int .i64 (Go.bits .and .i64 a1 65535)), IsV (.agg #[.int .i64 (Go.bits .and .i64 a1 65535), .int .i64 0, .bool true, .bool false]), IsV (.pointer (some ⟨g0, 0, none⟩)), IsV (.pointer (some ⟨g0, 3, none⟩))]) (by kernel_rfl) ?_ ?_ rfl hS ⟨hBw3_w, hBw3_w3⟩ ?_ ?_
  · exact fun x y hI hb => ⟨below_step hI.1 hb, below_step hI.2 hb⟩
  · exact AllStay.cons (Stays.v _) (AllStay.cons (Stays.v _) (AllStay.cons (Stays.v _) (AllStay.cons (Stays.v _) (AllStay.cons (Stays.v _) (AllStay.cons (Stays.v _) (AllStay.nil))))))
  · refine Steps.cons (fun a w hS hI hp => ok_on rfl (does_val (x_move rfl (hS.get 1 rfl)) rfl)) ?_
    refine Steps.cons (fun a w hS hI hp => ok_on rfl (does_val (x_move rfl (hS.get 2 rfl)) rfl)) ?_
    refine Steps.cons (fun a w hS hI hp => ok_on rfl (does_val (x_bin rfl ((hp.get 1 (by rfl) rfl rfl)) (rfl) (b_and _ _ _ _ _ _)) rfl)) ?_
    refine Steps.cons (fun a w hS hI hp => ok_on rfl (does_val (x_build (vs := [(0, .int .i64 (Go.bits .and .i64 a1 65535)), (2, .bool true)]) rfl (by rw [Array.toList_map]; exact (show [(0, a.eval (.tmp 9)), (2, a.eval (.const (.bool true)))] = _ from (li_cons ((hp.get 2 (by rfl) rfl rfl)) (li_cons (rfl) rfl)))) (by kernel_rfl)) rfl)) ?_
    refine Steps.cons (fun a w hS hI hp => ok_on rfl (does_val (x_nilck rfl ((hp.get 0 (by rfl) rfl rfl))) rfl)) ?_
    refine Steps.cons (fun a w hS hI hp => ok_on rfl (does_val (x_field rfl ((hp.get 4 (by rfl) rfl rfl)) Try.underlying54 rfl (by kernel_rfl)) rfl)) ?_
    exact Steps.nil
  clear hS
  intro at7 w8 hS hI hp
  have hBw8_w := hI.1
  have hBw8_w3 := hI.2
  replace hS := ((hS.nil).cons (hS.get 1 rfl)).cons (hS.get 0 rfl)
  have hv10 : sl _ 10 = .agg #[.int .i64 (Go.bits .and .i64 a1 65535), .int .i64 0, .bool true, .bool false] := hp 3 (by decide)
  have hv12 : sl _ 12 = .pointer (some ⟨g0, 3, none⟩) := hp 5 (by decide)
  have hBw8_w8 := Below.refl w8.heap.size w8
  have hS := hS.cons hv10
  have hS := hS.cons hv12
  clear hp hI hv10 hv12
  show wpList _ _ _ [_] _ _
  refine list_step rfl (does_store (g := g0) (off := 3) (v := .agg #[.int .i64 (Go.bits .and .i64 a1 65535), .int .i64 0, .bool true, .bool false]) (new := #[.int .u64 a0_0, .int .i64 a0_1, .int .i64 a0_2, .int .i64 (Go.bits .and .i64 a1 65535), .int .i64 0, .bool true, .bool false]) rfl (hS.get 0 rfl) (hS.get 1 rfl) ((hBw8_w.block g0 (blk_lt HP0)).trans HP0) (by kernel_rfl) (by kernel_rfl) (by kernel_rfl) (by kernel_rfl)) ?_
  rintro vw9 w9 ⟨rfl, hbxw9, hT⟩
  have hn10 := hT.blk ((hBw8_w3.block g4 (blk_lt hbxg4)).trans hbxg4) hne5
  have hTw9 := (Tch.more (Tch.refl _ _) hBw8_w).trans hT
  have hBw9_w9 := Below.refl w9.heap.size w9
  clear hT
  refine wpList_nil ?_
  refine hK6 _ _ ?_
  clear hK6 K6
  refine wp_seq_k (fun K11 hK11 => ?_)
  refine reg_any_tail 14 (N := 27) (bs := [(12, .pointer (some ⟨g0, 3, none⟩)), (10, .agg #[.int .i64 (Go.bits .and .i64 a1 65535), .int .i64 0, .bool true, .bool false]), (6, .pointer (some ⟨g4, 0, none⟩)), (0, .pointer (some ⟨g0, 0, none⟩))]) (I := fun x => Below w9.heap.size w9 x) (ps := [IsV (.pointer (some ⟨g0, 0, none⟩)), IsV (.pointer (some ⟨g0, 0, none⟩)), IsV (.pointer (some ⟨g0, 2, none⟩)), IsV (.int .i64 a0_2), IsV (.pointer (some ⟨g0, 0, none⟩)), IsV (.pointer (some ⟨g0, 0, none⟩)), IsV (.pointer (some ⟨g0, 0, none⟩)), IsV (.agg #[.int .u64 a0_0, .int .i64 a0_1]), IsV (.pointer (some ⟨g0, 0, none⟩)), IsV (.pointer (some ⟨g0, 0, none⟩)), IsV (.pointer (some ⟨g0, 3, none⟩)), IsV (.pointer (some ⟨g0, 3, none⟩)), IsV (.int .i64 (Go.bits .and .i64 a1 65535)), IsV (.agg #[.int .i64 1, .int .i64 a0_2, .int .i64 0, .int .i64 0, .int .u64 a0_0, .int .i64 a0_1, .int .i64 (Go.bits .and .i64 a1 65535), .int .i64 127, .int .i64 0, .int .u64 0, .int .i64 0, .int .i64 0, .int .i64 0, .int .i64 0, .int .i64 0, .int .i64 0, .int .i64 0, .int .u64 0, .int .i64 0, .int .i64 0, .int .i64 0, .int .i64 0, .int .i64 0])]) (by kernel_rfl) (by kernel_rfl) (by kernel_rfl) (by decide) ?_ ?_ rfl hS hBw9_w9 ?_ ?_
  · exact fun x y hI hb => below_step hI hb
  · exact AllStay.cons (Stays.v _) (AllStay.cons (Stays.v _) (AllStay.cons (Stays.v _) (AllStay.cons (Stays.v _) (AllStay.cons (Stays.v _) (AllStay.cons (Stays.v _) (AllStay.cons (Stays.v _) (AllStay.cons (Stays.v _) (AllStay.cons (Stays.v _) (AllStay.cons (Stays.v _) (AllStay.cons (Stays.v _) (AllStay.cons (Stays.v _) (AllStay.cons (Stays.v _) (AllStay.cons (Stays.v _) (AllStay.nil))))))))))))))
  · refine Steps.cons (fun a w hS hI hp => ok_on rfl (does_val (x_move rfl (hS.get 3 rfl)) rfl)) ?_
    refine Steps.cons (fun a w hS hI hp => ok_on rfl (does_val (x_nilck rfl ((hp.get 0 (by rfl) rfl rfl))) rfl)) ?_
    refine Steps.cons (fun a w hS hI hp => ok_on rfl (does_val (x_field rfl ((hp.get 1 (by rfl) rfl rfl)) Try.underlying54 rfl (by kernel_rfl)) rfl)) ?_
    refine Steps.cons (fun a w hS hI hp => ok_on rfl (does_val (x_load1 (d := .int .i64) rfl ((hp.get 2 (by rfl) rfl rfl)) (by kernel_rfl) rfl ((blk_cell (((hI).block g0 (blk_lt hbxw9)).trans hbxw9) 2).trans rfl)) rfl)) ?_
    refine Steps.cons (fun a w hS hI hp => ok_on rfl (does_val (x_move rfl (hS.get 3 rfl)) rfl)) ?_
    refine Steps.cons (fun a w hS hI hp => ok_on rfl (does_val (x_nilck rfl ((hp.get 4 (by rfl) rfl rfl))) rfl)) ?_
    refine Steps.cons (fun a w hS hI hp => ok_on rfl (does_val (x_field rfl ((hp.get 5 (by rfl) rfl rfl)) Try.underlying54 rfl (by kernel_rfl)) rfl)) ?_
    refine Steps.cons (fun a w hS hI hp => ok_on rfl (does_loadmid (cs := [.int .u64 a0_0, .int .i64 a0_1]) rfl ((hp.get 6 (by rfl) rfl rfl)) (((hI).block g0 (blk_lt hbxw9)).trans hbxw9) rfl Try.underlying24 rfl (by kernel_rfl) rfl)) ?_
    refine Steps.cons (fun a w hS hI hp => ok_on rfl (does_val (x_move rfl (hS.get 3 rfl)) rfl)) ?_
    refine Steps.cons (fun a w hS hI hp => ok_on rfl (does_val (x_nilck rfl ((hp.get 8 (by rfl) rfl rfl))) rfl)) ?_
    refine Steps.cons (fun a w hS hI hp => ok_on rfl (does_val (x_field rfl ((hp.get 9 (by rfl) rfl rfl)) Try.underlying54 rfl (by kernel_rfl)) rfl)) ?_
    refine Steps.cons (fun a w hS hI hp => ok_on rfl (does_val (x_field rfl ((hp.get 10 (by rfl) rfl rfl)) Try.underlying52 rfl (by kernel_rfl)) rfl)) ?_
    refine Steps.cons (fun a w hS hI hp => ok_on rfl (does_val (x_load1 (d := .int .i64) rfl ((hp.get 11 (by rfl) rfl rfl)) (by kernel_rfl) rfl ((blk_cell (((hI).block g0 (blk_lt hbxw9)).trans hbxw9) 3).trans rfl)) rfl)) ?_
    refine Steps.cons (fun a w hS hI hp => ok_on rfl (does_val (x_build (vs := [(0, .int .i64 1), (1, .int .i64 a0_2), (4, .agg #[.int .u64 a0_0, .int .i64 a0_1]), (5, .int .i64 (Go.bits .and .i64 a1 65535)), (6, .int .i64 127)]) rfl (by rw [Array.toList_map]; exact (show [(0, a.eval (.const (.int .i64 1))), (1, a.eval (.tmp 16)), (4, a.eval (.tmp 20)), (5, a.eval (.tmp 25)), (6, a.eval (.const (.int .i64 127)))] = _ from (li_cons (rfl) (li_cons ((hp.get 3 (by rfl) rfl rfl)) (li_cons ((hp.get 7 (by rfl) rfl rfl)) (li_cons ((hp.get 12 (by rfl) rfl rfl)) (li_cons (rfl) rfl))))))) (by kernel_rfl)) rfl)) ?_
    exact Steps.nil
  clear hS
  intro at12 w13 hS hI hp
  have hBw13_w9 := hI
  replace hS := (hS.nil).cons (hS.get 2 rfl)
  have hv26 : sl _ 26 = .agg #[.int .i64 1, .int .i64 a0_2, .int .i64 0, .int .i64 0, .int .u64 a0_0, .int .i64 a0_1, .int .i64 (Go.bits .and .i64 a1 65535), .int .i64 127, .int .i64 0, .int .u64 0, .int .i64 0, .int .i64 0, .int .i64 0, .int .i64 0, .int .i64 0, .int .i64 0, .int .i64 0, .int .u64 0, .int .i64 0, .int .i64 0, .int .i64 0, .int .i64 0, .int .i64 0] := hp 13 (by decide)
  have hBw13_w13 := Below.refl w13.heap.size w13
  have hS := hS.cons hv26
  clear hp hI hv26
  show wpList _ _ _ [_] _ _
  refine list_step rfl (does_storeAll (g := g4) (cs := #[.int .i64 1, .int .i64 a0_2, .int .i64 0, .int .i64 0, .int .u64 a0_0, .int .i64 a0_1, .int .i64 (Go.bits .and .i64 a1 65535), .int .i64 127, .int .i64 0, .int .u64 0, .int .i64 0, .int .i64 0, .int .i64 0, .int .i64 0, .int .i64 0, .int .i64 0, .int .i64 0, .int .u64 0, .int .i64 0, .int .i64 0, .int .i64 0, .int .i64 0, .int .i64 0]) rfl (hS.get 1 rfl) (hS.get 0 rfl) ((hBw13_w9.block g4 (blk_lt hn10)).trans hn10) (by kernel_rfl) (by kernel_rfl) (by kernel_rfl)) ?_
  rintro vw14 w14 ⟨rfl, hbxw14, hT⟩
  have hn15 := hT.blk ((hBw13_w9.block g0 (blk_lt hbxw9)).trans hbxw9) (Ne.symm hne5)
  have hTw14 := (Tch.more hTw9 hBw13_w9).far hT (Nat.le_trans (Tch.more (Tch.refl g0 _) HB0).size hgeg4)
  have hBw14_w14 := Below.refl w14.heap.size w14
  clear hT
  refine wpList_nil ?_
  refine hK11 _ _ ?_
  clear hK11 K11
  refine wp_ret ?_
  (try simp only [Exit.then, Exit.inBlock])
  exact bodyPost_ret (v := .agg #[.int .i64 1, .int .i64 a0_2, .int .i64 0, .int .i64 0, .int .u64 a0_0, .int .i64 a0_1, .int .i64 (Go.bits .and .i64 a1 65535), .int .i64 127, .int .i64 0, .int .u64 0, .int .i64 0, .int .i64 0, .int .i64 0, .int .i64 0, .int .i64 0, .int .i64 0, .int .i64 0, .int .u64 0, .int .i64 0, .int .i64 0, .int .i64 0, .int .i64 0, .int .i64 0]) (results_single rfl (Vals.cell g4 34 #[.int .i64 1, .int .i64 a0_2, .int .i64 0, .int .i64 0, .int .u64 a0_0, .int .i64 a0_1, .int .i64 (Go.bits .and .i64 a1 65535), .int .i64 127, .int .i64 0, .int .u64 0, .int .i64 0, .int .i64 0, .int .i64 0, .int .i64 0, .int .i64 0, .int .i64 0, .int .i64 0, .int .u64 0, .int .i64 0, .int .i64 0, .int .i64 0, .int .i64 0, .int .i64 0] (0, 0) _ (hS.get 1 rfl) ((hBw14_w14.block g4 (blk_lt hbxw14)).trans hbxw14) Try.underlying34 rfl (by kernel_rfl) .nil)) hS.nodef ⟨rfl, ((hBw14_w14.block g0 (blk_lt hn15)).trans hn15), (Tch.more hTw14 hBw14_w14)⟩

/-! ### delay_Exchange_Sent: function 14: by our own printer -/
def delay_Exchange_Sent.f (a0_0 : Int) (a0_1 : Int) (a0_2 : Int) (a0_3 : Int) (a0_4 : Int) (a0_5 : Bool) (a0_6 : Bool) (a1 : Int) (a2 : Int) : Option (Bool × Int × Int × Int × Int × Int × Bool × Bool) := if ((a0_3 == a1) && ((a0_4 == 0) && ((a0_5 == true) && (a0_6 == false)))) = true then (some (true, a0_0, a0_1, a0_2, a0_3, a2, a0_5, true)) else (some (false, a0_0, a0_1, a0_2, a0_3, a0_4, a0_5, a0_6))
open Go.Proofs.Ytpfjpfbhgeoadaa.E in
set_option maxRecDepth 100000 in
theorem delay_Exchange_Sent.neq52 (x y : Operand) (w : World) (a0 : Int) (a1 : Int) (a2 : Bool) (a3 : Bool) (b0 : Int) (b1 : Int) (b2 : Bool) (b3 : Bool) : (do eqGuard .neq 52 x y (.agg #[.int .i64 a0, .int .i64 a1, .bool a2, .bool a3]) (.agg #[.int .i64 b0, .int .i64 b1, .bool b2, .bool b3]); binOp .neq 52 (.agg #[.int .i64 a0, .int .i64 a1, .bool a2, .bool a3]) (.agg #[.int .i64 b0, .int .i64 b1, .bool b2, .bool b3]) : Sem Value).run Try.prog w = .ok (.bool (!((a0 == b0) && ((a1 == b1) && ((a2 == b2) && (a3 == b3)))))) w := by
  have hu3 := Try.underlying3
  have hu4 := Try.underlying4
  have hu52 := Try.underlying52
  conv => lhs; simp [eqGuard, go_sem, hu3, hu4, hu52]
  exact ite_nand (ite_nand (ite_nand (ite_nlast)))
open Go.Proofs.Ytpfjpfbhgeoadaa.E in
set_option maxHeartbeats 8000000 in
set_option maxRecDepth 100000 in
theorem delay_Exchange_Sent.calls (g0 : Nat) (a0_0 : Int) (a0_1 : Int) (a0_2 : Int) (a0_3 : Int) (a0_4 : Int) (a0_5 : Bool) (a0_6 : Bool) (a1 : Int) (a2 : Int) (r1 : Bool) (r2 : Int) (r3 : Int) (r4 : Int) (r5 : Int) (r6 : Int) (r7 : Bool) (r8 : Bool) (w : World) (HP0 : w.heap[g0]? = some (.cells #[.int .u64 a0_0, .int .i64 a0_1, .int .i64 a0_2, .int .i64 a0_3, .int .i64 a0_4, .bool a0_5, .bool a0_6] 54 (0, 0))) (h : delay_Exchange_Sent.f a0_0 a0_1 a0_2 a0_3 a0_4 a0_5 a0_6 a1 a2 = some (r1, r2, r3, r4, r5, r6, r7, r8)) :
    Calls Try.prog 14 #[.pointer (some ⟨g0, 0, none⟩), .int .i64 a1, .int .i64 a2] w fun e w' => e = .returned (.bool r1) ∧ w'.heap[g0]? = some (.cells #[.int .u64 r2, .int .i64 r3, .int .i64 r4, .int .i64 r5, .int .i64 r6, .bool r7, .bool r8] 54 (0, 0)) ∧ Tch g0 w w' := by
  have H := h
  clear h
  unfold delay_Exchange_Sent.f at H
  by_cases c1 : ((a0_3 == a1) && ((a0_4 == 0) && ((a0_5 == true) && (a0_6 == false)))) = true
  · rw [if_pos c1] at H
    simp only [Option.some.injEq, Prod.mk.injEq] at H
    obtain ⟨rfl, rfl, rfl, rfl, rfl, rfl, rfl, rfl⟩ := H
    refine calls_of_wp (fn := Try.f14) (by kernel_rfl) rfl ?_
    have hS := St.enter #[.pointer (some ⟨g0, 0, none⟩), .int .i64 a1, .int .i64 a2] 23 (by simp) [(0, .pointer (some ⟨g0, 0, none⟩)), (1, .int .i64 a1), (2, .int .i64 a2)] (by simp)
    have HB0 := Below.refl w.heap.size w
    refine wp_seq_k (fun K1 hK1 => ?_)
    refine reg_seq (N := 23) (bs := [(0, .pointer (some ⟨g0, 0, none⟩)), (1, .int .i64 a1), (2, .int .i64 a2)]) (I := fun x => Below w.heap.size w x) (ps := [IsV (.bool false)]) (by kernel_rfl) ?_ ?_ rfl hS HB0 ?_ ?_
    · exact fun x y hI hb => below_step hI hb
    · exact AllStay.cons (Stays.v _) (AllStay.nil)
    · refine Steps.cons (fun a w hS hI hp => ok_on rfl (does_val (x_assign rfl (rfl)) rfl)) ?_
      exact Steps.nil
    clear hS
    intro at2 w3 hS hI hp
    have hBw3_w := hI
    have hv6 : sl _ 6 = .bool false := hp 0 (by decide)
    have hBw3_w3 := Below.refl w3.heap.size w3
    have hS := hS.cons hv6
    clear hp hI hv6
    refine hK1 _ _ ?_
    clear hK1 K1
    refine wp_seq_k (fun K4 hK4 => ?_)
    refine wp_seq_k (fun K5 hK5 => ?_)
    refine reg_seq (N := 23) (bs := [(6, .bool false), (0, .pointer (some ⟨g0, 0, none⟩)), (1, .int .i64 a1), (2, .int .i64 a2)]) (I := fun x => Below w.heap.size w x ∧ Below w3.heap.size w3 x) (ps := [IsV (.pointer (some ⟨g0, 0, none⟩)), IsV (.pointer (some ⟨g0, 0, none⟩)), IsV (.pointer (some ⟨g0, 3, none⟩)), IsV (.agg #[.int .i64 a0_3, .int .i64 a0_4, .bool a0_5, .bool a0_6]), IsV (.int .i64 a1), IsV (.agg #[.int .i64 a1, .int .i64 0, .bool true, .bool false]), IsV (.bool (!((a0_3 == a1) && ((a0_4 == 0) && ((a0_5 == true) && (a0_6 == false))))))]) (by kernel_rfl) ?_ ?_ rfl hS ⟨hBw3_w, hBw3_w3⟩ ?_ ?_
    · exact fun x y hI hb => ⟨below_step hI.1 hb, below_step hI.2 hb⟩
    · exact AllStay.cons (Stays.v _) (AllStay.cons (Stays.v _) (AllStay.cons (Stays.v _) (AllStay.cons (Stays.v _) (AllStay.cons (Stays.v _) (AllStay.cons (Stays.v _) (AllStay.cons (Stays.v _) (AllStay.nil)))))))
    · refine Steps.cons (fun a w hS hI hp => ok_on rfl (does_val (x_move rfl (hS.get 1 rfl)) rfl)) ?_
      refine Steps.cons (fun a w hS hI hp => ok_on rfl (does_val (x_nilck rfl ((hp.get 0 (by rfl) rfl rfl))) rfl)) ?_
      refine Steps.cons (fun a w hS hI hp => ok_on rfl (does_val (x_field rfl ((hp.get 1 (by rfl) rfl rfl)) Try.underlying54 rfl (by kernel_rfl)) rfl)) ?_
      refine Steps.cons (fun a w hS hI hp => ok_on rfl (does_loadmid (cs := [.int .i64 a0_3, .int .i64 a0_4, .bool a0_5, .bool a0_6]) rfl ((hp.get 2 (by rfl) rfl rfl)) (((hI.1).block g0 (blk_lt HP0)).trans HP0) rfl Try.underlying52 rfl (by kernel_rfl) rfl)) ?_
      refine Steps.cons (fun a w hS hI hp => ok_on rfl (does_val (x_move rfl (hS.get 2 rfl)) rfl)) ?_
      refine Steps.cons (fun a w hS hI hp => ok_on rfl (does_val (x_build (vs := [(0, .int .i64 a1), (2, .bool true)]) rfl (by rw [Array.toList_map]; exact (show [(0, a.eval (.tmp 11)), (2, a.eval (.const (.bool true)))] = _ from (li_cons ((hp.get 4 (by rfl) rfl rfl)) (li_cons (rfl) rfl)))) (by kernel_rfl)) rfl)) ?_
      refine Steps.cons (fun a w hS hI hp => ok_on rfl (does_val (x_bin rfl ((hp.get 3 (by rfl) rfl rfl)) ((hp.get 5 (by rfl) rfl rfl)) (delay_Exchange_Sent.neq52 _ _ _ a0_3 a0_4 a0_5 a0_6 a1 0 true false)) rfl)) ?_
      exact Steps.nil
    clear hS
    intro at6 w7 hS hI hp
    have hBw7_w := hI.1
    have hBw7_w3 := hI.2
    replace hS := (((hS.nil).cons (hS.get 3 rfl)).cons (hS.get 1 rfl)).cons (hS.get 0 rfl)
    have hv13 : sl _ 13 = .bool (!((a0_3 == a1) && ((a0_4 == 0) && ((a0_5 == true) && (a0_6 == false))))) := hp 6 (by decide)
    have hBw7_w7 := Below.refl w7.heap.size w7
    have hS := hS.cons hv13
    clear hp hI hv13
    refine hK5 _ _ ?_
    clear hK5 K5
    refine wp_cond_false ((hS.get 0 rfl).trans (bF (congrArg (!·) c1))) ?_
    refine wp_skip ?_
    refine hK4 _ _ ?_
    clear hK4 K4
    refine wp_seq_k (fun K8 hK8 => ?_)
    refine reg_seq_tail 6 (N := 23) (bs := [(13, .bool (!((a0_3 == a1) && ((a0_4 == 0) && ((a0_5 == true) && (a0_6 == false)))))), (6, .bool false), (0, .pointer (some ⟨g0, 0, none⟩)), (2, .int .i64 a2)]) (I := fun x => Below w.heap.size w x ∧ Below w7.heap.size w7 x) (ps := [IsV (.pointer (some ⟨g0, 0, none⟩)), IsV (.pointer (some ⟨g0, 0, none⟩)), IsV (.int .i64 a2), IsV (.pointer (some ⟨g0, 0, none⟩)), IsV (.pointer (some ⟨g0, 3, none⟩)), IsV (.pointer (some ⟨g0, 6, none⟩))]) (by kernel_rfl) ?_ ?_ rfl hS ⟨hBw7_w, hBw7_w7⟩ ?_ ?_
    · exact fun x y hI hb => ⟨below_step hI.1 hb, below_step hI.2 hb⟩
    · exact AllStay.cons (Stays.v _) (AllStay.cons (Stays.v _) (AllStay.cons (Stays.v _) (AllStay.cons (Stays.v _) (AllStay.cons (Stays.v _) (AllStay.cons (Stays.v _) (AllStay.nil))))))
    · refine Steps.cons (fun a w hS hI hp => ok_on rfl (does_val (x_move rfl (hS.get 2 rfl)) rfl)) ?_
      refine Steps.cons (fun a w hS hI hp => ok_on rfl (does_val (x_move rfl (hS.get 2 rfl)) rfl)) ?_
      refine Steps.cons (fun a w hS hI hp => ok_on rfl (does_val (x_move rfl (hS.get 3 rfl)) rfl)) ?_
      refine Steps.cons (fun a w hS hI hp => ok_on rfl (does_val (x_nilck rfl ((hp.get 0 (by rfl) rfl rfl))) rfl)) ?_
      refine Steps.cons (fun a w hS hI hp => ok_on rfl (does_val (x_field rfl ((hp.get 3 (by rfl) rfl rfl)) Try.underlying54 rfl (by kernel_rfl)) rfl)) ?_
      refine Steps.cons (fun a w hS hI hp => ok_on rfl (does_val (x_field rfl ((hp.get 4 (by rfl) rfl rfl)) Try.underlying52 rfl (by kernel_rfl)) rfl)) ?_
      exact Steps.nil
    clear hS
    intro at9 w10 hS hI hp
    have hBw10_w := hI.1
    have hBw10_w7 := hI.2
    replace hS := ((hS.nil).cons (hS.get 1 rfl)).cons (hS.get 0 rfl)
    have hv15 : sl _ 15 = .pointer (some ⟨g0, 0, none⟩) := hp 1 (by decide)
    have hv16 : sl _ 16 = .int .i64 a2 := hp 2 (by decide)
    have hv19 : sl _ 19 = .pointer (some ⟨g0, 6, none⟩) := hp 5 (by decide)
    have hBw10_w10 := Below.refl w10.heap.size w10
    have hS := hS.cons hv15
    have hS := hS.cons hv16
    have hS := hS.cons hv19
    clear hp hI hv15 hv16 hv19
    show wpList _ _ _ [_, _, _, _, _] _ _
    refine list_step rfl (does_store (g := g0) (off := 6) (v := .bool true) (new := #[.int .u64 a0_0, .int .i64 a0_1, .int .i64 a0_2, .int .i64 a0_3, .int .i64 a0_4, .bool a0_5, .bool true]) rfl (hS.get 0 rfl) (rfl) ((hBw10_w.block g0 (blk_lt HP0)).trans HP0) (by kernel_rfl) (by kernel_rfl) (by kernel_rfl) (by kernel_rfl)) ?_
    rintro vw11 w11 ⟨rfl, hbxw11, hT⟩
    have hTw11 := (Tch.more (Tch.refl _ _) hBw10_w).trans hT
    have hBw11_w11 := Below.refl w11.heap.size w11
    clear hT
    refine list_step rfl (R := fun v w' => Below _ _ w' ∧ (IsV (.pointer (some ⟨g0, 0, none⟩))) v w') (does_val (x_nilck rfl (hS.get 2 rfl)) rfl) ?_
    rintro vw12 w12 ⟨hb, he⟩
    have hBw12_w11 := below_step hBw11_w11 hb
    have hBw12_w12 := Below.refl w12.heap.size w12
    obtain rfl : vw12 = .pointer (some ⟨g0, 0, none⟩) := he
    refine hS.next (v := .pointer (some ⟨g0, 0, none⟩)) (d := 20) rfl (by decide) (by rfl) ?_
    clear hS
    intro at13 hS
    refine list_step rfl (R := fun v w' => Below _ _ w' ∧ (IsV (.pointer (some ⟨g0, 3, none⟩))) v w') (does_val (x_field rfl (hS.get 0 rfl) Try.underlying54 rfl (by kernel_rfl)) rfl) ?_
    rintro vw14 w14 ⟨hb, he⟩
    have hBw14_w11 := below_step hBw12_w11 hb
    have hBw14_w12 := below_step hBw12_w12 hb
    have hBw14_w14 := Below.refl w14.heap.size w14
    obtain rfl : vw14 = .pointer (some ⟨g0, 3, none⟩) := he
    refine hS.next (v := .pointer (some ⟨g0, 3, none⟩)) (d := 21) rfl (by decide) (by rfl) ?_
    clear hS
    intro at15 hS
    refine list_step rfl (R := fun v w' => Below _ _ w' ∧ (IsV (.pointer (some ⟨g0, 4, none⟩))) v w') (does_val (x_field rfl (hS.get 0 rfl) Try.underlying52 rfl (by kernel_rfl)) rfl) ?_
    rintro vw16 w16 ⟨hb, he⟩
    have hBw16_w11 := below_step hBw14_w11 hb
    have hBw16_w14 := below_step hBw14_w14 hb
    have hBw16_w16 := Below.refl w16.heap.size w16
    obtain rfl : vw16 = .pointer (some ⟨g0, 4, none⟩) := he
    refine hS.next (v := .pointer (some ⟨g0, 4, none⟩)) (d := 22) rfl (by decide) (by rfl) ?_
    clear hS
    intro at17 hS
    refine list_step rfl (does_store (g := g0) (off := 4) (v := .int .i64 a2) (new := #[.int .u64 a0_0, .int .i64 a0_1, .int .i64 a0_2, .int .i64 a0_3, .int .i64 a2, .bool a0_5, .bool true]) rfl (hS.get 0 rfl) (hS.get 4 rfl) ((hBw16_w11.block g0 (blk_lt hbxw11)).trans hbxw11) (by kernel_rfl) (by kernel_rfl) (by kernel_rfl) (by kernel_rfl)) ?_
    rintro vw18 w18 ⟨rfl, hbxw18, hT⟩
    have hTw18 := (Tch.more hTw11 hBw16_w11).trans hT
    have hBw18_w18 := Below.refl w18.heap.size w18
    clear hT
    refine wpList_nil ?_
    refine hK8 _ _ ?_
    clear hK8 K8
    refine wp_seq_k (fun K19 hK19 => ?_)
    replace hS := (((((((hS.nil).cons (hS.get 6 rfl)).cons (hS.get 5 rfl)).cons (hS.get 4 rfl)).cons (hS.get 3 rfl)).cons (hS.get 2 rfl)).cons (hS.get 1 rfl)).cons (hS.get 0 rfl)
    refine reg_seq (N := 23) (bs := [(22, .pointer (some ⟨g0, 4, none⟩)), (21, .pointer (some ⟨g0, 3, none⟩)), (20, .pointer (some ⟨g0, 0, none⟩)), (19, .pointer (some ⟨g0, 6, none⟩)), (16, .int .i64 a2), (15, .pointer (some ⟨g0, 0, none⟩)), (13, .bool (!((a0_3 == a1) && ((a0_4 == 0) && ((a0_5 == true) && (a0_6 == false))))))]) (I := fun x => Below w18.heap.size w18 x) (ps := [IsV (.bool true)]) (by kernel_rfl) ?_ ?_ rfl hS hBw18_w18 ?_ ?_
    · exact fun x y hI hb => below_step hI hb
    · exact AllStay.cons (Stays.v _) (AllStay.nil)
    · refine Steps.cons (fun a w hS hI hp => ok_on rfl (does_val (x_assign rfl (rfl)) rfl)) ?_
      exact Steps.nil
    clear hS
    intro at20 w21 hS hI hp
    have hBw21_w18 := hI
    replace hS := (hS.nil).cons (hS.get 6 rfl)
    have hv6 : sl _ 6 = .bool true := hp 0 (by decide)
    have hBw21_w21 := Below.refl w21.heap.size w21
    have hS := hS.cons hv6
    clear hp hI hv6
    refine hK19 _ _ ?_
    clear hK19 K19
    refine wp_ret ?_
    (try simp only [Exit.then, Exit.inBlock])
    exact bodyPost_ret (v := .bool true) (results_single rfl (Vals.at (hS.get 0 rfl) .nil)) hS.nodef ⟨rfl, ((hBw21_w18.block g0 (blk_lt hbxw18)).trans hbxw18), (Tch.more hTw18 hBw21_w18)⟩
  · rw [if_neg c1] at H
    simp only [Option.some.injEq, Prod.mk.injEq] at H
    obtain ⟨rfl, rfl, rfl, rfl, rfl, rfl, rfl, rfl⟩ := H
    refine calls_of_wp (fn := Try.f14) (by kernel_rfl) rfl ?_
    have hS := St.enter #[.pointer (some ⟨g0, 0, none⟩), .int .i64 a1, .int .i64 a2] 23 (by simp) [(0, .pointer (some ⟨g0, 0, none⟩)), (1, .int .i64 a1), (2, .int .i64 a2)] (by simp)
    have HB0 := Below.refl w.heap.size w
    refine wp_seq_k (fun K1 hK1 => ?_)
    refine reg_seq (N := 23) (bs := [(0, .pointer (some ⟨g0, 0, none⟩)), (1, .int .i64 a1), (2, .int .i64 a2)]) (I := fun x => Below w.heap.size w x) (ps := [IsV (.bool false)]) (by kernel_rfl) ?_ ?_ rfl hS HB0 ?_ ?_
    · exact fun x y hI hb => below_step hI hb
    · exact AllStay.cons (Stays.v _) (AllStay.nil)
    · refine Steps.cons (fun a w hS hI hp => ok_on rfl (does_val (x_assign rfl (rfl)) rfl)) ?_
      exact Steps.nil
    clear hS
    intro at2 w3 hS hI hp
    have hBw3_w := hI
    have hv6 : sl _ 6 = .bool false := hp 0 (by decide)
    have hBw3_w3 := Below.refl w3.heap.size w3
    have hS := hS.cons hv6
    clear hp hI hv6
    refine hK1 _ _ ?_
    clear hK1 K1
    refine wp_seq_k (fun K4 hK4 => ?_)
    refine wp_seq_k (fun K5 hK5 => ?_)
    refine reg_seq (N := 23) (bs := [(6, .bool false), (0, .pointer (some ⟨g0, 0, none⟩)), (1, .int .i64 a1), (2, .int .i64 a2)]) (I := fun x => Below w.heap.size w x ∧ Below w3.heap.size w3 x) (ps := [IsV (.pointer (some ⟨g0, 0, none⟩)), IsV (.pointer (some ⟨g0, 0, none⟩)), IsV (.pointer (some ⟨g0, 3, none⟩)), IsV (.agg #[.int .i64 a0_3, .int .i64 a0_4, .bool a0_5, .bool a0_6]), IsV (.int .i64 a1), IsV (.agg #[.int .i64 a1, .int .i64 0, .bool true, .bool false]), IsV (.bool (!((a0_3 == a1) && ((a0_4 == 0) && ((a0_5 == true) && (a0_6 == false))))))]) (by kernel_rfl) ?_ ?_ rfl hS ⟨hBw3_w, hBw3_w3⟩ ?_ ?_
    · exact fun x y hI hb => ⟨below_step hI.1 hb, below_step hI.2 hb⟩
    · exact AllStay.cons (Stays.v _) (AllStay.cons (Stays.v _) (AllStay.cons (Stays.v _) (AllStay.cons (Stays.v _) (AllStay.cons (Stays.v _) (AllStay.cons (Stays.v _) (AllStay.cons (Stays.v _) (AllStay.nil)))))))
    · refine Steps.cons (fun a w hS hI hp => ok_on rfl (does_val (x_move rfl (hS.get 1 rfl)) rfl)) ?_
      refine Steps.cons (fun a w hS hI hp => ok_on rfl (does_val (x_nilck rfl ((hp.get 0 (by rfl) rfl rfl))) rfl)) ?_
      refine Steps.cons (fun a w hS hI hp => ok_on rfl (does_val (x_field rfl ((hp.get 1 (by rfl) rfl rfl)) Try.underlying54 rfl (by kernel_rfl)) rfl)) ?_
      refine Steps.cons (fun a w hS hI hp => ok_on rfl (does_loadmid (cs := [.int .i64 a0_3, .int .i64 a0_4, .bool a0_5, .bool a0_6]) rfl ((hp.get 2 (by rfl) rfl rfl)) (((hI.1).block g0 (blk_lt HP0)).trans HP0) rfl Try.underlying52 rfl (by kernel_rfl) rfl)) ?_
      refine Steps.cons (fun a w hS hI hp => ok_on rfl (does_val (x_move rfl (hS.get 2 rfl)) rfl)) ?_
      refine Steps.cons (fun a w hS hI hp => ok_on rfl (does_val (x_build (vs := [(0, .int .i64 a1), (2, .bool true)]) rfl (by rw [Array.toList_map]; exact (show [(0, a.eval (.tmp 11)), (2, a.eval (.const (.bool true)))] = _ from (li_cons ((hp.get 4 (by rfl) rfl rfl)) (li_cons (rfl) rfl)))) (by kernel_rfl)) rfl)) ?_
      refine Steps.cons (fun a w hS hI hp => ok_on rfl (does_val (x_bin rfl ((hp.get 3 (by rfl) rfl rfl)) ((hp.get 5 (by rfl) rfl rfl)) (delay_Exchange_Sent.neq52 _ _ _ a0_3 a0_4 a0_5 a0_6 a1 0 true false)) rfl)) ?_
      exact Steps.nil
    clear hS
    intro at6 w7 hS hI hp
    have hBw7_w := hI.1
    have hBw7_w3 := hI.2
    replace hS := (((hS.nil).cons (hS.get 3 rfl)).cons (hS.get 1 rfl)).cons (hS.get 0 rfl)
    have hv13 : sl _ 13 = .bool (!((a0_3 == a1) && ((a0_4 == 0) && ((a0_5 == true) && (a0_6 == false))))) := hp 6 (by decide)
    have hBw7_w7 := Below.refl w7.heap.size w7
    have hS := hS.cons hv13
    clear hp hI hv13
    refine hK5 _ _ ?_
    clear hK5 K5
    refine wp_cond_true ((hS.get 0 rfl).trans (bT (congrArg (!·) (Bool.eq_false_iff.2 c1)))) ?_
    refine wp_seq_k (fun K8 hK8 => ?_)
    replace hS := (((hS.nil).cons (hS.get 3 rfl)).cons (hS.get 2 rfl)).cons (hS.get 0 rfl)
    refine reg_seq (N := 23) (bs := [(13, .bool (!((a0_3 == a1) && ((a0_4 == 0) && ((a0_5 == true) && (a0_6 == false)))))), (0, .pointer (some ⟨g0, 0, none⟩)), (2, .int .i64 a2)]) (I := fun x => Below w.heap.size w x ∧ Below w7.heap.size w7 x) (ps := [IsV (.bool false)]) (by kernel_rfl) ?_ ?_ rfl hS ⟨hBw7_w, hBw7_w7⟩ ?_ ?_
    · exact fun x y hI hb => ⟨below_step hI.1 hb, below_step hI.2 hb⟩
    · exact AllStay.cons (Stays.v _) (AllStay.nil)
    · refine Steps.cons (fun a w hS hI hp => ok_on rfl (does_val (x_assign rfl (rfl)) rfl)) ?_
      exact Steps.nil
    clear hS
    intro at9 w10 hS hI hp
    have hBw10_w := hI.1
    have hBw10_w7 := hI.2
    have hv6 : sl _ 6 = .bool false := hp 0 (by decide)
    have hBw10_w10 := Below.refl w10.heap.size w10
    have hS := hS.cons hv6
    clear hp hI hv6
    refine hK8 _ _ ?_
    clear hK8 K8
    refine wp_ret ?_
    (try simp only [Exit.then, Exit.inBlock])
    exact bodyPost_ret (v := .bool false) (results_single rfl (Vals.at (hS.get 0 rfl) .nil)) hS.nodef ⟨rfl, ((hBw10_w.block g0 (blk_lt HP0)).trans HP0), (Tch.more (Tch.refl _ _) hBw10_w)⟩

/-! ### delay_Exchange_Clear: function 16: by our own printer -/
def delay_Exchange_Clear.f (a0_0 : Int) (a0_1 : Int) (a0_2 : Int) (a0_3 : Int) (a0_4 : Int) (a0_5 : Bool) (a0_6 : Bool) : Option (Int × Int × Int × Int × Int × Bool × Bool) := some (a0_0, a0_1, a0_2, 0, 0, false, false)
open Go.Proofs.Ytpfjpfbhgeoadaa.E in
set_option maxHeartbeats 8000000 in
set_option maxRecDepth 100000 in
theorem delay_Exchange_Clear.calls (g0 : Nat) (a0_0 : Int) (a0_1 : Int) (a0_2 : Int) (a0_3 : Int) (a0_4 : Int) (a0_5 : Bool) (a0_6 : Bool) (r1 : Int) (r2 : Int) (r3 : Int) (r4 : Int) (r5 : Int) (r6 : Bool) (r7 : Bool) (w : World) (HP0 : w.heap[g0]? = some (.cells #[.int .u64 a0_0, .int .i64 a0_1, .int .i64 a0_2, .int .i64 a0_3, .int .i64 a0_4, .bool a0_5, .bool a0_6] 54 (0, 0))) (h : delay_Exchange_Clear.f a0_0 a0_1 a0_2 a0_3 a0_4 a0_5 a0_6 = some (r1, r2, r3, r4, r5, r6, r7)) :
    Calls Try.prog 16 #[.pointer (some ⟨g0, 0, none⟩)] w fun e w' => e = .returned (.tuple #[]) ∧ w'.heap[g0]? = some (.cells #[.int .u64 r1, .int .i64 r2, .int .i64 r3, .int .i64 r4, .int .i64 r5, .bool r6, .bool r7] 54 (0, 0)) ∧ Tch g0 w w' := by
  have H := h
  clear h
  unfold delay_Exchange_Clear.f at H
  simp only [Option.some.injEq, Prod.mk.injEq] at H
  obtain ⟨rfl, rfl, rfl, rfl, rfl, rfl, rfl⟩ := H
  refine calls_of_wp (fn := Try.f16) (by kernel_rfl) rfl ?_
  have hS := St.enter #[.pointer (some ⟨g0, 0, none⟩)] 6 (by simp) [(0, .pointer (some ⟨g0, 0, none⟩))] (by simp)
  have HB0 := Below.refl w.heap.size w
  refine reg_seq_tail 4 (N := 6) (bs := [(0, .pointer (some ⟨g0, 0, none⟩))]) (I := fun x => Below w.heap.size w x) (ps := [IsV (.pointer (some ⟨g0, 0, none⟩)), IsV (.agg #[.int .i64 0, .int .i64 0, .bool false, .bool false]), IsV (.pointer (some ⟨g0, 0, none⟩)), IsV (.pointer (some ⟨g0, 3, none⟩))]) (by kernel_rfl) ?_ ?_ rfl hS HB0 ?_ ?_
  · exact fun x y hI hb => below_step hI hb
  · exact AllStay.cons (Stays.v _) (AllStay.cons (Stays.v _) (AllStay.cons (Stays.v _) (AllStay.cons (Stays.v _) (AllStay.nil))))
  · refine Steps.cons (fun a w hS hI hp => ok_on rfl (does_val (x_move rfl (hS.get 0 rfl)) rfl)) ?_
    refine Steps.cons (fun a w hS hI hp => ok_on rfl (does_val (x_build (vs := []) rfl (by rw [Array.toList_map]; exact (show [] = _ from rfl)) (by kernel_rfl)) rfl)) ?_
    refine Steps.cons (fun a w hS hI hp => ok_on rfl (does_val (x_nilck rfl ((hp.get 0 (by rfl) rfl rfl))) rfl)) ?_
    refine Steps.cons (fun a w hS hI hp => ok_on rfl (does_val (x_field rfl ((hp.get 2 (by rfl) rfl rfl)) Try.underlying54 rfl (by kernel_rfl)) rfl)) ?_
    exact Steps.nil
  clear hS
  intro at1 w2 hS hI hp
  have hBw2_w := hI
  replace hS := hS.nil
  have hv3 : sl _ 3 = .agg #[.int .i64 0, .int .i64 0, .bool false, .bool false] := hp 1 (by decide)
  have hv5 : sl _ 5 = .pointer (some ⟨g0, 3, none⟩) := hp 3 (by decide)
  have hBw2_w2 := Below.refl w2.heap.size w2
  have hS := hS.cons hv3
  have hS := hS.cons hv5
  clear hp hI hv3 hv5
  show wpList _ _ _ [_] _ _
  refine list_step rfl (does_store (g := g0) (off := 3) (v := .agg #[.int .i64 0, .int .i64 0, .bool false, .bool false]) (new := #[.int .u64 a0_0, .int .i64 a0_1, .int .i64 a0_2, .int .i64 0, .int .i64 0, .bool false, .bool false]) rfl (hS.get 0 rfl) (hS.get 1 rfl) ((hBw2_w.block g0 (blk_lt HP0)).trans HP0) (by kernel_rfl) (by kernel_rfl) (by kernel_rfl) (by kernel_rfl)) ?_
  rintro vw3 w3 ⟨rfl, hbxw3, hT⟩
  have hTw3 := (Tch.more (Tch.refl _ _) hBw2_w).trans hT
  have hBw3_w3 := Below.refl w3.heap.size w3
  clear hT
  refine wpList_nil ?_
  (try simp only [Exit.then, Exit.inBlock])
  exact bodyPost_end (v := .tuple #[]) (results_list (rs := []) rfl (by simp) .nil) hS.nodef ⟨rfl, ((hBw3_w3.block g0 (blk_lt hbxw3)).trans hbxw3), (Tch.more hTw3 hBw3_w3)⟩

/-! ### stamp_Floor: function 24 -/
def stamp_Floor.f (a0 : Int) : Option (Int) := some (a0 / 65536)
set_option maxHeartbeats 8000000 in
set_option maxRecDepth 100000 in
theorem stamp_Floor.calls (a0 : Int) (r : Int) (w : World) (h : stamp_Floor.f a0 = some r) :
    Calls Try.prog 24 #[.int .i64 a0] w fun e w' => e = .returned (.int .i64 r) ∧ Drawn0 w w' := by
  have H : (some (a0 / 65536)) = some r := h
  clear h
  obtain rfl := Option.some.inj H
  go_enter Try.func24, Try.ntmps24
  go_wp2
  all_goals
    go_ret
    exact ⟨by first | rfl | (simp; done) | (simp [*]; done), by repeat (first | exact Drawn0.refl _ | apply Drawn0.step)⟩

end Go.Proofs.Ytpfjpfbhgeoadaa.P
