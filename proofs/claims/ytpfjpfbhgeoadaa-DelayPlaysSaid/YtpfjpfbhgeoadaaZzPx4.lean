/- Functions and loops of the given program as Lean functions, and that the code comes to what they say: written by this session's own program; Lean checks it. -/
import Derived.Test.YtpfjpfbhgeoadaaZzPx0
import Derived.Test.YtpfjpfbhgeoadaaZzPx1
import Derived.Test.YtpfjpfbhgeoadaaZzPx2
namespace Go.Proofs.Ytpfjpfbhgeoadaa.P
open Go.RowKit Go.Proofs.YtpfjpfbhgeoadaaW.PrintWords Go.Proofs.YtpfjpfbhgeoadaaW.PrintLast Go.Proofs.YtpfjpfbhgeoadaaW.PrintMore
attribute [local go_sem] max2_int min2_int max_two min_two max_three min_three max_four min_four   -- for this text's walks alone
set_option linter.unusedVariables false
set_option linter.unusedSimpArgs false
/-! ### carillonlaw17_awake: function 20: by our own printer -/
def carillonlaw17_awake.f  : Option (Bool) := (delay_New.f 1 1 0).bind fun t5 => ((delay_Exchange_Request.f t5.1 t5.2.1 t5.2.2.1 t5.2.2.2.1 t5.2.2.2.2.1 t5.2.2.2.2.2.1 t5.2.2.2.2.2.2 7 0).bind fun t17 => ((delay_Exchange_Sent.f t17.2.2.2.2.2.2.2.2.2.2.2.2.2.2.2.2.2.2.2.2.2.2.2.1 t17.2.2.2.2.2.2.2.2.2.2.2.2.2.2.2.2.2.2.2.2.2.2.2.2.1 t17.2.2.2.2.2.2.2.2.2.2.2.2.2.2.2.2.2.2.2.2.2.2.2.2.2.1 t17.2.2.2.2.2.2.2.2.2.2.2.2.2.2.2.2.2.2.2.2.2.2.2.2.2.2.1 t17.2.2.2.2.2.2.2.2.2.2.2.2.2.2.2.2.2.2.2.2.2.2.2.2.2.2.2.1 t17.2.2.2.2.2.2.2.2.2.2.2.2.2.2.2.2.2.2.2.2.2.2.2.2.2.2.2.2.1 t17.2.2.2.2.2.2.2.2.2.2.2.2.2.2.2.2.2.2.2.2.2.2.2.2.2.2.2.2.2 7 100).bind fun t28 => ((delay_Exchange_Response.f t28.2.1 t28.2.2.1 t28.2.2.2.1 t28.2.2.2.2.1 t28.2.2.2.2.2.1 t28.2.2.2.2.2.2.1 t28.2.2.2.2.2.2.2 9 0 0 0 0 0 7 0 160 1 1 0 0 0 0 0 0 0 0 0 0 0 0).bind fun t37 => (if t17.1 = 1 then (if t28.1 = true then (if t37.2.1 = true then (some (decide (t37.1 = 60))) else (some false)) else (some false)) else (some false)))))
abbrev carillonlaw17_awake.c0 (x0 x1 x2 x3 x4 : Int) (x5 x6 : Bool) : Array Value := #[.int .u64 x0, .int .i64 x1, .int .i64 x2, .int .i64 x3, .int .i64 x4, .bool x5, .bool x6]
abbrev carillonlaw17_awake.v1 (x0 x1 x2 x3 x4 x5 x6 x7 x8 x9 x10 x11 x12 x13 x14 x15 x16 x17 x18 x19 x20 x21 x22 : Int) : Value := .agg #[.int .i64 x0, .int .i64 x1, .int .i64 x2, .int .i64 x3, .int .u64 x4, .int .i64 x5, .int .i64 x6, .int .i64 x7, .int .i64 x8, .int .u64 x9, .int .i64 x10, .int .i64 x11, .int .i64 x12, .int .i64 x13, .int .i64 x14, .int .i64 x15, .int .i64 x16, .int .u64 x17, .int .i64 x18, .int .i64 x19, .int .i64 x20, .int .i64 x21, .int .i64 x22]
abbrev carillonlaw17_awake.c2 (x0 x1 x2 x3 x4 x5 x6 x7 x8 x9 x10 x11 x12 x13 x14 x15 x16 x17 x18 x19 x20 x21 x22 : Int) : Array Value := #[.int .i64 x0, .int .i64 x1, .int .i64 x2, .int .i64 x3, .int .u64 x4, .int .i64 x5, .int .i64 x6, .int .i64 x7, .int .i64 x8, .int .u64 x9, .int .i64 x10, .int .i64 x11, .int .i64 x12, .int .i64 x13, .int .i64 x14, .int .i64 x15, .int .i64 x16, .int .u64 x17, .int .i64 x18, .int .i64 x19, .int .i64 x20, .int .i64 x21, .int .i64 x22]
open Go.Proofs.Ytpfjpfbhgeoadaa.E in
set_option maxHeartbeats 60000000 in
set_option maxRecDepth 100000 in
theorem carillonlaw17_awake.calls (r : Bool) (w : World) (h : carillonlaw17_awake.f  = some r) :
    Calls Try.prog 20 #[] w fun e w' => e = .returned (.bool r) ∧ Below w.heap.size w w' := by
  have H := h
  clear h
  unfold carillonlaw17_awake.f at H
  obtain ⟨t5, At5, H⟩ := Option.bind_eq_some_iff.mp H
  obtain ⟨t5_1, t5_2, t5_3, t5_4, t5_5, t5_6, t5_7⟩ := t5
  (try dsimp only at H)
  obtain ⟨t17, At17, H⟩ := Option.bind_eq_some_iff.mp H
  obtain ⟨t17_1, t17_2, t17_3, t17_4, t17_5, t17_6, t17_7, t17_8, t17_9, t17_10, t17_11, t17_12, t17_13, t17_14, t17_15, t17_16, t17_17, t17_18, t17_19, t17_20, t17_21, t17_22, t17_23, t17_24, t17_25, t17_26, t17_27, t17_28, t17_29, t17_30⟩ := t17
  (try dsimp only at H)
  obtain ⟨t28, At28, H⟩ := Option.bind_eq_some_iff.mp H
  obtain ⟨t28_1, t28_2, t28_3, t28_4, t28_5, t28_6, t28_7, t28_8⟩ := t28
  (try dsimp only at H)
  obtain ⟨t37, At37, H⟩ := Option.bind_eq_some_iff.mp H
  obtain ⟨t37_1, t37_2, t37_3, t37_4, t37_5, t37_6, t37_7, t37_8, t37_9⟩ := t37
  (try dsimp only at H)
  by_cases c1 : t17_1 = 1
  rotate_left
  · rw [if_neg c1] at H
    obtain rfl := Option.some.inj H
    refine calls_of_wp (fn := Try.f20) (by kernel_rfl) rfl ?_
    have hS := St.enter #[] 34 (by simp) [] (by simp)
    have HB0 := Below.refl w.heap.size w
    refine wp_seq_k (fun K1 hK1 => ?_)
    refine reg_seq (N := 34) (bs := []) (I := fun x => Below w.heap.size w x) (ps := [VB false]) (by kernel_rfl) ?_ ?_ rfl hS HB0 ?_ ?_
    · exact fun x y hI hb => below_step hI hb
    · exact .v (.nil)
    · refine .on rfl (fun a w hS hI hp => does_val (x_assign rfl (rfl)) rfl) ?_
      exact .nil
    clear hS
    intro at2 w3 hS hI hp
    have hBw3_w := hI
    have hBw3_w3 := Below.refl w3.heap.size w3
    clear hp hI
    refine hK1 _ _ ?_
    (try clear hK1 K1)
    refine wp_seq_k (fun K4 hK4 => ?_)
    refine reg_seq (N := 34) (bs := []) (I := fun x => Below w.heap.size w x ∧ Below w3.heap.size w3 x) (ps := [IsV (.agg #[.int .u64 1, .int .i64 1]), IsB (carillonlaw17_awake.c0 t5_1 t5_2 t5_3 t5_4 t5_5 t5_6 t5_7) 54 w3.heap.size, IsB (carillonlaw17_awake.c0 t5_1 t5_2 t5_3 t5_4 t5_5 t5_6 t5_7) 54 w3.heap.size]) (by kernel_rfl) ?_ ?_ rfl hS ⟨hBw3_w, hBw3_w3⟩ ?_ ?_
    · exact fun x y hI hb => ⟨below_step hI.1 hb, below_step hI.2 hb⟩
    · exact .v (.cons (Stays.b _ _ _) (.cons (Stays.b _ _ _) (.nil)))
    · refine .on rfl (fun a w hS hI hp => does_val (x_build (vs := [(0, .int .u64 1), (1, .int .i64 1)]) rfl (by rw [Array.toList_map]; exact (show [(0, a.eval (.const (.int .u64 1))), (1, a.eval (.const (.int .i64 1)))] = _ from (li_cons (rfl) (li_cons (rfl) rfl)))) (by kernel_rfl)) rfl) ?_
      refine .on rfl (fun a w hS hI hp => does_call (by kernel_rfl) (ar2 (hp.V 0 rfl rfl) (rfl)) ((delay_New.calls 1 1 0 t5_1 t5_2 t5_3 t5_4 t5_5 t5_6 t5_7 _  At5).mono fun _ _ h => h.elim fun g_ h => ⟨_, h.1, h.2.2.2, g_, rfl, Nat.le_trans hI.2.size h.2.1, h.2.2.1⟩)) ?_
      refine .on rfl (fun a w hS hI hp => does_val (x_assign rfl rfl) (hp.V 1 rfl rfl)) ?_
      exact .nil
    clear hS
    intro at6 w7 hS hI hp
    have hBw7_w := hI.1
    have hBw7_w3 := hI.2
    obtain ⟨g8, hv1, hgeg8, hbxg8⟩ := (show IsB _ 54 _ (sl _ 1) _ from hp 2 (by decide))
    have hBw7_w7 := Below.refl w7.heap.size w7
    have hS := hS.cons hv1
    clear hp hI hv1
    refine hK4 _ _ ?_
    (try clear hK4 K4)
    refine wp_seq_k (fun K9 hK9 => ?_)
    refine wp_seq_k (fun K10 hK10 => ?_)
    refine reg_seq (N := 34) (bs := [(1, .pointer (some ⟨g8, 0, none⟩))]) (I := fun x => Below w.heap.size w x ∧ Below w3.heap.size w3 x ∧ Below w7.heap.size w7 x) (ps := [VP g8 0, VB false]) (by kernel_rfl) ?_ ?_ rfl hS ⟨hBw7_w, hBw7_w3, hBw7_w7⟩ ?_ ?_
    · exact fun x y hI hb => ⟨below_step hI.1 hb, below_step hI.2.1 hb, below_step hI.2.2 hb⟩
    · exact .v (.v (.nil))
    · refine .ms 0 rfl rfl rfl ?_
      refine .on rfl (fun a w hS hI hp => does_val (x_bin rfl (hp.V 0 rfl rfl) (rfl) (b_eqp 26 54 _ _ _ Try.underlying26)) rfl) ?_
      exact .nil
    clear hS
    intro at11 w12 hS hI hp
    have hBw12_w := hI.1
    have hBw12_w3 := hI.2.1
    have hBw12_w7 := hI.2.2
    have hv9 : sl _ 9 = .bool false := hp 1 (by decide)
    have hBw12_w12 := Below.refl w12.heap.size w12
    have hS := hS.cons hv9
    clear hp hI hv9
    refine hK10 _ _ ?_
    (try clear hK10 K10)
    refine wp_cond_false ((hS.get 0 rfl).trans (bF rfl)) ?_
    refine wp_skip ?_
    refine hK9 _ _ ?_
    (try clear hK9 K9)
    refine wp_seq_k (fun K13 hK13 => ?_)
    refine reg_seq_tail 1 (N := 34) (bs := [(9, .bool false), (1, .pointer (some ⟨g8, 0, none⟩))]) (I := fun x => Below w.heap.size w x ∧ Below w3.heap.size w3 x ∧ Below w7.heap.size w7 x ∧ Below w12.heap.size w12 x) (ps := [VP g8 0]) (by kernel_rfl) ?_ ?_ rfl hS ⟨hBw12_w, hBw12_w3, hBw12_w7, hBw12_w12⟩ ?_ ?_
    · exact fun x y hI hb => ⟨below_step hI.1 hb, below_step hI.2.1 hb, below_step hI.2.2.1 hb, below_step hI.2.2.2 hb⟩
    · exact .v (.nil)
    · refine .ms 1 rfl rfl rfl ?_
      exact .nil
    clear hS
    intro at14 w15 hS hI hp
    have hBw15_w := hI.1
    have hBw15_w3 := hI.2.1
    have hBw15_w7 := hI.2.2.1
    have hBw15_w12 := hI.2.2.2
    replace hS := (hS.nil).cons (hS.get 1 rfl)
    have hv10 : sl _ 10 = .pointer (some ⟨g8, 0, none⟩) := hp 0 (by decide)
    have hBw15_w15 := Below.refl w15.heap.size w15
    have hS := hS.cons hv10
    clear hp hI hv10
    show wpList _ _ _ [_, _, _] _ _
    refine list_step rfl (R := fun v w' => v = (carillonlaw17_awake.v1 t17_1 t17_2 t17_3 t17_4 t17_5 t17_6 t17_7 t17_8 t17_9 t17_10 t17_11 t17_12 t17_13 t17_14 t17_15 t17_16 t17_17 t17_18 t17_19 t17_20 t17_21 t17_22 t17_23) ∧ w'.heap[g8]? = some (.cells (carillonlaw17_awake.c0 t17_24 t17_25 t17_26 t17_27 t17_28 t17_29 t17_30) 54 (0, 0)) ∧ Tch g8 _ w') (does_call (by kernel_rfl) (ar3 (hS.get 0 rfl) (rfl) (rfl)) ((delay_Exchange_Request.calls g8 t5_1 t5_2 t5_3 t5_4 t5_5 t5_6 t5_7 7 0 t17_1 t17_2 t17_3 t17_4 t17_5 t17_6 t17_7 t17_8 t17_9 t17_10 t17_11 t17_12 t17_13 t17_14 t17_15 t17_16 t17_17 t17_18 t17_19 t17_20 t17_21 t17_22 t17_23 t17_24 t17_25 t17_26 t17_27 t17_28 t17_29 t17_30 _ ((hBw15_w7.block g8 (blk_lt hbxg8)).trans hbxg8) At17).mono fun _ _ h => ⟨_, h.1, rfl, h.2⟩)) ?_
    rintro vw16 w16 ⟨rfl, hbxw16, hT⟩
    have hBw16_w := hT.below hBw15_w (Nat.le_trans (hBw3_w).size hgeg8) (hBw15_w).size
    have hBw16_w3 := hT.below hBw15_w3 hgeg8 (hBw15_w3).size
    have hBw16_w16 := Below.refl w16.heap.size w16
    clear hT
    refine hS.next (v := (carillonlaw17_awake.v1 t17_1 t17_2 t17_3 t17_4 t17_5 t17_6 t17_7 t17_8 t17_9 t17_10 t17_11 t17_12 t17_13 t17_14 t17_15 t17_16 t17_17 t17_18 t17_19 t17_20 t17_21 t17_22 t17_23)) (d := 11) rfl (by decide) (by rfl) ?_
    clear hS
    intro at18 hS
    refine list_step rfl (R := fun v w' => Below _ _ w' ∧ (IsB (carillonlaw17_awake.c2 0 0 0 0 0 0 0 0 0 0 0 0 0 0 0 0 0 0 0 0 0 0 0) 34 w16.heap.size) v w') (does_var (x_alloc rfl (by kernel_rfl)) (hBw16_w16).size) ?_
    rintro vw19 w19 ⟨hb, he⟩
    have hBw19_w := below_step hBw16_w hb
    have hBw19_w3 := below_step hBw16_w3 hb
    have hBw19_w16 := below_step hBw16_w16 hb
    have hBw19_w19 := Below.refl w19.heap.size w19
    obtain ⟨g20, rfl, hgeg20, hbxg20⟩ := he
    have hne21 : g20 ≠ g8 := Nat.ne_of_gt (Nat.lt_of_lt_of_le (blk_lt ((hBw16_w16.block g8 (blk_lt hbxw16)).trans hbxw16)) hgeg20)
    refine hS.next (v := .pointer (some ⟨g20, 0, none⟩)) (d := 2) rfl (by decide) (by rfl) ?_
    clear hS
    intro at22 hS
    refine list_step rfl (does_storeAll (g := g20) (cs := (carillonlaw17_awake.c2 t17_1 t17_2 t17_3 t17_4 t17_5 t17_6 t17_7 t17_8 t17_9 t17_10 t17_11 t17_12 t17_13 t17_14 t17_15 t17_16 t17_17 t17_18 t17_19 t17_20 t17_21 t17_22 t17_23)) rfl (hS.get 0 rfl) (hS.get 1 rfl) ((hBw19_w19.block g20 (blk_lt hbxg20)).trans hbxg20) (by kernel_rfl) (by kernel_rfl) (by kernel_rfl)) ?_
    rintro vw23 w23 ⟨rfl, hbxw23, hT⟩
    have hBw23_w := hT.below hBw19_w (Nat.le_trans (hBw16_w).size hgeg20) (hBw19_w).size
    have hBw23_w3 := hT.below hBw19_w3 (Nat.le_trans (hBw16_w3).size hgeg20) (hBw19_w3).size
    have hBw23_w16 := hT.below hBw19_w16 hgeg20 (hBw19_w16).size
    have hBw23_w23 := Below.refl w23.heap.size w23
    clear hT
    refine wpList_nil ?_
    refine hK13 _ _ ?_
    (try clear hK13 K13)
    refine wp_seq_k (fun K24 hK24 => ?_)
    refine reg_seq_tail 1 (N := 34) (bs := [(2, .pointer (some ⟨g20, 0, none⟩)), (11, (carillonlaw17_awake.v1 t17_1 t17_2 t17_3 t17_4 t17_5 t17_6 t17_7 t17_8 t17_9 t17_10 t17_11 t17_12 t17_13 t17_14 t17_15 t17_16 t17_17 t17_18 t17_19 t17_20 t17_21 t17_22 t17_23)), (10, .pointer (some ⟨g8, 0, none⟩)), (1, .pointer (some ⟨g8, 0, none⟩))]) (I := fun x => Below w.heap.size w x ∧ Below w3.heap.size w3 x ∧ Below w16.heap.size w16 x ∧ Below w23.heap.size w23 x) (ps := [VP g8 0]) (by kernel_rfl) ?_ ?_ rfl hS ⟨hBw23_w, hBw23_w3, hBw23_w16, hBw23_w23⟩ ?_ ?_
    · exact fun x y hI hb => ⟨below_step hI.1 hb, below_step hI.2.1 hb, below_step hI.2.2.1 hb, below_step hI.2.2.2 hb⟩
    · exact .v (.nil)
    · refine .ms 3 rfl rfl rfl ?_
      exact .nil
    clear hS
    intro at25 w26 hS hI hp
    have hBw26_w := hI.1
    have hBw26_w3 := hI.2.1
    have hBw26_w16 := hI.2.2.1
    have hBw26_w23 := hI.2.2.2
    replace hS := ((hS.nil).cons (hS.get 3 rfl)).cons (hS.get 0 rfl)
    have hv12 : sl _ 12 = .pointer (some ⟨g8, 0, none⟩) := hp 0 (by decide)
    have hBw26_w26 := Below.refl w26.heap.size w26
    have hS := hS.cons hv12
    clear hp hI hv12
    show wpList _ _ _ [_, _] _ _
    refine list_step rfl (R := fun v w' => v = .bool t28_1 ∧ w'.heap[g8]? = some (.cells (carillonlaw17_awake.c0 t28_2 t28_3 t28_4 t28_5 t28_6 t28_7 t28_8) 54 (0, 0)) ∧ Tch g8 _ w') (does_call (by kernel_rfl) (ar3 (hS.get 0 rfl) (rfl) (rfl)) ((delay_Exchange_Sent.calls g8 t17_24 t17_25 t17_26 t17_27 t17_28 t17_29 t17_30 7 100 t28_1 t28_2 t28_3 t28_4 t28_5 t28_6 t28_7 t28_8 _ ((hBw26_w16.block g8 (blk_lt hbxw16)).trans hbxw16) At28).mono fun _ _ h => ⟨_, h.1, rfl, h.2⟩)) ?_
    rintro vw27 w27 ⟨rfl, hbxw27, hT⟩
    have hn29 := hT.blk ((hBw26_w23.block g20 (blk_lt hbxw23)).trans hbxw23) hne21
    have hBw27_w := hT.below hBw26_w (Nat.le_trans (hBw3_w).size hgeg8) (hBw26_w).size
    have hBw27_w3 := hT.below hBw26_w3 hgeg8 (hBw26_w3).size
    have hBw27_w27 := Below.refl w27.heap.size w27
    clear hT
    refine hS.next (v := .bool t28_1) (d := 13) rfl (by decide) (by rfl) ?_
    clear hS
    intro at30 hS
    refine list_step rfl (R := fun v w' => Below _ _ w' ∧ (VB t28_1) v w') (does_val (x_assign rfl (hS.get 0 rfl)) rfl) ?_
    rintro vw31 w31 ⟨hb, he⟩
    have hBw31_w := below_step hBw27_w hb
    have hBw31_w3 := below_step hBw27_w3 hb
    have hBw31_w27 := below_step hBw27_w27 hb
    have hBw31_w31 := Below.refl w31.heap.size w31
    obtain rfl : vw31 = .bool t28_1 := he
    refine hS.next (v := .bool t28_1) (d := 3) rfl (by decide) (by rfl) ?_
    clear hS
    intro at32 hS
    refine wpList_nil ?_
    refine hK24 _ _ ?_
    (try clear hK24 K24)
    refine wp_seq_k (fun K33 hK33 => ?_)
    refine reg_seq_tail 3 (N := 34) (bs := [(3, .bool t28_1), (13, .bool t28_1), (12, .pointer (some ⟨g8, 0, none⟩)), (2, .pointer (some ⟨g20, 0, none⟩)), (1, .pointer (some ⟨g8, 0, none⟩))]) (I := fun x => Below w.heap.size w x ∧ Below w3.heap.size w3 x ∧ Below w27.heap.size w27 x ∧ Below w31.heap.size w31 x) (ps := [VP g8 0, IsV (.agg #[.int .u64 1, .int .i64 1]), IsV ((carillonlaw17_awake.v1 9 0 0 0 0 0 7 0 160 1 1 0 0 0 0 0 0 0 0 0 0 0 0))]) (by kernel_rfl) ?_ ?_ rfl hS ⟨hBw31_w, hBw31_w3, hBw31_w27, hBw31_w31⟩ ?_ ?_
    · exact fun x y hI hb => ⟨below_step hI.1 hb, below_step hI.2.1 hb, below_step hI.2.2.1 hb, below_step hI.2.2.2 hb⟩
    · exact .v (.v (.v (.nil)))
    · refine .ms 4 rfl rfl rfl ?_
      refine .on rfl (fun a w hS hI hp => does_val (x_build (vs := [(0, .int .u64 1), (1, .int .i64 1)]) rfl (by rw [Array.toList_map]; exact (show [(0, a.eval (.const (.int .u64 1))), (1, a.eval (.const (.int .i64 1)))] = _ from (li_cons (rfl) (li_cons (rfl) rfl)))) (by kernel_rfl)) rfl) ?_
      refine .on rfl (fun a w hS hI hp => does_val (x_build (vs := [(0, .int .i64 9), (5, .int .i64 7), (7, .int .i64 160), (8, .agg #[.int .u64 1, .int .i64 1])]) rfl (by rw [Array.toList_map]; exact (show [(0, a.eval (.const (.int .i64 9))), (5, a.eval (.const (.int .i64 7))), (7, a.eval (.const (.int .i64 160))), (8, a.eval (.tmp 16))] = _ from (li_cons (rfl) (li_cons (rfl) (li_cons (rfl) (li_cons (hp.V 1 rfl rfl) rfl)))))) (by kernel_rfl)) rfl) ?_
      exact .nil
    clear hS
    intro at34 w35 hS hI hp
    have hBw35_w := hI.1
    have hBw35_w3 := hI.2.1
    have hBw35_w27 := hI.2.2.1
    have hBw35_w31 := hI.2.2.2
    replace hS := ((hS.nil).cons (hS.get 3 rfl)).cons (hS.get 0 rfl)
    have hv15 : sl _ 15 = .pointer (some ⟨g8, 0, none⟩) := hp 0 (by decide)
    have hv17 : sl _ 17 = (carillonlaw17_awake.v1 9 0 0 0 0 0 7 0 160 1 1 0 0 0 0 0 0 0 0 0 0 0 0) := hp 2 (by decide)
    have hBw35_w35 := Below.refl w35.heap.size w35
    have hS := hS.cons hv15
    have hS := hS.cons hv17
    clear hp hI hv15 hv17
    show wpList _ _ _ [_, _, _, _, _, _] _ _
    refine list_step rfl (R := fun v w' => v = .tuple #[.int .i64 t37_1, .bool t37_2] ∧ w'.heap[g8]? = some (.cells (carillonlaw17_awake.c0 t37_3 t37_4 t37_5 t37_6 t37_7 t37_8 t37_9) 54 (0, 0)) ∧ Tch g8 _ w') (does_call (by kernel_rfl) (ar2 (hS.get 1 rfl) (hS.get 0 rfl)) ((delay_Exchange_Response.calls g8 t28_2 t28_3 t28_4 t28_5 t28_6 t28_7 t28_8 9 0 0 0 0 0 7 0 160 1 1 0 0 0 0 0 0 0 0 0 0 0 0 t37_1 t37_2 t37_3 t37_4 t37_5 t37_6 t37_7 t37_8 t37_9 _ ((hBw35_w27.block g8 (blk_lt hbxw27)).trans hbxw27) At37).mono fun _ _ h => ⟨_, h.1, rfl, h.2⟩)) ?_
    rintro vw36 w36 ⟨rfl, hbxw36, hT⟩
    have hn38 := hT.blk ((hBw35_w27.block g20 (blk_lt hn29)).trans hn29) hne21
    have hBw36_w := hT.below hBw35_w (Nat.le_trans (hBw3_w).size hgeg8) (hBw35_w).size
    have hBw36_w3 := hT.below hBw35_w3 hgeg8 (hBw35_w3).size
    have hBw36_w36 := Below.refl w36.heap.size w36
    clear hT
    refine hS.next (v := .tuple #[.int .i64 t37_1, .bool t37_2]) (d := 18) rfl (by decide) (by rfl) ?_
    clear hS
    intro at39 hS
    refine list_step rfl (R := fun v w' => Below _ _ w' ∧ (IsV (.tuple #[.int .i64 t37_1, .bool t37_2])) v w') (does_val (x_move rfl (hS.get 0 rfl)) rfl) ?_
    rintro vw40 w40 ⟨hb, he⟩
    have hBw40_w := below_step hBw36_w hb
    have hBw40_w3 := below_step hBw36_w3 hb
    have hBw40_w36 := below_step hBw36_w36 hb
    have hBw40_w40 := Below.refl w40.heap.size w40
    obtain rfl : vw40 = .tuple #[.int .i64 t37_1, .bool t37_2] := he
    refine hS.next (v := .tuple #[.int .i64 t37_1, .bool t37_2]) (d := 14) rfl (by decide) (by rfl) ?_
    clear hS
    intro at41 hS
    refine list_step rfl (R := fun v w' => Below _ _ w' ∧ (VI t37_1) v w') (does_val (x_extract rfl (hS.get 0 rfl) rfl) rfl) ?_
    rintro vw42 w42 ⟨hb, he⟩
    have hBw42_w := below_step hBw40_w hb
    have hBw42_w3 := below_step hBw40_w3 hb
    have hBw42_w36 := below_step hBw40_w36 hb
    have hBw42_w40 := below_step hBw40_w40 hb
    have hBw42_w42 := Below.refl w42.heap.size w42
    obtain rfl : vw42 = .int .i64 t37_1 := he
    refine hS.next (v := .int .i64 t37_1) (d := 19) rfl (by decide) (by rfl) ?_
    clear hS
    intro at43 hS
    refine list_step rfl (R := fun v w' => Below _ _ w' ∧ (VB t37_2) v w') (does_val (x_extract rfl (hS.get 1 rfl) rfl) rfl) ?_
    rintro vw44 w44 ⟨hb, he⟩
    have hBw44_w := below_step hBw42_w hb
    have hBw44_w3 := below_step hBw42_w3 hb
    have hBw44_w36 := below_step hBw42_w36 hb
    have hBw44_w42 := below_step hBw42_w42 hb
    have hBw44_w44 := Below.refl w44.heap.size w44
    obtain rfl : vw44 = .bool t37_2 := he
    refine hS.next (v := .bool t37_2) (d := 20) rfl (by decide) (by rfl) ?_
    clear hS
    intro at45 hS
    refine list_step rfl (R := fun v w' => Below _ _ w' ∧ (VI t37_1) v w') (does_val (x_assign rfl (hS.get 1 rfl)) rfl) ?_
    rintro vw46 w46 ⟨hb, he⟩
    have hBw46_w := below_step hBw44_w hb
    have hBw46_w3 := below_step hBw44_w3 hb
    have hBw46_w36 := below_step hBw44_w36 hb
    have hBw46_w44 := below_step hBw44_w44 hb
    have hBw46_w46 := Below.refl w46.heap.size w46
    obtain rfl : vw46 = .int .i64 t37_1 := he
    refine hS.next (v := .int .i64 t37_1) (d := 4) rfl (by decide) (by rfl) ?_
    clear hS
    intro at47 hS
    refine list_step rfl (R := fun v w' => Below _ _ w' ∧ (VB t37_2) v w') (does_val (x_assign rfl (hS.get 1 rfl)) rfl) ?_
    rintro vw48 w48 ⟨hb, he⟩
    have hBw48_w := below_step hBw46_w hb
    have hBw48_w3 := below_step hBw46_w3 hb
    have hBw48_w36 := below_step hBw46_w36 hb
    have hBw48_w46 := below_step hBw46_w46 hb
    have hBw48_w48 := Below.refl w48.heap.size w48
    obtain rfl : vw48 = .bool t37_2 := he
    refine hS.next (v := .bool t37_2) (d := 5) rfl (by decide) (by rfl) ?_
    clear hS
    intro at49 hS
    refine wpList_nil ?_
    refine hK33 _ _ ?_
    (try clear hK33 K33)
    refine wp_seq_k (fun K50 hK50 => ?_)
    refine reg_seq (N := 34) (bs := [(5, .bool t37_2), (4, .int .i64 t37_1), (20, .bool t37_2), (19, .int .i64 t37_1), (14, .tuple #[.int .i64 t37_1, .bool t37_2]), (18, .tuple #[.int .i64 t37_1, .bool t37_2]), (17, (carillonlaw17_awake.v1 9 0 0 0 0 0 7 0 160 1 1 0 0 0 0 0 0 0 0 0 0 0 0)), (15, .pointer (some ⟨g8, 0, none⟩)), (3, .bool t28_1), (2, .pointer (some ⟨g20, 0, none⟩))]) (I := fun x => Below w.heap.size w x ∧ Below w3.heap.size w3 x ∧ Below w36.heap.size w36 x ∧ Below w48.heap.size w48 x) (ps := [VP g20 0, VI t17_1, VB (decide (t17_1 = 1)), VB (decide (t17_1 = 1)), VU, VB false, VB false, VU, VB false, VB false, VU, VU, VB false, VB false]) (by kernel_rfl) ?_ ?_ rfl hS ⟨hBw48_w, hBw48_w3, hBw48_w36, hBw48_w48⟩ ?_ ?_
    · exact fun x y hI hb => ⟨below_step hI.1 hb, below_step hI.2.1 hb, below_step hI.2.2.1 hb, below_step hI.2.2.2 hb⟩
    · exact .v (.v (.v (.v (.v (.v (.v (.v (.v (.v (.v (.v (.v (.v (.nil))))))))))))))
    · refine .on rfl (fun a w hS hI hp => does_val (x_fieldE (b := 0) rfl (hS.get 9 rfl) Try.underlying34 rfl rfl (by kernel_rfl)) rfl) ?_
      refine .on rfl (fun a w hS hI hp => does_val (x_load1 (d := .int .i64) rfl (hp.V 0 rfl rfl) (by kernel_rfl) rfl ((blk_cell (((hI.2.2.1).block g20 (blk_lt hn38)).trans hn38) 0).trans rfl)) rfl) ?_
      refine .on rfl (fun a w hS hI hp => does_val (x_bin rfl (hp.V 1 rfl rfl) (rfl) (b_eql _ _ _ _ _ _)) rfl) ?_
      refine .mv 2 rfl rfl rfl rfl ?_
      refine .sn 3 24 rfl rfl rfl rfl rfl ((decide_eq_false c1)) ?_
      refine .pf 3 rfl rfl rfl rfl ((decide_eq_false c1)) (fun _ => rfl) ?_
      refine .mv 5 rfl rfl rfl rfl ?_
      refine .sn 6 27 rfl rfl rfl rfl rfl rfl ?_
      refine .pf 6 rfl rfl rfl rfl rfl (fun _ => rfl) ?_
      refine .mv 8 rfl rfl rfl rfl ?_
      iterate 2 refine .sn 9 30 rfl rfl rfl rfl rfl rfl ?_
      refine .pf 9 rfl rfl rfl rfl rfl (fun _ => rfl) ?_
      refine .asg 12 rfl rfl rfl rfl ?_
      exact .nil
    clear hS
    intro at51 w52 hS hI hp
    have hBw52_w := hI.1
    have hBw52_w3 := hI.2.1
    have hBw52_w36 := hI.2.2.1
    have hBw52_w48 := hI.2.2.2
    replace hS := hS.nil
    have hv0 : sl _ 0 = .bool false := hp 13 (by decide)
    have hBw52_w52 := Below.refl w52.heap.size w52
    have hS := hS.cons hv0
    clear hp hI hv0
    refine hK50 _ _ ?_
    (try clear hK50 K50)
    refine wp_ret ?_
    (try simp only [Exit.then, Exit.inBlock, Exit.jump, Exit.noGoto])
    exact bodyPost_ret (v := .bool false) (results_single rfl (Vals.at (hS.get 0 rfl) .nil)) hS.nodef ⟨rfl, hBw52_w⟩
  rw [if_pos c1] at H
  by_cases c2 : t28_1 = true
  rotate_left
  · rw [if_neg c2] at H
    obtain rfl := Option.some.inj H
    refine calls_of_wp (fn := Try.f20) (by kernel_rfl) rfl ?_
    have hS := St.enter #[] 34 (by simp) [] (by simp)
    have HB0 := Below.refl w.heap.size w
    refine wp_seq_k (fun K1 hK1 => ?_)
    refine reg_seq (N := 34) (bs := []) (I := fun x => Below w.heap.size w x) (ps := [VB false]) (by kernel_rfl) ?_ ?_ rfl hS HB0 ?_ ?_
    · exact fun x y hI hb => below_step hI hb
    · exact .v (.nil)
    · refine .on rfl (fun a w hS hI hp => does_val (x_assign rfl (rfl)) rfl) ?_
      exact .nil
    clear hS
    intro at2 w3 hS hI hp
    have hBw3_w := hI
    have hBw3_w3 := Below.refl w3.heap.size w3
    clear hp hI
    refine hK1 _ _ ?_
    (try clear hK1 K1)
    refine wp_seq_k (fun K4 hK4 => ?_)
    refine reg_seq (N := 34) (bs := []) (I := fun x => Below w.heap.size w x ∧ Below w3.heap.size w3 x) (ps := [IsV (.agg #[.int .u64 1, .int .i64 1]), IsB (carillonlaw17_awake.c0 t5_1 t5_2 t5_3 t5_4 t5_5 t5_6 t5_7) 54 w3.heap.size, IsB (carillonlaw17_awake.c0 t5_1 t5_2 t5_3 t5_4 t5_5 t5_6 t5_7) 54 w3.heap.size]) (by kernel_rfl) ?_ ?_ rfl hS ⟨hBw3_w, hBw3_w3⟩ ?_ ?_
    · exact fun x y hI hb => ⟨below_step hI.1 hb, below_step hI.2 hb⟩
    · exact .v (.cons (Stays.b _ _ _) (.cons (Stays.b _ _ _) (.nil)))
    · refine .on rfl (fun a w hS hI hp => does_val (x_build (vs := [(0, .int .u64 1), (1, .int .i64 1)]) rfl (by rw [Array.toList_map]; exact (show [(0, a.eval (.const (.int .u64 1))), (1, a.eval (.const (.int .i64 1)))] = _ from (li_cons (rfl) (li_cons (rfl) rfl)))) (by kernel_rfl)) rfl) ?_
      refine .on rfl (fun a w hS hI hp => does_call (by kernel_rfl) (ar2 (hp.V 0 rfl rfl) (rfl)) ((delay_New.calls 1 1 0 t5_1 t5_2 t5_3 t5_4 t5_5 t5_6 t5_7 _  At5).mono fun _ _ h => h.elim fun g_ h => ⟨_, h.1, h.2.2.2, g_, rfl, Nat.le_trans hI.2.size h.2.1, h.2.2.1⟩)) ?_
      refine .on rfl (fun a w hS hI hp => does_val (x_assign rfl rfl) (hp.V 1 rfl rfl)) ?_
      exact .nil
    clear hS
    intro at6 w7 hS hI hp
    have hBw7_w := hI.1
    have hBw7_w3 := hI.2
    obtain ⟨g8, hv1, hgeg8, hbxg8⟩ := (show IsB _ 54 _ (sl _ 1) _ from hp 2 (by decide))
    have hBw7_w7 := Below.refl w7.heap.size w7
    have hS := hS.cons hv1
    clear hp hI hv1
    refine hK4 _ _ ?_
    (try clear hK4 K4)
    refine wp_seq_k (fun K9 hK9 => ?_)
    refine wp_seq_k (fun K10 hK10 => ?_)
    refine reg_seq (N := 34) (bs := [(1, .pointer (some ⟨g8, 0, none⟩))]) (I := fun x => Below w.heap.size w x ∧ Below w3.heap.size w3 x ∧ Below w7.heap.size w7 x) (ps := [VP g8 0, VB false]) (by kernel_rfl) ?_ ?_ rfl hS ⟨hBw7_w, hBw7_w3, hBw7_w7⟩ ?_ ?_
    · exact fun x y hI hb => ⟨below_step hI.1 hb, below_step hI.2.1 hb, below_step hI.2.2 hb⟩
    · exact .v (.v (.nil))
    · refine .ms 0 rfl rfl rfl ?_
      refine .on rfl (fun a w hS hI hp => does_val (x_bin rfl (hp.V 0 rfl rfl) (rfl) (b_eqp 26 54 _ _ _ Try.underlying26)) rfl) ?_
      exact .nil
    clear hS
    intro at11 w12 hS hI hp
    have hBw12_w := hI.1
    have hBw12_w3 := hI.2.1
    have hBw12_w7 := hI.2.2
    have hv9 : sl _ 9 = .bool false := hp 1 (by decide)
    have hBw12_w12 := Below.refl w12.heap.size w12
    have hS := hS.cons hv9
    clear hp hI hv9
    refine hK10 _ _ ?_
    (try clear hK10 K10)
    refine wp_cond_false ((hS.get 0 rfl).trans (bF rfl)) ?_
    refine wp_skip ?_
    refine hK9 _ _ ?_
    (try clear hK9 K9)
    refine wp_seq_k (fun K13 hK13 => ?_)
    refine reg_seq_tail 1 (N := 34) (bs := [(9, .bool false), (1, .pointer (some ⟨g8, 0, none⟩))]) (I := fun x => Below w.heap.size w x ∧ Below w3.heap.size w3 x ∧ Below w7.heap.size w7 x ∧ Below w12.heap.size w12 x) (ps := [VP g8 0]) (by kernel_rfl) ?_ ?_ rfl hS ⟨hBw12_w, hBw12_w3, hBw12_w7, hBw12_w12⟩ ?_ ?_
    · exact fun x y hI hb => ⟨below_step hI.1 hb, below_step hI.2.1 hb, below_step hI.2.2.1 hb, below_step hI.2.2.2 hb⟩
    · exact .v (.nil)
    · refine .ms 1 rfl rfl rfl ?_
      exact .nil
    clear hS
    intro at14 w15 hS hI hp
    have hBw15_w := hI.1
    have hBw15_w3 := hI.2.1
    have hBw15_w7 := hI.2.2.1
    have hBw15_w12 := hI.2.2.2
    replace hS := (hS.nil).cons (hS.get 1 rfl)
    have hv10 : sl _ 10 = .pointer (some ⟨g8, 0, none⟩) := hp 0 (by decide)
    have hBw15_w15 := Below.refl w15.heap.size w15
    have hS := hS.cons hv10
    clear hp hI hv10
    show wpList _ _ _ [_, _, _] _ _
    refine list_step rfl (R := fun v w' => v = (carillonlaw17_awake.v1 t17_1 t17_2 t17_3 t17_4 t17_5 t17_6 t17_7 t17_8 t17_9 t17_10 t17_11 t17_12 t17_13 t17_14 t17_15 t17_16 t17_17 t17_18 t17_19 t17_20 t17_21 t17_22 t17_23) ∧ w'.heap[g8]? = some (.cells (carillonlaw17_awake.c0 t17_24 t17_25 t17_26 t17_27 t17_28 t17_29 t17_30) 54 (0, 0)) ∧ Tch g8 _ w') (does_call (by kernel_rfl) (ar3 (hS.get 0 rfl) (rfl) (rfl)) ((delay_Exchange_Request.calls g8 t5_1 t5_2 t5_3 t5_4 t5_5 t5_6 t5_7 7 0 t17_1 t17_2 t17_3 t17_4 t17_5 t17_6 t17_7 t17_8 t17_9 t17_10 t17_11 t17_12 t17_13 t17_14 t17_15 t17_16 t17_17 t17_18 t17_19 t17_20 t17_21 t17_22 t17_23 t17_24 t17_25 t17_26 t17_27 t17_28 t17_29 t17_30 _ ((hBw15_w7.block g8 (blk_lt hbxg8)).trans hbxg8) At17).mono fun _ _ h => ⟨_, h.1, rfl, h.2⟩)) ?_
    rintro vw16 w16 ⟨rfl, hbxw16, hT⟩
    have hBw16_w := hT.below hBw15_w (Nat.le_trans (hBw3_w).size hgeg8) (hBw15_w).size
    have hBw16_w3 := hT.below hBw15_w3 hgeg8 (hBw15_w3).size
    have hBw16_w16 := Below.refl w16.heap.size w16
    clear hT
    refine hS.next (v := (carillonlaw17_awake.v1 t17_1 t17_2 t17_3 t17_4 t17_5 t17_6 t17_7 t17_8 t17_9 t17_10 t17_11 t17_12 t17_13 t17_14 t17_15 t17_16 t17_17 t17_18 t17_19 t17_20 t17_21 t17_22 t17_23)) (d := 11) rfl (by decide) (by rfl) ?_
    clear hS
    intro at18 hS
    refine list_step rfl (R := fun v w' => Below _ _ w' ∧ (IsB (carillonlaw17_awake.c2 0 0 0 0 0 0 0 0 0 0 0 0 0 0 0 0 0 0 0 0 0 0 0) 34 w16.heap.size) v w') (does_var (x_alloc rfl (by kernel_rfl)) (hBw16_w16).size) ?_
    rintro vw19 w19 ⟨hb, he⟩
    have hBw19_w := below_step hBw16_w hb
    have hBw19_w3 := below_step hBw16_w3 hb
    have hBw19_w16 := below_step hBw16_w16 hb
    have hBw19_w19 := Below.refl w19.heap.size w19
    obtain ⟨g20, rfl, hgeg20, hbxg20⟩ := he
    have hne21 : g20 ≠ g8 := Nat.ne_of_gt (Nat.lt_of_lt_of_le (blk_lt ((hBw16_w16.block g8 (blk_lt hbxw16)).trans hbxw16)) hgeg20)
    refine hS.next (v := .pointer (some ⟨g20, 0, none⟩)) (d := 2) rfl (by decide) (by rfl) ?_
    clear hS
    intro at22 hS
    refine list_step rfl (does_storeAll (g := g20) (cs := (carillonlaw17_awake.c2 t17_1 t17_2 t17_3 t17_4 t17_5 t17_6 t17_7 t17_8 t17_9 t17_10 t17_11 t17_12 t17_13 t17_14 t17_15 t17_16 t17_17 t17_18 t17_19 t17_20 t17_21 t17_22 t17_23)) rfl (hS.get 0 rfl) (hS.get 1 rfl) ((hBw19_w19.block g20 (blk_lt hbxg20)).trans hbxg20) (by kernel_rfl) (by kernel_rfl) (by kernel_rfl)) ?_
    rintro vw23 w23 ⟨rfl, hbxw23, hT⟩
    have hBw23_w := hT.below hBw19_w (Nat.le_trans (hBw16_w).size hgeg20) (hBw19_w).size
    have hBw23_w3 := hT.below hBw19_w3 (Nat.le_trans (hBw16_w3).size hgeg20) (hBw19_w3).size
    have hBw23_w16 := hT.below hBw19_w16 hgeg20 (hBw19_w16).size
    have hBw23_w23 := Below.refl w23.heap.size w23
    clear hT
    refine wpList_nil ?_
    refine hK13 _ _ ?_
    (try clear hK13 K13)
    refine wp_seq_k (fun K24 hK24 => ?_)
    refine reg_seq_tail 1 (N := 34) (bs := [(2, .pointer (some ⟨g20, 0, none⟩)), (11, (carillonlaw17_awake.v1 t17_1 t17_2 t17_3 t17_4 t17_5 t17_6 t17_7 t17_8 t17_9 t17_10 t17_11 t17_12 t17_13 t17_14 t17_15 t17_16 t17_17 t17_18 t17_19 t17_20 t17_21 t17_22 t17_23)), (10, .pointer (some ⟨g8, 0, none⟩)), (1, .pointer (some ⟨g8, 0, none⟩))]) (I := fun x => Below w.heap.size w x ∧ Below w3.heap.size w3 x ∧ Below w16.heap.size w16 x ∧ Below w23.heap.size w23 x) (ps := [VP g8 0]) (by kernel_rfl) ?_ ?_ rfl hS ⟨hBw23_w, hBw23_w3, hBw23_w16, hBw23_w23⟩ ?_ ?_
    · exact fun x y hI hb => ⟨below_step hI.1 hb, below_step hI.2.1 hb, below_step hI.2.2.1 hb, below_step hI.2.2.2 hb⟩
    · exact .v (.nil)
    · refine .ms 3 rfl rfl rfl ?_
      exact .nil
    clear hS
    intro at25 w26 hS hI hp
    have hBw26_w := hI.1
    have hBw26_w3 := hI.2.1
    have hBw26_w16 := hI.2.2.1
    have hBw26_w23 := hI.2.2.2
    replace hS := ((hS.nil).cons (hS.get 3 rfl)).cons (hS.get 0 rfl)
    have hv12 : sl _ 12 = .pointer (some ⟨g8, 0, none⟩) := hp 0 (by decide)
    have hBw26_w26 := Below.refl w26.heap.size w26
    have hS := hS.cons hv12
    clear hp hI hv12
    show wpList _ _ _ [_, _] _ _
    refine list_step rfl (R := fun v w' => v = .bool t28_1 ∧ w'.heap[g8]? = some (.cells (carillonlaw17_awake.c0 t28_2 t28_3 t28_4 t28_5 t28_6 t28_7 t28_8) 54 (0, 0)) ∧ Tch g8 _ w') (does_call (by kernel_rfl) (ar3 (hS.get 0 rfl) (rfl) (rfl)) ((delay_Exchange_Sent.calls g8 t17_24 t17_25 t17_26 t17_27 t17_28 t17_29 t17_30 7 100 t28_1 t28_2 t28_3 t28_4 t28_5 t28_6 t28_7 t28_8 _ ((hBw26_w16.block g8 (blk_lt hbxw16)).trans hbxw16) At28).mono fun _ _ h => ⟨_, h.1, rfl, h.2⟩)) ?_
    rintro vw27 w27 ⟨rfl, hbxw27, hT⟩
    have hn29 := hT.blk ((hBw26_w23.block g20 (blk_lt hbxw23)).trans hbxw23) hne21
    have hBw27_w := hT.below hBw26_w (Nat.le_trans (hBw3_w).size hgeg8) (hBw26_w).size
    have hBw27_w3 := hT.below hBw26_w3 hgeg8 (hBw26_w3).size
    have hBw27_w27 := Below.refl w27.heap.size w27
    clear hT
    refine hS.next (v := .bool t28_1) (d := 13) rfl (by decide) (by rfl) ?_
    clear hS
    intro at30 hS
    refine list_step rfl (R := fun v w' => Below _ _ w' ∧ (VB t28_1) v w') (does_val (x_assign rfl (hS.get 0 rfl)) rfl) ?_
    rintro vw31 w31 ⟨hb, he⟩
    have hBw31_w := below_step hBw27_w hb
    have hBw31_w3 := below_step hBw27_w3 hb
    have hBw31_w27 := below_step hBw27_w27 hb
    have hBw31_w31 := Below.refl w31.heap.size w31
    obtain rfl : vw31 = .bool t28_1 := he
    refine hS.next (v := .bool t28_1) (d := 3) rfl (by decide) (by rfl) ?_
    clear hS
    intro at32 hS
    refine wpList_nil ?_
    refine hK24 _ _ ?_
    (try clear hK24 K24)
    refine wp_seq_k (fun K33 hK33 => ?_)
    refine reg_seq_tail 3 (N := 34) (bs := [(3, .bool t28_1), (13, .bool t28_1), (12, .pointer (some ⟨g8, 0, none⟩)), (2, .pointer (some ⟨g20, 0, none⟩)), (1, .pointer (some ⟨g8, 0, none⟩))]) (I := fun x => Below w.heap.size w x ∧ Below w3.heap.size w3 x ∧ Below w27.heap.size w27 x ∧ Below w31.heap.size w31 x) (ps := [VP g8 0, IsV (.agg #[.int .u64 1, .int .i64 1]), IsV ((carillonlaw17_awake.v1 9 0 0 0 0 0 7 0 160 1 1 0 0 0 0 0 0 0 0 0 0 0 0))]) (by kernel_rfl) ?_ ?_ rfl hS ⟨hBw31_w, hBw31_w3, hBw31_w27, hBw31_w31⟩ ?_ ?_
    · exact fun x y hI hb => ⟨below_step hI.1 hb, below_step hI.2.1 hb, below_step hI.2.2.1 hb, below_step hI.2.2.2 hb⟩
    · exact .v (.v (.v (.nil)))
    · refine .ms 4 rfl rfl rfl ?_
      refine .on rfl (fun a w hS hI hp => does_val (x_build (vs := [(0, .int .u64 1), (1, .int .i64 1)]) rfl (by rw [Array.toList_map]; exact (show [(0, a.eval (.const (.int .u64 1))), (1, a.eval (.const (.int .i64 1)))] = _ from (li_cons (rfl) (li_cons (rfl) rfl)))) (by kernel_rfl)) rfl) ?_
      refine .on rfl (fun a w hS hI hp => does_val (x_build (vs := [(0, .int .i64 9), (5, .int .i64 7), (7, .int .i64 160), (8, .agg #[.int .u64 1, .int .i64 1])]) rfl (by rw [Array.toList_map]; exact (show [(0, a.eval (.const (.int .i64 9))), (5, a.eval (.const (.int .i64 7))), (7, a.eval (.const (.int .i64 160))), (8, a.eval (.tmp 16))] = _ from (li_cons (rfl) (li_cons (rfl) (li_cons (rfl) (li_cons (hp.V 1 rfl rfl) rfl)))))) (by kernel_rfl)) rfl) ?_
      exact .nil
    clear hS
    intro at34 w35 hS hI hp
    have hBw35_w := hI.1
    have hBw35_w3 := hI.2.1
    have hBw35_w27 := hI.2.2.1
    have hBw35_w31 := hI.2.2.2
    replace hS := ((hS.nil).cons (hS.get 3 rfl)).cons (hS.get 0 rfl)
    have hv15 : sl _ 15 = .pointer (some ⟨g8, 0, none⟩) := hp 0 (by decide)
    have hv17 : sl _ 17 = (carillonlaw17_awake.v1 9 0 0 0 0 0 7 0 160 1 1 0 0 0 0 0 0 0 0 0 0 0 0) := hp 2 (by decide)
    have hBw35_w35 := Below.refl w35.heap.size w35
    have hS := hS.cons hv15
    have hS := hS.cons hv17
    clear hp hI hv15 hv17
    show wpList _ _ _ [_, _, _, _, _, _] _ _
    refine list_step rfl (R := fun v w' => v = .tuple #[.int .i64 t37_1, .bool t37_2] ∧ w'.heap[g8]? = some (.cells (carillonlaw17_awake.c0 t37_3 t37_4 t37_5 t37_6 t37_7 t37_8 t37_9) 54 (0, 0)) ∧ Tch g8 _ w') (does_call (by kernel_rfl) (ar2 (hS.get 1 rfl) (hS.get 0 rfl)) ((delay_Exchange_Response.calls g8 t28_2 t28_3 t28_4 t28_5 t28_6 t28_7 t28_8 9 0 0 0 0 0 7 0 160 1 1 0 0 0 0 0 0 0 0 0 0 0 0 t37_1 t37_2 t37_3 t37_4 t37_5 t37_6 t37_7 t37_8 t37_9 _ ((hBw35_w27.block g8 (blk_lt hbxw27)).trans hbxw27) At37).mono fun _ _ h => ⟨_, h.1, rfl, h.2⟩)) ?_
    rintro vw36 w36 ⟨rfl, hbxw36, hT⟩
    have hn38 := hT.blk ((hBw35_w27.block g20 (blk_lt hn29)).trans hn29) hne21
    have hBw36_w := hT.below hBw35_w (Nat.le_trans (hBw3_w).size hgeg8) (hBw35_w).size
    have hBw36_w3 := hT.below hBw35_w3 hgeg8 (hBw35_w3).size
    have hBw36_w36 := Below.refl w36.heap.size w36
    clear hT
    refine hS.next (v := .tuple #[.int .i64 t37_1, .bool t37_2]) (d := 18) rfl (by decide) (by rfl) ?_
    clear hS
    intro at39 hS
    refine list_step rfl (R := fun v w' => Below _ _ w' ∧ (IsV (.tuple #[.int .i64 t37_1, .bool t37_2])) v w') (does_val (x_move rfl (hS.get 0 rfl)) rfl) ?_
    rintro vw40 w40 ⟨hb, he⟩
    have hBw40_w := below_step hBw36_w hb
    have hBw40_w3 := below_step hBw36_w3 hb
    have hBw40_w36 := below_step hBw36_w36 hb
    have hBw40_w40 := Below.refl w40.heap.size w40
    obtain rfl : vw40 = .tuple #[.int .i64 t37_1, .bool t37_2] := he
    refine hS.next (v := .tuple #[.int .i64 t37_1, .bool t37_2]) (d := 14) rfl (by decide) (by rfl) ?_
    clear hS
    intro at41 hS
    refine list_step rfl (R := fun v w' => Below _ _ w' ∧ (VI t37_1) v w') (does_val (x_extract rfl (hS.get 0 rfl) rfl) rfl) ?_
    rintro vw42 w42 ⟨hb, he⟩
    have hBw42_w := below_step hBw40_w hb
    have hBw42_w3 := below_step hBw40_w3 hb
    have hBw42_w36 := below_step hBw40_w36 hb
    have hBw42_w40 := below_step hBw40_w40 hb
    have hBw42_w42 := Below.refl w42.heap.size w42
    obtain rfl : vw42 = .int .i64 t37_1 := he
    refine hS.next (v := .int .i64 t37_1) (d := 19) rfl (by decide) (by rfl) ?_
    clear hS
    intro at43 hS
    refine list_step rfl (R := fun v w' => Below _ _ w' ∧ (VB t37_2) v w') (does_val (x_extract rfl (hS.get 1 rfl) rfl) rfl) ?_
    rintro vw44 w44 ⟨hb, he⟩
    have hBw44_w := below_step hBw42_w hb
    have hBw44_w3 := below_step hBw42_w3 hb
    have hBw44_w36 := below_step hBw42_w36 hb
    have hBw44_w42 := below_step hBw42_w42 hb
    have hBw44_w44 := Below.refl w44.heap.size w44
    obtain rfl : vw44 = .bool t37_2 := he
    refine hS.next (v := .bool t37_2) (d := 20) rfl (by decide) (by rfl) ?_
    clear hS
    intro at45 hS
    refine list_step rfl (R := fun v w' => Below _ _ w' ∧ (VI t37_1) v w') (does_val (x_assign rfl (hS.get 1 rfl)) rfl) ?_
    rintro vw46 w46 ⟨hb, he⟩
    have hBw46_w := below_step hBw44_w hb
    have hBw46_w3 := below_step hBw44_w3 hb
    have hBw46_w36 := below_step hBw44_w36 hb
    have hBw46_w44 := below_step hBw44_w44 hb
    have hBw46_w46 := Below.refl w46.heap.size w46
    obtain rfl : vw46 = .int .i64 t37_1 := he
    refine hS.next (v := .int .i64 t37_1) (d := 4) rfl (by decide) (by rfl) ?_
    clear hS
    intro at47 hS
    refine list_step rfl (R := fun v w' => Below _ _ w' ∧ (VB t37_2) v w') (does_val (x_assign rfl (hS.get 1 rfl)) rfl) ?_
    rintro vw48 w48 ⟨hb, he⟩
    have hBw48_w := below_step hBw46_w hb
    have hBw48_w3 := below_step hBw46_w3 hb
    have hBw48_w36 := below_step hBw46_w36 hb
    have hBw48_w46 := below_step hBw46_w46 hb
    have hBw48_w48 := Below.refl w48.heap.size w48
    obtain rfl : vw48 = .bool t37_2 := he
    refine hS.next (v := .bool t37_2) (d := 5) rfl (by decide) (by rfl) ?_
    clear hS
    intro at49 hS
    refine wpList_nil ?_
    refine hK33 _ _ ?_
    (try clear hK33 K33)
    refine wp_seq_k (fun K50 hK50 => ?_)
    refine reg_seq (N := 34) (bs := [(5, .bool t37_2), (4, .int .i64 t37_1), (20, .bool t37_2), (19, .int .i64 t37_1), (14, .tuple #[.int .i64 t37_1, .bool t37_2]), (18, .tuple #[.int .i64 t37_1, .bool t37_2]), (17, (carillonlaw17_awake.v1 9 0 0 0 0 0 7 0 160 1 1 0 0 0 0 0 0 0 0 0 0 0 0)), (15, .pointer (some ⟨g8, 0, none⟩)), (3, .bool t28_1), (2, .pointer (some ⟨g20, 0, none⟩))]) (I := fun x => Below w.heap.size w x ∧ Below w3.heap.size w3 x ∧ Below w36.heap.size w36 x ∧ Below w48.heap.size w48 x) (ps := [VP g20 0, VI t17_1, VB (decide (t17_1 = 1)), VB (decide (t17_1 = 1)), VB t28_1, VB t28_1, VB t28_1, VU, VB false, VB false, VU, VU, VB false, VB false]) (by kernel_rfl) ?_ ?_ rfl hS ⟨hBw48_w, hBw48_w3, hBw48_w36, hBw48_w48⟩ ?_ ?_
    · exact fun x y hI hb => ⟨below_step hI.1 hb, below_step hI.2.1 hb, below_step hI.2.2.1 hb, below_step hI.2.2.2 hb⟩
    · exact .v (.v (.v (.v (.v (.v (.v (.v (.v (.v (.v (.v (.v (.v (.nil))))))))))))))
    · refine .on rfl (fun a w hS hI hp => does_val (x_fieldE (b := 0) rfl (hS.get 9 rfl) Try.underlying34 rfl rfl (by kernel_rfl)) rfl) ?_
      refine .on rfl (fun a w hS hI hp => does_val (x_load1 (d := .int .i64) rfl (hp.V 0 rfl rfl) (by kernel_rfl) rfl ((blk_cell (((hI.2.2.1).block g20 (blk_lt hn38)).trans hn38) 0).trans rfl)) rfl) ?_
      refine .on rfl (fun a w hS hI hp => does_val (x_bin rfl (hp.V 1 rfl rfl) (rfl) (b_eql _ _ _ _ _ _)) rfl) ?_
      refine .mv 2 rfl rfl rfl rfl ?_
      refine .oy 3 24 rfl rfl rfl rfl rfl ((decide_eq_true c1)) (fun a w hS hI hp => does_val (x_move rfl (hS.get 8 rfl)) rfl) ?_
      refine .pt 3 4 rfl rfl rfl rfl ((decide_eq_true c1)) rfl rfl ?_
      refine .mv 5 rfl rfl rfl rfl ?_
      refine .sn 6 27 rfl rfl rfl rfl rfl ((Bool.eq_false_iff.2 c2)) ?_
      refine .pf 6 rfl rfl rfl rfl ((Bool.eq_false_iff.2 c2)) (fun _ => rfl) ?_
      refine .mv 8 rfl rfl rfl rfl ?_
      iterate 2 refine .sn 9 30 rfl rfl rfl rfl rfl rfl ?_
      refine .pf 9 rfl rfl rfl rfl rfl (fun _ => rfl) ?_
      refine .asg 12 rfl rfl rfl rfl ?_
      exact .nil
    clear hS
    intro at51 w52 hS hI hp
    have hBw52_w := hI.1
    have hBw52_w3 := hI.2.1
    have hBw52_w36 := hI.2.2.1
    have hBw52_w48 := hI.2.2.2
    replace hS := hS.nil
    have hv0 : sl _ 0 = .bool false := hp 13 (by decide)
    have hBw52_w52 := Below.refl w52.heap.size w52
    have hS := hS.cons hv0
    clear hp hI hv0
    refine hK50 _ _ ?_
    (try clear hK50 K50)
    refine wp_ret ?_
    (try simp only [Exit.then, Exit.inBlock, Exit.jump, Exit.noGoto])
    exact bodyPost_ret (v := .bool false) (results_single rfl (Vals.at (hS.get 0 rfl) .nil)) hS.nodef ⟨rfl, hBw52_w⟩
  rw [if_pos c2] at H
  by_cases c3 : t37_2 = true
  · rw [if_pos c3] at H
    obtain rfl := Option.some.inj H
    refine calls_of_wp (fn := Try.f20) (by kernel_rfl) rfl ?_
    have hS := St.enter #[] 34 (by simp) [] (by simp)
    have HB0 := Below.refl w.heap.size w
    refine wp_seq_k (fun K1 hK1 => ?_)
    refine reg_seq (N := 34) (bs := []) (I := fun x => Below w.heap.size w x) (ps := [VB false]) (by kernel_rfl) ?_ ?_ rfl hS HB0 ?_ ?_
    · exact fun x y hI hb => below_step hI hb
    · exact .v (.nil)
    · refine .on rfl (fun a w hS hI hp => does_val (x_assign rfl (rfl)) rfl) ?_
      exact .nil
    clear hS
    intro at2 w3 hS hI hp
    have hBw3_w := hI
    have hBw3_w3 := Below.refl w3.heap.size w3
    clear hp hI
    refine hK1 _ _ ?_
    (try clear hK1 K1)
    refine wp_seq_k (fun K4 hK4 => ?_)
    refine reg_seq (N := 34) (bs := []) (I := fun x => Below w.heap.size w x ∧ Below w3.heap.size w3 x) (ps := [IsV (.agg #[.int .u64 1, .int .i64 1]), IsB (carillonlaw17_awake.c0 t5_1 t5_2 t5_3 t5_4 t5_5 t5_6 t5_7) 54 w3.heap.size, IsB (carillonlaw17_awake.c0 t5_1 t5_2 t5_3 t5_4 t5_5 t5_6 t5_7) 54 w3.heap.size]) (by kernel_rfl) ?_ ?_ rfl hS ⟨hBw3_w, hBw3_w3⟩ ?_ ?_
    · exact fun x y hI hb => ⟨below_step hI.1 hb, below_step hI.2 hb⟩
    · exact .v (.cons (Stays.b _ _ _) (.cons (Stays.b _ _ _) (.nil)))
    · refine .on rfl (fun a w hS hI hp => does_val (x_build (vs := [(0, .int .u64 1), (1, .int .i64 1)]) rfl (by rw [Array.toList_map]; exact (show [(0, a.eval (.const (.int .u64 1))), (1, a.eval (.const (.int .i64 1)))] = _ from (li_cons (rfl) (li_cons (rfl) rfl)))) (by kernel_rfl)) rfl) ?_
      refine .on rfl (fun a w hS hI hp => does_call (by kernel_rfl) (ar2 (hp.V 0 rfl rfl) (rfl)) ((delay_New.calls 1 1 0 t5_1 t5_2 t5_3 t5_4 t5_5 t5_6 t5_7 _  At5).mono fun _ _ h => h.elim fun g_ h => ⟨_, h.1, h.2.2.2, g_, rfl, Nat.le_trans hI.2.size h.2.1, h.2.2.1⟩)) ?_
      refine .on rfl (fun a w hS hI hp => does_val (x_assign rfl rfl) (hp.V 1 rfl rfl)) ?_
      exact .nil
    clear hS
    intro at6 w7 hS hI hp
    have hBw7_w := hI.1
    have hBw7_w3 := hI.2
    obtain ⟨g8, hv1, hgeg8, hbxg8⟩ := (show IsB _ 54 _ (sl _ 1) _ from hp 2 (by decide))
    have hBw7_w7 := Below.refl w7.heap.size w7
    have hS := hS.cons hv1
    clear hp hI hv1
    refine hK4 _ _ ?_
    (try clear hK4 K4)
    refine wp_seq_k (fun K9 hK9 => ?_)
    refine wp_seq_k (fun K10 hK10 => ?_)
    refine reg_seq (N := 34) (bs := [(1, .pointer (some ⟨g8, 0, none⟩))]) (I := fun x => Below w.heap.size w x ∧ Below w3.heap.size w3 x ∧ Below w7.heap.size w7 x) (ps := [VP g8 0, VB false]) (by kernel_rfl) ?_ ?_ rfl hS ⟨hBw7_w, hBw7_w3, hBw7_w7⟩ ?_ ?_
    · exact fun x y hI hb => ⟨below_step hI.1 hb, below_step hI.2.1 hb, below_step hI.2.2 hb⟩
    · exact .v (.v (.nil))
    · refine .ms 0 rfl rfl rfl ?_
      refine .on rfl (fun a w hS hI hp => does_val (x_bin rfl (hp.V 0 rfl rfl) (rfl) (b_eqp 26 54 _ _ _ Try.underlying26)) rfl) ?_
      exact .nil
    clear hS
    intro at11 w12 hS hI hp
    have hBw12_w := hI.1
    have hBw12_w3 := hI.2.1
    have hBw12_w7 := hI.2.2
    have hv9 : sl _ 9 = .bool false := hp 1 (by decide)
    have hBw12_w12 := Below.refl w12.heap.size w12
    have hS := hS.cons hv9
    clear hp hI hv9
    refine hK10 _ _ ?_
    (try clear hK10 K10)
    refine wp_cond_false ((hS.get 0 rfl).trans (bF rfl)) ?_
    refine wp_skip ?_
    refine hK9 _ _ ?_
    (try clear hK9 K9)
    refine wp_seq_k (fun K13 hK13 => ?_)
    refine reg_seq_tail 1 (N := 34) (bs := [(9, .bool false), (1, .pointer (some ⟨g8, 0, none⟩))]) (I := fun x => Below w.heap.size w x ∧ Below w3.heap.size w3 x ∧ Below w7.heap.size w7 x ∧ Below w12.heap.size w12 x) (ps := [VP g8 0]) (by kernel_rfl) ?_ ?_ rfl hS ⟨hBw12_w, hBw12_w3, hBw12_w7, hBw12_w12⟩ ?_ ?_
    · exact fun x y hI hb => ⟨below_step hI.1 hb, below_step hI.2.1 hb, below_step hI.2.2.1 hb, below_step hI.2.2.2 hb⟩
    · exact .v (.nil)
    · refine .ms 1 rfl rfl rfl ?_
      exact .nil
    clear hS
    intro at14 w15 hS hI hp
    have hBw15_w := hI.1
    have hBw15_w3 := hI.2.1
    have hBw15_w7 := hI.2.2.1
    have hBw15_w12 := hI.2.2.2
    replace hS := (hS.nil).cons (hS.get 1 rfl)
    have hv10 : sl _ 10 = .pointer (some ⟨g8, 0, none⟩) := hp 0 (by decide)
    have hBw15_w15 := Below.refl w15.heap.size w15
    have hS := hS.cons hv10
    clear hp hI hv10
    show wpList _ _ _ [_, _, _] _ _
    refine list_step rfl (R := fun v w' => v = (carillonlaw17_awake.v1 t17_1 t17_2 t17_3 t17_4 t17_5 t17_6 t17_7 t17_8 t17_9 t17_10 t17_11 t17_12 t17_13 t17_14 t17_15 t17_16 t17_17 t17_18 t17_19 t17_20 t17_21 t17_22 t17_23) ∧ w'.heap[g8]? = some (.cells (carillonlaw17_awake.c0 t17_24 t17_25 t17_26 t17_27 t17_28 t17_29 t17_30) 54 (0, 0)) ∧ Tch g8 _ w') (does_call (by kernel_rfl) (ar3 (hS.get 0 rfl) (rfl) (rfl)) ((delay_Exchange_Request.calls g8 t5_1 t5_2 t5_3 t5_4 t5_5 t5_6 t5_7 7 0 t17_1 t17_2 t17_3 t17_4 t17_5 t17_6 t17_7 t17_8 t17_9 t17_10 t17_11 t17_12 t17_13 t17_14 t17_15 t17_16 t17_17 t17_18 t17_19 t17_20 t17_21 t17_22 t17_23 t17_24 t17_25 t17_26 t17_27 t17_28 t17_29 t17_30 _ ((hBw15_w7.block g8 (blk_lt hbxg8)).trans hbxg8) At17).mono fun _ _ h => ⟨_, h.1, rfl, h.2⟩)) ?_
    rintro vw16 w16 ⟨rfl, hbxw16, hT⟩
    have hBw16_w := hT.below hBw15_w (Nat.le_trans (hBw3_w).size hgeg8) (hBw15_w).size
    have hBw16_w3 := hT.below hBw15_w3 hgeg8 (hBw15_w3).size
    have hBw16_w16 := Below.refl w16.heap.size w16
    clear hT
    refine hS.next (v := (carillonlaw17_awake.v1 t17_1 t17_2 t17_3 t17_4 t17_5 t17_6 t17_7 t17_8 t17_9 t17_10 t17_11 t17_12 t17_13 t17_14 t17_15 t17_16 t17_17 t17_18 t17_19 t17_20 t17_21 t17_22 t17_23)) (d := 11) rfl (by decide) (by rfl) ?_
    clear hS
    intro at18 hS
    refine list_step rfl (R := fun v w' => Below _ _ w' ∧ (IsB (carillonlaw17_awake.c2 0 0 0 0 0 0 0 0 0 0 0 0 0 0 0 0 0 0 0 0 0 0 0) 34 w16.heap.size) v w') (does_var (x_alloc rfl (by kernel_rfl)) (hBw16_w16).size) ?_
    rintro vw19 w19 ⟨hb, he⟩
    have hBw19_w := below_step hBw16_w hb
    have hBw19_w3 := below_step hBw16_w3 hb
    have hBw19_w16 := below_step hBw16_w16 hb
    have hBw19_w19 := Below.refl w19.heap.size w19
    obtain ⟨g20, rfl, hgeg20, hbxg20⟩ := he
    have hne21 : g20 ≠ g8 := Nat.ne_of_gt (Nat.lt_of_lt_of_le (blk_lt ((hBw16_w16.block g8 (blk_lt hbxw16)).trans hbxw16)) hgeg20)
    refine hS.next (v := .pointer (some ⟨g20, 0, none⟩)) (d := 2) rfl (by decide) (by rfl) ?_
    clear hS
    intro at22 hS
    refine list_step rfl (does_storeAll (g := g20) (cs := (carillonlaw17_awake.c2 t17_1 t17_2 t17_3 t17_4 t17_5 t17_6 t17_7 t17_8 t17_9 t17_10 t17_11 t17_12 t17_13 t17_14 t17_15 t17_16 t17_17 t17_18 t17_19 t17_20 t17_21 t17_22 t17_23)) rfl (hS.get 0 rfl) (hS.get 1 rfl) ((hBw19_w19.block g20 (blk_lt hbxg20)).trans hbxg20) (by kernel_rfl) (by kernel_rfl) (by kernel_rfl)) ?_
    rintro vw23 w23 ⟨rfl, hbxw23, hT⟩
    have hBw23_w := hT.below hBw19_w (Nat.le_trans (hBw16_w).size hgeg20) (hBw19_w).size
    have hBw23_w3 := hT.below hBw19_w3 (Nat.le_trans (hBw16_w3).size hgeg20) (hBw19_w3).size
    have hBw23_w16 := hT.below hBw19_w16 hgeg20 (hBw19_w16).size
    have hBw23_w23 := Below.refl w23.heap.size w23
    clear hT
    refine wpList_nil ?_
    refine hK13 _ _ ?_
    (try clear hK13 K13)
    refine wp_seq_k (fun K24 hK24 => ?_)
    refine reg_seq_tail 1 (N := 34) (bs := [(2, .pointer (some ⟨g20, 0, none⟩)), (11, (carillonlaw17_awake.v1 t17_1 t17_2 t17_3 t17_4 t17_5 t17_6 t17_7 t17_8 t17_9 t17_10 t17_11 t17_12 t17_13 t17_14 t17_15 t17_16 t17_17 t17_18 t17_19 t17_20 t17_21 t17_22 t17_23)), (10, .pointer (some ⟨g8, 0, none⟩)), (1, .pointer (some ⟨g8, 0, none⟩))]) (I := fun x => Below w.heap.size w x ∧ Below w3.heap.size w3 x ∧ Below w16.heap.size w16 x ∧ Below w23.heap.size w23 x) (ps := [VP g8 0]) (by kernel_rfl) ?_ ?_ rfl hS ⟨hBw23_w, hBw23_w3, hBw23_w16, hBw23_w23⟩ ?_ ?_
    · exact fun x y hI hb => ⟨below_step hI.1 hb, below_step hI.2.1 hb, below_step hI.2.2.1 hb, below_step hI.2.2.2 hb⟩
    · exact .v (.nil)
    · refine .ms 3 rfl rfl rfl ?_
      exact .nil
    clear hS
    intro at25 w26 hS hI hp
    have hBw26_w := hI.1
    have hBw26_w3 := hI.2.1
    have hBw26_w16 := hI.2.2.1
    have hBw26_w23 := hI.2.2.2
    replace hS := ((hS.nil).cons (hS.get 3 rfl)).cons (hS.get 0 rfl)
    have hv12 : sl _ 12 = .pointer (some ⟨g8, 0, none⟩) := hp 0 (by decide)
    have hBw26_w26 := Below.refl w26.heap.size w26
    have hS := hS.cons hv12
    clear hp hI hv12
    show wpList _ _ _ [_, _] _ _
    refine list_step rfl (R := fun v w' => v = .bool t28_1 ∧ w'.heap[g8]? = some (.cells (carillonlaw17_awake.c0 t28_2 t28_3 t28_4 t28_5 t28_6 t28_7 t28_8) 54 (0, 0)) ∧ Tch g8 _ w') (does_call (by kernel_rfl) (ar3 (hS.get 0 rfl) (rfl) (rfl)) ((delay_Exchange_Sent.calls g8 t17_24 t17_25 t17_26 t17_27 t17_28 t17_29 t17_30 7 100 t28_1 t28_2 t28_3 t28_4 t28_5 t28_6 t28_7 t28_8 _ ((hBw26_w16.block g8 (blk_lt hbxw16)).trans hbxw16) At28).mono fun _ _ h => ⟨_, h.1, rfl, h.2⟩)) ?_
    rintro vw27 w27 ⟨rfl, hbxw27, hT⟩
    have hn29 := hT.blk ((hBw26_w23.block g20 (blk_lt hbxw23)).trans hbxw23) hne21
    have hBw27_w := hT.below hBw26_w (Nat.le_trans (hBw3_w).size hgeg8) (hBw26_w).size
    have hBw27_w3 := hT.below hBw26_w3 hgeg8 (hBw26_w3).size
    have hBw27_w27 := Below.refl w27.heap.size w27
    clear hT
    refine hS.next (v := .bool t28_1) (d := 13) rfl (by decide) (by rfl) ?_
    clear hS
    intro at30 hS
    refine list_step rfl (R := fun v w' => Below _ _ w' ∧ (VB t28_1) v w') (does_val (x_assign rfl (hS.get 0 rfl)) rfl) ?_
    rintro vw31 w31 ⟨hb, he⟩
    have hBw31_w := below_step hBw27_w hb
    have hBw31_w3 := below_step hBw27_w3 hb
    have hBw31_w27 := below_step hBw27_w27 hb
    have hBw31_w31 := Below.refl w31.heap.size w31
    obtain rfl : vw31 = .bool t28_1 := he
    refine hS.next (v := .bool t28_1) (d := 3) rfl (by decide) (by rfl) ?_
    clear hS
    intro at32 hS
    refine wpList_nil ?_
    refine hK24 _ _ ?_
    (try clear hK24 K24)
    refine wp_seq_k (fun K33 hK33 => ?_)
    refine reg_seq_tail 3 (N := 34) (bs := [(3, .bool t28_1), (13, .bool t28_1), (12, .pointer (some ⟨g8, 0, none⟩)), (2, .pointer (some ⟨g20, 0, none⟩)), (1, .pointer (some ⟨g8, 0, none⟩))]) (I := fun x => Below w.heap.size w x ∧ Below w3.heap.size w3 x ∧ Below w27.heap.size w27 x ∧ Below w31.heap.size w31 x) (ps := [VP g8 0, IsV (.agg #[.int .u64 1, .int .i64 1]), IsV ((carillonlaw17_awake.v1 9 0 0 0 0 0 7 0 160 1 1 0 0 0 0 0 0 0 0 0 0 0 0))]) (by kernel_rfl) ?_ ?_ rfl hS ⟨hBw31_w, hBw31_w3, hBw31_w27, hBw31_w31⟩ ?_ ?_
    · exact fun x y hI hb => ⟨below_step hI.1 hb, below_step hI.2.1 hb, below_step hI.2.2.1 hb, below_step hI.2.2.2 hb⟩
    · exact .v (.v (.v (.nil)))
    · refine .ms 4 rfl rfl rfl ?_
      refine .on rfl (fun a w hS hI hp => does_val (x_build (vs := [(0, .int .u64 1), (1, .int .i64 1)]) rfl (by rw [Array.toList_map]; exact (show [(0, a.eval (.const (.int .u64 1))), (1, a.eval (.const (.int .i64 1)))] = _ from (li_cons (rfl) (li_cons (rfl) rfl)))) (by kernel_rfl)) rfl) ?_
      refine .on rfl (fun a w hS hI hp => does_val (x_build (vs := [(0, .int .i64 9), (5, .int .i64 7), (7, .int .i64 160), (8, .agg #[.int .u64 1, .int .i64 1])]) rfl (by rw [Array.toList_map]; exact (show [(0, a.eval (.const (.int .i64 9))), (5, a.eval (.const (.int .i64 7))), (7, a.eval (.const (.int .i64 160))), (8, a.eval (.tmp 16))] = _ from (li_cons (rfl) (li_cons (rfl) (li_cons (rfl) (li_cons (hp.V 1 rfl rfl) rfl)))))) (by kernel_rfl)) rfl) ?_
      exact .nil
    clear hS
    intro at34 w35 hS hI hp
    have hBw35_w := hI.1
    have hBw35_w3 := hI.2.1
    have hBw35_w27 := hI.2.2.1
    have hBw35_w31 := hI.2.2.2
    replace hS := ((hS.nil).cons (hS.get 3 rfl)).cons (hS.get 0 rfl)
    have hv15 : sl _ 15 = .pointer (some ⟨g8, 0, none⟩) := hp 0 (by decide)
    have hv17 : sl _ 17 = (carillonlaw17_awake.v1 9 0 0 0 0 0 7 0 160 1 1 0 0 0 0 0 0 0 0 0 0 0 0) := hp 2 (by decide)
    have hBw35_w35 := Below.refl w35.heap.size w35
    have hS := hS.cons hv15
    have hS := hS.cons hv17
    clear hp hI hv15 hv17
    show wpList _ _ _ [_, _, _, _, _, _] _ _
    refine list_step rfl (R := fun v w' => v = .tuple #[.int .i64 t37_1, .bool t37_2] ∧ w'.heap[g8]? = some (.cells (carillonlaw17_awake.c0 t37_3 t37_4 t37_5 t37_6 t37_7 t37_8 t37_9) 54 (0, 0)) ∧ Tch g8 _ w') (does_call (by kernel_rfl) (ar2 (hS.get 1 rfl) (hS.get 0 rfl)) ((delay_Exchange_Response.calls g8 t28_2 t28_3 t28_4 t28_5 t28_6 t28_7 t28_8 9 0 0 0 0 0 7 0 160 1 1 0 0 0 0 0 0 0 0 0 0 0 0 t37_1 t37_2 t37_3 t37_4 t37_5 t37_6 t37_7 t37_8 t37_9 _ ((hBw35_w27.block g8 (blk_lt hbxw27)).trans hbxw27) At37).mono fun _ _ h => ⟨_, h.1, rfl, h.2⟩)) ?_
    rintro vw36 w36 ⟨rfl, hbxw36, hT⟩
    have hn38 := hT.blk ((hBw35_w27.block g20 (blk_lt hn29)).trans hn29) hne21
    have hBw36_w := hT.below hBw35_w (Nat.le_trans (hBw3_w).size hgeg8) (hBw35_w).size
    have hBw36_w3 := hT.below hBw35_w3 hgeg8 (hBw35_w3).size
    have hBw36_w36 := Below.refl w36.heap.size w36
    clear hT
    refine hS.next (v := .tuple #[.int .i64 t37_1, .bool t37_2]) (d := 18) rfl (by decide) (by rfl) ?_
    clear hS
    intro at39 hS
    refine list_step rfl (R := fun v w' => Below _ _ w' ∧ (IsV (.tuple #[.int .i64 t37_1, .bool t37_2])) v w') (does_val (x_move rfl (hS.get 0 rfl)) rfl) ?_
    rintro vw40 w40 ⟨hb, he⟩
    have hBw40_w := below_step hBw36_w hb
    have hBw40_w3 := below_step hBw36_w3 hb
    have hBw40_w36 := below_step hBw36_w36 hb
    have hBw40_w40 := Below.refl w40.heap.size w40
    obtain rfl : vw40 = .tuple #[.int .i64 t37_1, .bool t37_2] := he
    refine hS.next (v := .tuple #[.int .i64 t37_1, .bool t37_2]) (d := 14) rfl (by decide) (by rfl) ?_
    clear hS
    intro at41 hS
    refine list_step rfl (R := fun v w' => Below _ _ w' ∧ (VI t37_1) v w') (does_val (x_extract rfl (hS.get 0 rfl) rfl) rfl) ?_
    rintro vw42 w42 ⟨hb, he⟩
    have hBw42_w := below_step hBw40_w hb
    have hBw42_w3 := below_step hBw40_w3 hb
    have hBw42_w36 := below_step hBw40_w36 hb
    have hBw42_w40 := below_step hBw40_w40 hb
    have hBw42_w42 := Below.refl w42.heap.size w42
    obtain rfl : vw42 = .int .i64 t37_1 := he
    refine hS.next (v := .int .i64 t37_1) (d := 19) rfl (by decide) (by rfl) ?_
    clear hS
    intro at43 hS
    refine list_step rfl (R := fun v w' => Below _ _ w' ∧ (VB t37_2) v w') (does_val (x_extract rfl (hS.get 1 rfl) rfl) rfl) ?_
    rintro vw44 w44 ⟨hb, he⟩
    have hBw44_w := below_step hBw42_w hb
    have hBw44_w3 := below_step hBw42_w3 hb
    have hBw44_w36 := below_step hBw42_w36 hb
    have hBw44_w42 := below_step hBw42_w42 hb
    have hBw44_w44 := Below.refl w44.heap.size w44
    obtain rfl : vw44 = .bool t37_2 := he
    refine hS.next (v := .bool t37_2) (d := 20) rfl (by decide) (by rfl) ?_
    clear hS
    intro at45 hS
    refine list_step rfl (R := fun v w' => Below _ _ w' ∧ (VI t37_1) v w') (does_val (x_assign rfl (hS.get 1 rfl)) rfl) ?_
    rintro vw46 w46 ⟨hb, he⟩
    have hBw46_w := below_step hBw44_w hb
    have hBw46_w3 := below_step hBw44_w3 hb
    have hBw46_w36 := below_step hBw44_w36 hb
    have hBw46_w44 := below_step hBw44_w44 hb
    have hBw46_w46 := Below.refl w46.heap.size w46
    obtain rfl : vw46 = .int .i64 t37_1 := he
    refine hS.next (v := .int .i64 t37_1) (d := 4) rfl (by decide) (by rfl) ?_
    clear hS
    intro at47 hS
    refine list_step rfl (R := fun v w' => Below _ _ w' ∧ (VB t37_2) v w') (does_val (x_assign rfl (hS.get 1 rfl)) rfl) ?_
    rintro vw48 w48 ⟨hb, he⟩
    have hBw48_w := below_step hBw46_w hb
    have hBw48_w3 := below_step hBw46_w3 hb
    have hBw48_w36 := below_step hBw46_w36 hb
    have hBw48_w46 := below_step hBw46_w46 hb
    have hBw48_w48 := Below.refl w48.heap.size w48
    obtain rfl : vw48 = .bool t37_2 := he
    refine hS.next (v := .bool t37_2) (d := 5) rfl (by decide) (by rfl) ?_
    clear hS
    intro at49 hS
    refine wpList_nil ?_
    refine hK33 _ _ ?_
    (try clear hK33 K33)
    refine wp_seq_k (fun K50 hK50 => ?_)
    refine reg_seq (N := 34) (bs := [(5, .bool t37_2), (4, .int .i64 t37_1), (20, .bool t37_2), (19, .int .i64 t37_1), (14, .tuple #[.int .i64 t37_1, .bool t37_2]), (18, .tuple #[.int .i64 t37_1, .bool t37_2]), (17, (carillonlaw17_awake.v1 9 0 0 0 0 0 7 0 160 1 1 0 0 0 0 0 0 0 0 0 0 0 0)), (15, .pointer (some ⟨g8, 0, none⟩)), (3, .bool t28_1), (2, .pointer (some ⟨g20, 0, none⟩))]) (I := fun x => Below w.heap.size w x ∧ Below w3.heap.size w3 x ∧ Below w36.heap.size w36 x ∧ Below w48.heap.size w48 x) (ps := [VP g20 0, VI t17_1, VB (decide (t17_1 = 1)), VB (decide (t17_1 = 1)), VB t28_1, VB t28_1, VB t28_1, VB t37_2, VB t37_2, VB t37_2, VI t37_1, VB (decide (t37_1 = 60)), VB (decide (t37_1 = 60)), VB (decide (t37_1 = 60))]) (by kernel_rfl) ?_ ?_ rfl hS ⟨hBw48_w, hBw48_w3, hBw48_w36, hBw48_w48⟩ ?_ ?_
    · exact fun x y hI hb => ⟨below_step hI.1 hb, below_step hI.2.1 hb, below_step hI.2.2.1 hb, below_step hI.2.2.2 hb⟩
    · exact .v (.v (.v (.v (.v (.v (.v (.v (.v (.v (.v (.v (.v (.v (.nil))))))))))))))
    · refine .on rfl (fun a w hS hI hp => does_val (x_fieldE (b := 0) rfl (hS.get 9 rfl) Try.underlying34 rfl rfl (by kernel_rfl)) rfl) ?_
      refine .on rfl (fun a w hS hI hp => does_val (x_load1 (d := .int .i64) rfl (hp.V 0 rfl rfl) (by kernel_rfl) rfl ((blk_cell (((hI.2.2.1).block g20 (blk_lt hn38)).trans hn38) 0).trans rfl)) rfl) ?_
      refine .on rfl (fun a w hS hI hp => does_val (x_bin rfl (hp.V 1 rfl rfl) (rfl) (b_eql _ _ _ _ _ _)) rfl) ?_
      refine .mv 2 rfl rfl rfl rfl ?_
      refine .oy 3 24 rfl rfl rfl rfl rfl ((decide_eq_true c1)) (fun a w hS hI hp => does_val (x_move rfl (hS.get 8 rfl)) rfl) ?_
      refine .pt 3 4 rfl rfl rfl rfl ((decide_eq_true c1)) rfl rfl ?_
      refine .mv 5 rfl rfl rfl rfl ?_
      refine .oy 6 27 rfl rfl rfl rfl rfl c2 (fun a w hS hI hp => does_val (x_move rfl (hS.get 0 rfl)) rfl) ?_
      refine .pt 6 7 rfl rfl rfl rfl c2 rfl rfl ?_
      refine .mv 8 rfl rfl rfl rfl ?_
      refine .oy 9 30 rfl rfl rfl rfl rfl c3 (fun a w hS hI hp => does_val (x_move rfl (hS.get 1 rfl)) rfl) ?_
      refine .oy 9 30 rfl rfl rfl rfl rfl c3 (fun a w hS hI hp => does_val (x_bin rfl (hp.V 10 rfl rfl) (rfl) (b_eql _ _ _ _ _ _)) rfl) ?_
      refine .pt 9 11 rfl rfl rfl rfl c3 rfl rfl ?_
      refine .asg 12 rfl rfl rfl rfl ?_
      exact .nil
    clear hS
    intro at51 w52 hS hI hp
    have hBw52_w := hI.1
    have hBw52_w3 := hI.2.1
    have hBw52_w36 := hI.2.2.1
    have hBw52_w48 := hI.2.2.2
    replace hS := hS.nil
    have hv0 : sl _ 0 = .bool (decide (t37_1 = 60)) := hp 13 (by decide)
    have hBw52_w52 := Below.refl w52.heap.size w52
    have hS := hS.cons hv0
    clear hp hI hv0
    refine hK50 _ _ ?_
    (try clear hK50 K50)
    refine wp_ret ?_
    (try simp only [Exit.then, Exit.inBlock, Exit.jump, Exit.noGoto])
    exact bodyPost_ret (v := .bool (decide (t37_1 = 60))) (results_single rfl (Vals.at (hS.get 0 rfl) .nil)) hS.nodef ⟨rfl, hBw52_w⟩
  rw [if_neg c3] at H
  obtain rfl := Option.some.inj H
  refine calls_of_wp (fn := Try.f20) (by kernel_rfl) rfl ?_
  have hS := St.enter #[] 34 (by simp) [] (by simp)
  have HB0 := Below.refl w.heap.size w
  refine wp_seq_k (fun K1 hK1 => ?_)
  refine reg_seq (N := 34) (bs := []) (I := fun x => Below w.heap.size w x) (ps := [VB false]) (by kernel_rfl) ?_ ?_ rfl hS HB0 ?_ ?_
  · exact fun x y hI hb => below_step hI hb
  · exact .v (.nil)
  · refine .on rfl (fun a w hS hI hp => does_val (x_assign rfl (rfl)) rfl) ?_
    exact .nil
  clear hS
  intro at2 w3 hS hI hp
  have hBw3_w := hI
  have hBw3_w3 := Below.refl w3.heap.size w3
  clear hp hI
  refine hK1 _ _ ?_
  (try clear hK1 K1)
  refine wp_seq_k (fun K4 hK4 => ?_)
  refine reg_seq (N := 34) (bs := []) (I := fun x => Below w.heap.size w x ∧ Below w3.heap.size w3 x) (ps := [IsV (.agg #[.int .u64 1, .int .i64 1]), IsB (carillonlaw17_awake.c0 t5_1 t5_2 t5_3 t5_4 t5_5 t5_6 t5_7) 54 w3.heap.size, IsB (carillonlaw17_awake.c0 t5_1 t5_2 t5_3 t5_4 t5_5 t5_6 t5_7) 54 w3.heap.size]) (by kernel_rfl) ?_ ?_ rfl hS ⟨hBw3_w, hBw3_w3⟩ ?_ ?_
  · exact fun x y hI hb => ⟨below_step hI.1 hb, below_step hI.2 hb⟩
  · exact .v (.cons (Stays.b _ _ _) (.cons (Stays.b _ _ _) (.nil)))
  · refine .on rfl (fun a w hS hI hp => does_val (x_build (vs := [(0, .int .u64 1), (1, .int .i64 1)]) rfl (by rw [Array.toList_map]; exact (show [(0, a.eval (.const (.int .u64 1))), (1, a.eval (.const (.int .i64 1)))] = _ from (li_cons (rfl) (li_cons (rfl) rfl)))) (by kernel_rfl)) rfl) ?_
    refine .on rfl (fun a w hS hI hp => does_call (by kernel_rfl) (ar2 (hp.V 0 rfl rfl) (rfl)) ((delay_New.calls 1 1 0 t5_1 t5_2 t5_3 t5_4 t5_5 t5_6 t5_7 _  At5).mono fun _ _ h => h.elim fun g_ h => ⟨_, h.1, h.2.2.2, g_, rfl, Nat.le_trans hI.2.size h.2.1, h.2.2.1⟩)) ?_
    refine .on rfl (fun a w hS hI hp => does_val (x_assign rfl rfl) (hp.V 1 rfl rfl)) ?_
    exact .nil
  clear hS
  intro at6 w7 hS hI hp
  have hBw7_w := hI.1
  have hBw7_w3 := hI.2
  obtain ⟨g8, hv1, hgeg8, hbxg8⟩ := (show IsB _ 54 _ (sl _ 1) _ from hp 2 (by decide))
  have hBw7_w7 := Below.refl w7.heap.size w7
  have hS := hS.cons hv1
  clear hp hI hv1
  refine hK4 _ _ ?_
  (try clear hK4 K4)
  refine wp_seq_k (fun K9 hK9 => ?_)
  refine wp_seq_k (fun K10 hK10 => ?_)
  refine reg_seq (N := 34) (bs := [(1, .pointer (some ⟨g8, 0, none⟩))]) (I := fun x => Below w.heap.size w x ∧ Below w3.heap.size w3 x ∧ Below w7.heap.size w7 x) (ps := [VP g8 0, VB false]) (by kernel_rfl) ?_ ?_ rfl hS ⟨hBw7_w, hBw7_w3, hBw7_w7⟩ ?_ ?_
  · exact fun x y hI hb => ⟨below_step hI.1 hb, below_step hI.2.1 hb, below_step hI.2.2 hb⟩
  · exact .v (.v (.nil))
  · refine .ms 0 rfl rfl rfl ?_
    refine .on rfl (fun a w hS hI hp => does_val (x_bin rfl (hp.V 0 rfl rfl) (rfl) (b_eqp 26 54 _ _ _ Try.underlying26)) rfl) ?_
    exact .nil
  clear hS
  intro at11 w12 hS hI hp
  have hBw12_w := hI.1
  have hBw12_w3 := hI.2.1
  have hBw12_w7 := hI.2.2
  have hv9 : sl _ 9 = .bool false := hp 1 (by decide)
  have hBw12_w12 := Below.refl w12.heap.size w12
  have hS := hS.cons hv9
  clear hp hI hv9
  refine hK10 _ _ ?_
  (try clear hK10 K10)
  refine wp_cond_false ((hS.get 0 rfl).trans (bF rfl)) ?_
  refine wp_skip ?_
  refine hK9 _ _ ?_
  (try clear hK9 K9)
  refine wp_seq_k (fun K13 hK13 => ?_)
  refine reg_seq_tail 1 (N := 34) (bs := [(9, .bool false), (1, .pointer (some ⟨g8, 0, none⟩))]) (I := fun x => Below w.heap.size w x ∧ Below w3.heap.size w3 x ∧ Below w7.heap.size w7 x ∧ Below w12.heap.size w12 x) (ps := [VP g8 0]) (by kernel_rfl) ?_ ?_ rfl hS ⟨hBw12_w, hBw12_w3, hBw12_w7, hBw12_w12⟩ ?_ ?_
  · exact fun x y hI hb => ⟨below_step hI.1 hb, below_step hI.2.1 hb, below_step hI.2.2.1 hb, below_step hI.2.2.2 hb⟩
  · exact .v (.nil)
  · refine .ms 1 rfl rfl rfl ?_
    exact .nil
  clear hS
  intro at14 w15 hS hI hp
  have hBw15_w := hI.1
  have hBw15_w3 := hI.2.1
  have hBw15_w7 := hI.2.2.1
  have hBw15_w12 := hI.2.2.2
  replace hS := (hS.nil).cons (hS.get 1 rfl)
  have hv10 : sl _ 10 = .pointer (some ⟨g8, 0, none⟩) := hp 0 (by decide)
  have hBw15_w15 := Below.refl w15.heap.size w15
  have hS := hS.cons hv10
  clear hp hI hv10
  show wpList _ _ _ [_, _, _] _ _
  refine list_step rfl (R := fun v w' => v = (carillonlaw17_awake.v1 t17_1 t17_2 t17_3 t17_4 t17_5 t17_6 t17_7 t17_8 t17_9 t17_10 t17_11 t17_12 t17_13 t17_14 t17_15 t17_16 t17_17 t17_18 t17_19 t17_20 t17_21 t17_22 t17_23) ∧ w'.heap[g8]? = some (.cells (carillonlaw17_awake.c0 t17_24 t17_25 t17_26 t17_27 t17_28 t17_29 t17_30) 54 (0, 0)) ∧ Tch g8 _ w') (does_call (by kernel_rfl) (ar3 (hS.get 0 rfl) (rfl) (rfl)) ((delay_Exchange_Request.calls g8 t5_1 t5_2 t5_3 t5_4 t5_5 t5_6 t5_7 7 0 t17_1 t17_2 t17_3 t17_4 t17_5 t17_6 t17_7 t17_8 t17_9 t17_10 t17_11 t17_12 t17_13 t17_14 t17_15 t17_16 t17_17 t17_18 t17_19 t17_20 t17_21 t17_22 t17_23 t17_24 t17_25 t17_26 t17_27 t17_28 t17_29 t17_30 _ ((hBw15_w7.block g8 (blk_lt hbxg8)).trans hbxg8) At17).mono fun _ _ h => ⟨_, h.1, rfl, h.2⟩)) ?_
  rintro vw16 w16 ⟨rfl, hbxw16, hT⟩
  have hBw16_w := hT.below hBw15_w (Nat.le_trans (hBw3_w).size hgeg8) (hBw15_w).size
  have hBw16_w3 := hT.below hBw15_w3 hgeg8 (hBw15_w3).size
  have hBw16_w16 := Below.refl w16.heap.size w16
  clear hT
  refine hS.next (v := (carillonlaw17_awake.v1 t17_1 t17_2 t17_3 t17_4 t17_5 t17_6 t17_7 t17_8 t17_9 t17_10 t17_11 t17_12 t17_13 t17_14 t17_15 t17_16 t17_17 t17_18 t17_19 t17_20 t17_21 t17_22 t17_23)) (d := 11) rfl (by decide) (by rfl) ?_
  clear hS
  intro at18 hS
  refine list_step rfl (R := fun v w' => Below _ _ w' ∧ (IsB (carillonlaw17_awake.c2 0 0 0 0 0 0 0 0 0 0 0 0 0 0 0 0 0 0 0 0 0 0 0) 34 w16.heap.size) v w') (does_var (x_alloc rfl (by kernel_rfl)) (hBw16_w16).size) ?_
  rintro vw19 w19 ⟨hb, he⟩
  have hBw19_w := below_step hBw16_w hb
  have hBw19_w3 := below_step hBw16_w3 hb
  have hBw19_w16 := below_step hBw16_w16 hb
  have hBw19_w19 := Below.refl w19.heap.size w19
  obtain ⟨g20, rfl, hgeg20, hbxg20⟩ := he
  have hne21 : g20 ≠ g8 := Nat.ne_of_gt (Nat.lt_of_lt_of_le (blk_lt ((hBw16_w16.block g8 (blk_lt hbxw16)).trans hbxw16)) hgeg20)
  refine hS.next (v := .pointer (some ⟨g20, 0, none⟩)) (d := 2) rfl (by decide) (by rfl) ?_
  clear hS
  intro at22 hS
  refine list_step rfl (does_storeAll (g := g20) (cs := (carillonlaw17_awake.c2 t17_1 t17_2 t17_3 t17_4 t17_5 t17_6 t17_7 t17_8 t17_9 t17_10 t17_11 t17_12 t17_13 t17_14 t17_15 t17_16 t17_17 t17_18 t17_19 t17_20 t17_21 t17_22 t17_23)) rfl (hS.get 0 rfl) (hS.get 1 rfl) ((hBw19_w19.block g20 (blk_lt hbxg20)).trans hbxg20) (by kernel_rfl) (by kernel_rfl) (by kernel_rfl)) ?_
  rintro vw23 w23 ⟨rfl, hbxw23, hT⟩
  have hBw23_w := hT.below hBw19_w (Nat.le_trans (hBw16_w).size hgeg20) (hBw19_w).size
  have hBw23_w3 := hT.below hBw19_w3 (Nat.le_trans (hBw16_w3).size hgeg20) (hBw19_w3).size
  have hBw23_w16 := hT.below hBw19_w16 hgeg20 (hBw19_w16).size
  have hBw23_w23 := Below.refl w23.heap.size w23
  clear hT
  refine wpList_nil ?_
  refine hK13 _ _ ?_
  (try clear hK13 K13)
  refine wp_seq_k (fun K24 hK24 => ?_)
  refine reg_seq_tail 1 (N := 34) (bs := [(2, .pointer (some ⟨g20, 0, none⟩)), (11, (carillonlaw17_awake.v1 t17_1 t17_2 t17_3 t17_4 t17_5 t17_6 t17_7 t17_8 t17_9 t17_10 t17_11 t17_12 t17_13 t17_14 t17_15 t17_16 t17_17 t17_18 t17_19 t17_20 t17_21 t17_22 t17_23)), (10, .pointer (some ⟨g8, 0, none⟩)), (1, .pointer (some ⟨g8, 0, none⟩))]) (I := fun x => Below w.heap.size w x ∧ Below w3.heap.size w3 x ∧ Below w16.heap.size w16 x ∧ Below w23.heap.size w23 x) (ps := [VP g8 0]) (by kernel_rfl) ?_ ?_ rfl hS ⟨hBw23_w, hBw23_w3, hBw23_w16, hBw23_w23⟩ ?_ ?_
  · exact fun x y hI hb => ⟨below_step hI.1 hb, below_step hI.2.1 hb, below_step hI.2.2.1 hb, below_step hI.2.2.2 hb⟩
  · exact .v (.nil)
  · refine .ms 3 rfl rfl rfl ?_
    exact .nil
  clear hS
  intro at25 w26 hS hI hp
  have hBw26_w := hI.1
  have hBw26_w3 := hI.2.1
  have hBw26_w16 := hI.2.2.1
  have hBw26_w23 := hI.2.2.2
  replace hS := ((hS.nil).cons (hS.get 3 rfl)).cons (hS.get 0 rfl)
  have hv12 : sl _ 12 = .pointer (some ⟨g8, 0, none⟩) := hp 0 (by decide)
  have hBw26_w26 := Below.refl w26.heap.size w26
  have hS := hS.cons hv12
  clear hp hI hv12
  show wpList _ _ _ [_, _] _ _
  refine list_step rfl (R := fun v w' => v = .bool t28_1 ∧ w'.heap[g8]? = some (.cells (carillonlaw17_awake.c0 t28_2 t28_3 t28_4 t28_5 t28_6 t28_7 t28_8) 54 (0, 0)) ∧ Tch g8 _ w') (does_call (by kernel_rfl) (ar3 (hS.get 0 rfl) (rfl) (rfl)) ((delay_Exchange_Sent.calls g8 t17_24 t17_25 t17_26 t17_27 t17_28 t17_29 t17_30 7 100 t28_1 t28_2 t28_3 t28_4 t28_5 t28_6 t28_7 t28_8 _ ((hBw26_w16.block g8 (blk_lt hbxw16)).trans hbxw16) At28).mono fun _ _ h => ⟨_, h.1, rfl, h.2⟩)) ?_
  rintro vw27 w27 ⟨rfl, hbxw27, hT⟩
  have hn29 := hT.blk ((hBw26_w23.block g20 (blk_lt hbxw23)).trans hbxw23) hne21
  have hBw27_w := hT.below hBw26_w (Nat.le_trans (hBw3_w).size hgeg8) (hBw26_w).size
  have hBw27_w3 := hT.below hBw26_w3 hgeg8 (hBw26_w3).size
  have hBw27_w27 := Below.refl w27.heap.size w27
  clear hT
  refine hS.next (v := .bool t28_1) (d := 13) rfl (by decide) (by rfl) ?_
  clear hS
  intro at30 hS
  refine list_step rfl (R := fun v w' => Below _ _ w' ∧ (VB t28_1) v w') (does_val (x_assign rfl (hS.get 0 rfl)) rfl) ?_
  rintro vw31 w31 ⟨hb, he⟩
  have hBw31_w := below_step hBw27_w hb
  have hBw31_w3 := below_step hBw27_w3 hb
  have hBw31_w27 := below_step hBw27_w27 hb
  have hBw31_w31 := Below.refl w31.heap.size w31
  obtain rfl : vw31 = .bool t28_1 := he
  refine hS.next (v := .bool t28_1) (d := 3) rfl (by decide) (by rfl) ?_
  clear hS
  intro at32 hS
  refine wpList_nil ?_
  refine hK24 _ _ ?_
  (try clear hK24 K24)
  refine wp_seq_k (fun K33 hK33 => ?_)
  refine reg_seq_tail 3 (N := 34) (bs := [(3, .bool t28_1), (13, .bool t28_1), (12, .pointer (some ⟨g8, 0, none⟩)), (2, .pointer (some ⟨g20, 0, none⟩)), (1, .pointer (some ⟨g8, 0, none⟩))]) (I := fun x => Below w.heap.size w x ∧ Below w3.heap.size w3 x ∧ Below w27.heap.size w27 x ∧ Below w31.heap.size w31 x) (ps := [VP g8 0, IsV (.agg #[.int .u64 1, .int .i64 1]), IsV ((carillonlaw17_awake.v1 9 0 0 0 0 0 7 0 160 1 1 0 0 0 0 0 0 0 0 0 0 0 0))]) (by kernel_rfl) ?_ ?_ rfl hS ⟨hBw31_w, hBw31_w3, hBw31_w27, hBw31_w31⟩ ?_ ?_
  · exact fun x y hI hb => ⟨below_step hI.1 hb, below_step hI.2.1 hb, below_step hI.2.2.1 hb, below_step hI.2.2.2 hb⟩
  · exact .v (.v (.v (.nil)))
  · refine .ms 4 rfl rfl rfl ?_
    refine .on rfl (fun a w hS hI hp => does_val (x_build (vs := [(0, .int .u64 1), (1, .int .i64 1)]) rfl (by rw [Array.toList_map]; exact (show [(0, a.eval (.const (.int .u64 1))), (1, a.eval (.const (.int .i64 1)))] = _ from (li_cons (rfl) (li_cons (rfl) rfl)))) (by kernel_rfl)) rfl) ?_
    refine .on rfl (fun a w hS hI hp => does_val (x_build (vs := [(0, .int .i64 9), (5, .int .i64 7), (7, .int .i64 160), (8, .agg #[.int .u64 1, .int .i64 1])]) rfl (by rw [Array.toList_map]; exact (show [(0, a.eval (.const (.int .i64 9))), (5, a.eval (.const (.int .i64 7))), (7, a.eval (.const (.int .i64 160))), (8, a.eval (.tmp 16))] = _ from (li_cons (rfl) (li_cons (rfl) (li_cons (rfl) (li_cons (hp.V 1 rfl rfl) rfl)))))) (by kernel_rfl)) rfl) ?_
    exact .nil
  clear hS
  intro at34 w35 hS hI hp
  have hBw35_w := hI.1
  have hBw35_w3 := hI.2.1
  have hBw35_w27 := hI.2.2.1
  have hBw35_w31 := hI.2.2.2
  replace hS := ((hS.nil).cons (hS.get 3 rfl)).cons (hS.get 0 rfl)
  have hv15 : sl _ 15 = .pointer (some ⟨g8, 0, none⟩) := hp 0 (by decide)
  have hv17 : sl _ 17 = (carillonlaw17_awake.v1 9 0 0 0 0 0 7 0 160 1 1 0 0 0 0 0 0 0 0 0 0 0 0) := hp 2 (by decide)
  have hBw35_w35 := Below.refl w35.heap.size w35
  have hS := hS.cons hv15
  have hS := hS.cons hv17
  clear hp hI hv15 hv17
  show wpList _ _ _ [_, _, _, _, _, _] _ _
  refine list_step rfl (R := fun v w' => v = .tuple #[.int .i64 t37_1, .bool t37_2] ∧ w'.heap[g8]? = some (.cells (carillonlaw17_awake.c0 t37_3 t37_4 t37_5 t37_6 t37_7 t37_8 t37_9) 54 (0, 0)) ∧ Tch g8 _ w') (does_call (by kernel_rfl) (ar2 (hS.get 1 rfl) (hS.get 0 rfl)) ((delay_Exchange_Response.calls g8 t28_2 t28_3 t28_4 t28_5 t28_6 t28_7 t28_8 9 0 0 0 0 0 7 0 160 1 1 0 0 0 0 0 0 0 0 0 0 0 0 t37_1 t37_2 t37_3 t37_4 t37_5 t37_6 t37_7 t37_8 t37_9 _ ((hBw35_w27.block g8 (blk_lt hbxw27)).trans hbxw27) At37).mono fun _ _ h => ⟨_, h.1, rfl, h.2⟩)) ?_
  rintro vw36 w36 ⟨rfl, hbxw36, hT⟩
  have hn38 := hT.blk ((hBw35_w27.block g20 (blk_lt hn29)).trans hn29) hne21
  have hBw36_w := hT.below hBw35_w (Nat.le_trans (hBw3_w).size hgeg8) (hBw35_w).size
  have hBw36_w3 := hT.below hBw35_w3 hgeg8 (hBw35_w3).size
  have hBw36_w36 := Below.refl w36.heap.size w36
  clear hT
  refine hS.next (v := .tuple #[.int .i64 t37_1, .bool t37_2]) (d := 18) rfl (by decide) (by rfl) ?_
  clear hS
  intro at39 hS
  refine list_step rfl (R := fun v w' => Below _ _ w' ∧ (IsV (.tuple #[.int .i64 t37_1, .bool t37_2])) v w') (does_val (x_move rfl (hS.get 0 rfl)) rfl) ?_
  rintro vw40 w40 ⟨hb, he⟩
  have hBw40_w := below_step hBw36_w hb
  have hBw40_w3 := below_step hBw36_w3 hb
  have hBw40_w36 := below_step hBw36_w36 hb
  have hBw40_w40 := Below.refl w40.heap.size w40
  obtain rfl : vw40 = .tuple #[.int .i64 t37_1, .bool t37_2] := he
  refine hS.next (v := .tuple #[.int .i64 t37_1, .bool t37_2]) (d := 14) rfl (by decide) (by rfl) ?_
  clear hS
  intro at41 hS
  refine list_step rfl (R := fun v w' => Below _ _ w' ∧ (VI t37_1) v w') (does_val (x_extract rfl (hS.get 0 rfl) rfl) rfl) ?_
  rintro vw42 w42 ⟨hb, he⟩
  have hBw42_w := below_step hBw40_w hb
  have hBw42_w3 := below_step hBw40_w3 hb
  have hBw42_w36 := below_step hBw40_w36 hb
  have hBw42_w40 := below_step hBw40_w40 hb
  have hBw42_w42 := Below.refl w42.heap.size w42
  obtain rfl : vw42 = .int .i64 t37_1 := he
  refine hS.next (v := .int .i64 t37_1) (d := 19) rfl (by decide) (by rfl) ?_
  clear hS
  intro at43 hS
  refine list_step rfl (R := fun v w' => Below _ _ w' ∧ (VB t37_2) v w') (does_val (x_extract rfl (hS.get 1 rfl) rfl) rfl) ?_
  rintro vw44 w44 ⟨hb, he⟩
  have hBw44_w := below_step hBw42_w hb
  have hBw44_w3 := below_step hBw42_w3 hb
  have hBw44_w36 := below_step hBw42_w36 hb
  have hBw44_w42 := below_step hBw42_w42 hb
  have hBw44_w44 := Below.refl w44.heap.size w44
  obtain rfl : vw44 = .bool t37_2 := he
  refine hS.next (v := .bool t37_2) (d := 20) rfl (by decide) (by rfl) ?_
  clear hS
  intro at45 hS
  refine list_step rfl (R := fun v w' => Below _ _ w' ∧ (VI t37_1) v w') (does_val (x_assign rfl (hS.get 1 rfl)) rfl) ?_
  rintro vw46 w46 ⟨hb, he⟩
  have hBw46_w := below_step hBw44_w hb
  have hBw46_w3 := below_step hBw44_w3 hb
  have hBw46_w36 := below_step hBw44_w36 hb
  have hBw46_w44 := below_step hBw44_w44 hb
  have hBw46_w46 := Below.refl w46.heap.size w46
  obtain rfl : vw46 = .int .i64 t37_1 := he
  refine hS.next (v := .int .i64 t37_1) (d := 4) rfl (by decide) (by rfl) ?_
  clear hS
  intro at47 hS
  refine list_step rfl (R := fun v w' => Below _ _ w' ∧ (VB t37_2) v w') (does_val (x_assign rfl (hS.get 1 rfl)) rfl) ?_
  rintro vw48 w48 ⟨hb, he⟩
  have hBw48_w := below_step hBw46_w hb
  have hBw48_w3 := below_step hBw46_w3 hb
  have hBw48_w36 := below_step hBw46_w36 hb
  have hBw48_w46 := below_step hBw46_w46 hb
  have hBw48_w48 := Below.refl w48.heap.size w48
  obtain rfl : vw48 = .bool t37_2 := he
  refine hS.next (v := .bool t37_2) (d := 5) rfl (by decide) (by rfl) ?_
  clear hS
  intro at49 hS
  refine wpList_nil ?_
  refine hK33 _ _ ?_
  (try clear hK33 K33)
  refine wp_seq_k (fun K50 hK50 => ?_)
  refine reg_seq (N := 34) (bs := [(5, .bool t37_2), (4, .int .i64 t37_1), (20, .bool t37_2), (19, .int .i64 t37_1), (14, .tuple #[.int .i64 t37_1, .bool t37_2]), (18, .tuple #[.int .i64 t37_1, .bool t37_2]), (17, (carillonlaw17_awake.v1 9 0 0 0 0 0 7 0 160 1 1 0 0 0 0 0 0 0 0 0 0 0 0)), (15, .pointer (some ⟨g8, 0, none⟩)), (3, .bool t28_1), (2, .pointer (some ⟨g20, 0, none⟩))]) (I := fun x => Below w.heap.size w x ∧ Below w3.heap.size w3 x ∧ Below w36.heap.size w36 x ∧ Below w48.heap.size w48 x) (ps := [VP g20 0, VI t17_1, VB (decide (t17_1 = 1)), VB (decide (t17_1 = 1)), VB t28_1, VB t28_1, VB t28_1, VB t37_2, VB t37_2, VB t37_2, VU, VU, VB false, VB false]) (by kernel_rfl) ?_ ?_ rfl hS ⟨hBw48_w, hBw48_w3, hBw48_w36, hBw48_w48⟩ ?_ ?_
  · exact fun x y hI hb => ⟨below_step hI.1 hb, below_step hI.2.1 hb, below_step hI.2.2.1 hb, below_step hI.2.2.2 hb⟩
  · exact .v (.v (.v (.v (.v (.v (.v (.v (.v (.v (.v (.v (.v (.v (.nil))))))))))))))
  · refine .on rfl (fun a w hS hI hp => does_val (x_fieldE (b := 0) rfl (hS.get 9 rfl) Try.underlying34 rfl rfl (by kernel_rfl)) rfl) ?_
    refine .on rfl (fun a w hS hI hp => does_val (x_load1 (d := .int .i64) rfl (hp.V 0 rfl rfl) (by kernel_rfl) rfl ((blk_cell (((hI.2.2.1).block g20 (blk_lt hn38)).trans hn38) 0).trans rfl)) rfl) ?_
    refine .on rfl (fun a w hS hI hp => does_val (x_bin rfl (hp.V 1 rfl rfl) (rfl) (b_eql _ _ _ _ _ _)) rfl) ?_
    refine .mv 2 rfl rfl rfl rfl ?_
    refine .oy 3 24 rfl rfl rfl rfl rfl ((decide_eq_true c1)) (fun a w hS hI hp => does_val (x_move rfl (hS.get 8 rfl)) rfl) ?_
    refine .pt 3 4 rfl rfl rfl rfl ((decide_eq_true c1)) rfl rfl ?_
    refine .mv 5 rfl rfl rfl rfl ?_
    refine .oy 6 27 rfl rfl rfl rfl rfl c2 (fun a w hS hI hp => does_val (x_move rfl (hS.get 0 rfl)) rfl) ?_
    refine .pt 6 7 rfl rfl rfl rfl c2 rfl rfl ?_
    refine .mv 8 rfl rfl rfl rfl ?_
    iterate 2 refine .sn 9 30 rfl rfl rfl rfl rfl ((Bool.eq_false_iff.2 c3)) ?_
    refine .pf 9 rfl rfl rfl rfl ((Bool.eq_false_iff.2 c3)) (fun _ => rfl) ?_
    refine .asg 12 rfl rfl rfl rfl ?_
    exact .nil
  clear hS
  intro at51 w52 hS hI hp
  have hBw52_w := hI.1
  have hBw52_w3 := hI.2.1
  have hBw52_w36 := hI.2.2.1
  have hBw52_w48 := hI.2.2.2
  replace hS := hS.nil
  have hv0 : sl _ 0 = .bool false := hp 13 (by decide)
  have hBw52_w52 := Below.refl w52.heap.size w52
  have hS := hS.cons hv0
  clear hp hI hv0
  refine hK50 _ _ ?_
  (try clear hK50 K50)
  refine wp_ret ?_
  (try simp only [Exit.then, Exit.inBlock, Exit.jump, Exit.noGoto])
  exact bodyPost_ret (v := .bool false) (results_single rfl (Vals.at (hS.get 0 rfl) .nil)) hS.nodef ⟨rfl, hBw52_w⟩
end Go.Proofs.Ytpfjpfbhgeoadaa.P
