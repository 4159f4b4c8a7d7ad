/- Functions and loops of the given program as Lean functions, and that the code comes to what they say: written by this session's own program; Lean checks it. -/
import Derived.Test.YtpoocfapmgmfkaaZzPx0
import Derived.Test.YtpoocfapmgmfkaaZzPx3
import Derived.Test.YtpoocfapmgmfkaaZzPx5
import Derived.Test.YtpoocfapmgmfkaaZzPx6
namespace Go.Proofs.Ytpoocfapmgmfkaa.P
open Go.RowKit Go.Proofs.YtpoocfapmgmfkaaW.PrintWords Go.Proofs.YtpoocfapmgmfkaaW.PrintLast Go.Proofs.YtpoocfapmgmfkaaW.PrintMore
attribute [local go_sem] max2_int min2_int max_two min_two max_three min_three max_four min_four   -- for this text's walks alone
set_option linter.unusedVariables false
set_option linter.unusedSimpArgs false
/-! ### carillonlaw07_BodyLens: function 5: by our own printer -/
def carillonlaw07_BodyLens.l1 (k : Nat) : Nat → Int → Int → Int → Int → Int → Int → Int → Int → Int → Int → Int → Int → Int → Int → Int → Int → Int → Option (Bool)
  | 0, _, _, _, _, _, _, _, _, _, _, _, _, _, _, _, _, _ => none
  | n1 + 1, x1_1_0, x1_1_1, x1_1_2, x1_1_3, x1_1_4, x1_1_5, x1_1_6, x1_1_7, x1_1_8, x1_1_9, x1_1_10, x1_1_11, x1_1_12, x1_1_13, x1_1_14, x1_1_15, x1_2 => if x1_2 < 16 then (if x1_2 ≥ 0 then (if 0 ≤ x1_2 then ((body_Put.f k [] x1_2 0 0 0 0 0 0 0 0 0 0 0 0 0 0 0 0 0 0 0 0 0 0).bind fun t1016 => ((body_Len.f k x1_2).bind fun t1021 => (if t1021 = (rd [x1_1_0, x1_1_1, x1_1_2, x1_1_3, x1_1_4, x1_1_5, x1_1_6, x1_1_7, x1_1_8, x1_1_9, x1_1_10, x1_1_11, x1_1_12, x1_1_13, x1_1_14, x1_1_15] x1_2) then (if (t1016.2 == (decide ((rd [x1_1_0, x1_1_1, x1_1_2, x1_1_3, x1_1_4, x1_1_5, x1_1_6, x1_1_7, x1_1_8, x1_1_9, x1_1_10, x1_1_11, x1_1_12, x1_1_13, x1_1_14, x1_1_15] x1_2) > 0))) = true then (if (t1016.1.length : Int) = (rd [x1_1_0, x1_1_1, x1_1_2, x1_1_3, x1_1_4, x1_1_5, x1_1_6, x1_1_7, x1_1_8, x1_1_9, x1_1_10, x1_1_11, x1_1_12, x1_1_13, x1_1_14, x1_1_15] x1_2) then (carillonlaw07_BodyLens.l1 k n1 x1_1_0 x1_1_1 x1_1_2 x1_1_3 x1_1_4 x1_1_5 x1_1_6 x1_1_7 x1_1_8 x1_1_9 x1_1_10 x1_1_11 x1_1_12 x1_1_13 x1_1_14 x1_1_15 (wrap64 (x1_2 + 1))) else (some false)) else (some false)) else (some false)))) else (none)) else ((body_Put.f k [] x1_2 0 0 0 0 0 0 0 0 0 0 0 0 0 0 0 0 0 0 0 0 0 0).bind fun t1014 => ((body_Len.f k x1_2).bind fun t1019 => (if t1019 = 0 then (if (t1014.2 == (decide (0 > 0))) = true then (if (t1014.1.length : Int) = 0 then (carillonlaw07_BodyLens.l1 k n1 x1_1_0 x1_1_1 x1_1_2 x1_1_3 x1_1_4 x1_1_5 x1_1_6 x1_1_7 x1_1_8 x1_1_9 x1_1_10 x1_1_11 x1_1_12 x1_1_13 x1_1_14 x1_1_15 (wrap64 (x1_2 + 1))) else (some false)) else (some false)) else (some false))))) else ((carillonlaw07_awake.f k ).bind fun t1006 => (some t1006))
def carillonlaw07_BodyLens.f (k : Nat)  : Option (Bool) := carillonlaw07_BodyLens.l1 k k 10 10 20 20 0 0 0 0 10 20 20 30 10 14 0 0 (-3)
abbrev carillonlaw07_BodyLens.v0 (x0 x1 x2 x3 x4 x5 x6 x7 x8 x9 x10 x11 x12 x13 x14 x15 : Int) : Value := .agg #[.int .i64 x0, .int .i64 x1, .int .i64 x2, .int .i64 x3, .int .i64 x4, .int .i64 x5, .int .i64 x6, .int .i64 x7, .int .i64 x8, .int .i64 x9, .int .i64 x10, .int .i64 x11, .int .i64 x12, .int .i64 x13, .int .i64 x14, .int .i64 x15]
abbrev carillonlaw07_BodyLens.c1 (x0 x1 x2 x3 x4 x5 x6 x7 x8 x9 x10 x11 x12 x13 x14 x15 : Int) : Array Value := #[.int .i64 x0, .int .i64 x1, .int .i64 x2, .int .i64 x3, .int .i64 x4, .int .i64 x5, .int .i64 x6, .int .i64 x7, .int .i64 x8, .int .i64 x9, .int .i64 x10, .int .i64 x11, .int .i64 x12, .int .i64 x13, .int .i64 x14, .int .i64 x15]
abbrev carillonlaw07_BodyLens.v2 (x0 x1 x2 x3 x4 x5 x6 x7 x8 x9 x10 x11 x12 x13 x14 x15 x16 x17 x18 x19 x20 x21 x22 : Int) : Value := .agg #[.int .i64 x0, .int .i64 x1, .int .i64 x2, .int .i64 x3, .int .u64 x4, .int .i64 x5, .int .i64 x6, .int .i64 x7, .int .i64 x8, .int .u64 x9, .int .i64 x10, .int .i64 x11, .int .i64 x12, .int .i64 x13, .int .i64 x14, .int .i64 x15, .int .i64 x16, .int .u64 x17, .int .i64 x18, .int .i64 x19, .int .i64 x20, .int .i64 x21, .int .i64 x22]
open Go.Proofs.Ytpoocfapmgmfkaa.E in
set_option maxHeartbeats 60000000 in
set_option maxRecDepth 100000 in
theorem carillonlaw07_BodyLens.calls (k : Nat) (w : World) (h : carillonlaw07_BodyLens.f k  = some true) :
    Calls Try.prog 5 #[] w fun e w' => e = .returned (.bool true) ∧ Below w.heap.size w w' := by
  have H := h
  clear h
  unfold carillonlaw07_BodyLens.f at H
  refine calls_of_wp (fn := Try.f5) (by kernel_rfl) rfl ?_
  have hS := St.enter #[] 39 (by simp) [] (by simp)
  have HB0 := Below.refl w.heap.size w
  refine wp_seq_k (fun K1 hK1 => ?_)
  refine reg_seq (N := 39) (bs := []) (I := fun x => Below w.heap.size w x) (ps := [VB false]) (by kernel_rfl) ?_ ?_ rfl hS HB0 ?_ ?_
  · exact fun x y hI hb => below_step hI hb
  · exact .v (.nil)
  · refine .on rfl (fun a w hS hI hp => does_val (x_assign rfl (rfl)) rfl) ?_
    exact .nil
  clear hS
  intro at2 w3 hS hI hp
  have hBw3_w := hI
  have hBw3_w3 := Below.refl w3.heap.size w3
  clear hp hI
  refine hK1 _ _ ?_
  (try clear hK1 K1)
  refine wp_seq_k (fun K4 hK4 => ?_)
  refine reg_seq_tail 2 (N := 39) (bs := []) (I := fun x => Below w.heap.size w x ∧ Below w3.heap.size w3 x) (ps := [IsV ((carillonlaw07_BodyLens.v0 10 10 20 20 0 0 0 0 10 20 20 30 10 14 0 0)), IsB (carillonlaw07_BodyLens.c1 0 0 0 0 0 0 0 0 0 0 0 0 0 0 0 0) 39 w3.heap.size]) (by kernel_rfl) ?_ ?_ rfl hS ⟨hBw3_w, hBw3_w3⟩ ?_ ?_
  · exact fun x y hI hb => ⟨below_step hI.1 hb, below_step hI.2 hb⟩
  · exact .v (.cons (Stays.b _ _ _) (.nil))
  · refine .on rfl (fun a w hS hI hp => does_val (x_build (vs := [(0, .int .i64 10), (1, .int .i64 10), (2, .int .i64 20), (3, .int .i64 20), (4, .int .i64 0), (5, .int .i64 0), (6, .int .i64 0), (7, .int .i64 0), (8, .int .i64 10), (9, .int .i64 20), (10, .int .i64 20), (11, .int .i64 30), (12, .int .i64 10), (13, .int .i64 14), (14, .int .i64 0), (15, .int .i64 0)]) rfl (by rw [Array.toList_map]; exact (show [(0, a.eval (.const (.int .i64 10))), (1, a.eval (.const (.int .i64 10))), (2, a.eval (.const (.int .i64 20))), (3, a.eval (.const (.int .i64 20))), (4, a.eval (.const (.int .i64 0))), (5, a.eval (.const (.int .i64 0))), (6, a.eval (.const (.int .i64 0))), (7, a.eval (.const (.int .i64 0))), (8, a.eval (.const (.int .i64 10))), (9, a.eval (.const (.int .i64 20))), (10, a.eval (.const (.int .i64 20))), (11, a.eval (.const (.int .i64 30))), (12, a.eval (.const (.int .i64 10))), (13, a.eval (.const (.int .i64 14))), (14, a.eval (.const (.int .i64 0))), (15, a.eval (.const (.int .i64 0)))] = _ from (li_cons (rfl) (li_cons (rfl) (li_cons (rfl) (li_cons (rfl) (li_cons (rfl) (li_cons (rfl) (li_cons (rfl) (li_cons (rfl) (li_cons (rfl) (li_cons (rfl) (li_cons (rfl) (li_cons (rfl) (li_cons (rfl) (li_cons (rfl) (li_cons (rfl) (li_cons (rfl) rfl)))))))))))))))))) (by kernel_rfl)) rfl) ?_
    refine .on rfl (fun a w hS hI hp => does_var (x_alloc rfl (by kernel_rfl)) (hI.2).size) ?_
    exact .nil
  clear hS
  intro at5 w6 hS hI hp
  have hBw6_w := hI.1
  have hBw6_w3 := hI.2
  have hv6 : sl _ 6 = (carillonlaw07_BodyLens.v0 10 10 20 20 0 0 0 0 10 20 20 30 10 14 0 0) := hp 0 (by decide)
  obtain ⟨g7, hv1, hgeg7, hbxg7⟩ := (show IsB _ 39 _ (sl _ 1) _ from hp 1 (by decide))
  have hBw6_w6 := Below.refl w6.heap.size w6
  have hS := hS.cons hv6
  have hS := hS.cons hv1
  clear hp hI hv6 hv1
  show wpList _ _ _ [_] _ _
  refine list_step rfl (does_storeAll (g := g7) (cs := (carillonlaw07_BodyLens.c1 10 10 20 20 0 0 0 0 10 20 20 30 10 14 0 0)) rfl (hS.get 0 rfl) (hS.get 1 rfl) ((hBw6_w6.block g7 (blk_lt hbxg7)).trans hbxg7) (by kernel_rfl) (by kernel_rfl) (by kernel_rfl)) ?_
  rintro vw8 w8 ⟨rfl, hbxw8, hT⟩
  have hBw8_w := hT.below hBw6_w (Nat.le_trans (hBw3_w).size hgeg7) (hBw6_w).size
  have hBw8_w3 := hT.below hBw6_w3 hgeg7 (hBw6_w3).size
  have hBw8_w8 := Below.refl w8.heap.size w8
  clear hT
  refine wpList_nil ?_
  refine hK4 _ _ ?_
  (try clear hK4 K4)
  refine wp_seq_k (fun K9 hK9 => ?_)
  refine wp_seq_k (fun K10 hK10 => ?_)
  refine reg_seq (N := 39) (bs := [(1, .pointer (some ⟨g7, 0, none⟩)), (6, (carillonlaw07_BodyLens.v0 10 10 20 20 0 0 0 0 10 20 20 30 10 14 0 0))]) (I := fun x => Below w.heap.size w x ∧ Below w3.heap.size w3 x ∧ Below w8.heap.size w8 x) (ps := [VI (-3)]) (by kernel_rfl) ?_ ?_ rfl hS ⟨hBw8_w, hBw8_w3, hBw8_w8⟩ ?_ ?_
  · exact fun x y hI hb => ⟨below_step hI.1 hb, below_step hI.2.1 hb, below_step hI.2.2 hb⟩
  · exact .v (.nil)
  · refine .on rfl (fun a w hS hI hp => does_val (x_assign rfl (rfl)) rfl) ?_
    exact .nil
  clear hS
  intro at11 w12 hS hI hp
  have hBw12_w := hI.1
  have hBw12_w3 := hI.2.1
  have hBw12_w8 := hI.2.2
  replace hS := (hS.nil).cons (hS.get 0 rfl)
  have hv2 : sl _ 2 = .int .i64 (-3) := hp 0 (by decide)
  have hBw12_w12 := Below.refl w12.heap.size w12
  have hS := hS.cons hv2
  clear hp hI hv2
  refine hK10 _ _ ?_
  (try clear hK10 K10)
  refine wp_block ?_
  replace hS := ((hS.nil).cons (hS.get 0 rfl)).cons (hS.get 1 rfl)
  refine wp_loop_ghost (fun n_ a_ wL1 => ∃ (x1_1_0 x1_1_1 x1_1_2 x1_1_3 x1_1_4 x1_1_5 x1_1_6 x1_1_7 x1_1_8 x1_1_9 x1_1_10 x1_1_11 x1_1_12 x1_1_13 x1_1_14 x1_1_15 : Int) (gL1_1 : Nat) (x1_2 : Int), carillonlaw07_BodyLens.l1 k n_ x1_1_0 x1_1_1 x1_1_2 x1_1_3 x1_1_4 x1_1_5 x1_1_6 x1_1_7 x1_1_8 x1_1_9 x1_1_10 x1_1_11 x1_1_12 x1_1_13 x1_1_14 x1_1_15 x1_2 = some true ∧ St 39 [(1, .pointer (some ⟨gL1_1, 0, none⟩)), (2, .int .i64 x1_2)] a_ ∧ Below w.heap.size w wL1 ∧ w.heap.size ≤ gL1_1 ∧ wL1.heap[gL1_1]? = some (.cells (carillonlaw07_BodyLens.c1 x1_1_0 x1_1_1 x1_1_2 x1_1_3 x1_1_4 x1_1_5 x1_1_6 x1_1_7 x1_1_8 x1_1_9 x1_1_10 x1_1_11 x1_1_12 x1_1_13 x1_1_14 x1_1_15) 39 (0, 0))) k ⟨10, 10, 20, 20, 0, 0, 0, 0, 10, 20, 20, 30, 10, 14, 0, 0, g7, -3, H, hS, hBw12_w, (Nat.le_trans (hBw3_w).size hgeg7), ((hBw12_w8.block g7 (blk_lt hbxw8)).trans hbxw8)⟩ ?_
  clear H hS
  rintro n1 aL1 wL1 ⟨x1_1_0, x1_1_1, x1_1_2, x1_1_3, x1_1_4, x1_1_5, x1_1_6, x1_1_7, x1_1_8, x1_1_9, x1_1_10, x1_1_11, x1_1_12, x1_1_13, x1_1_14, x1_1_15, gL1_1, x1_2, H, hS, hBwL1_w, hgeLgL1_1, hbxLgL1_1⟩
  rcases n1 with _ | n1
  · exact absurd H (by simp [carillonlaw07_BodyLens.l1])
  rw [carillonlaw07_BodyLens.l1] at H
  (try dsimp only at H)
  by_cases c1 : x1_2 < 16
  rotate_left
  · rw [if_neg c1] at H
    obtain ⟨t1006, At1006, H⟩ := Option.bind_eq_some_iff.mp H
    have hret := Option.some.inj H
    clear H
    have hBwL1_wL1 := Below.refl wL1.heap.size wL1
    refine wp_seq_k (fun K1001 hK1001 => ?_)
    refine wp_seq_k (fun K1002 hK1002 => ?_)
    refine reg_seq (N := 39) (bs := [(1, .pointer (some ⟨gL1_1, 0, none⟩)), (2, .int .i64 x1_2)]) (I := fun x => Below w.heap.size w x ∧ Below wL1.heap.size wL1 x) (ps := [VI x1_2, VB (decide (x1_2 < 16))]) (by kernel_rfl) ?_ ?_ rfl hS ⟨hBwL1_w, hBwL1_wL1⟩ ?_ ?_
    · exact fun x y hI hb => ⟨below_step hI.1 hb, below_step hI.2 hb⟩
    · exact .v (.v (.nil))
    · refine .ms 1 rfl rfl rfl ?_
      refine .on rfl (fun a w hS hI hp => does_val (x_bin rfl (hp.V 0 rfl rfl) (rfl) (b_lss _ _ _ _ _ _)) rfl) ?_
      exact .nil
    clear hS
    intro at1003 w1004 hS hI hp
    have hBw1004_w := hI.1
    have hBw1004_wL1 := hI.2
    have hv8 : sl _ 8 = .bool (decide (x1_2 < 16)) := hp 1 (by decide)
    have hBw1004_w1004 := Below.refl w1004.heap.size w1004
    have hS := hS.cons hv8
    clear hp hI hv8
    refine hK1002 _ _ ?_
    (try clear hK1002 K1002)
    refine wp_cond_false ((hS.get 0 rfl).trans (bF (decide_eq_false c1))) ?_
    refine wp_exit ?_
    (try simp only [Exit.then, Exit.inBlock, reduceIte])
    refine hK9 _ _ ?_
    (try clear hK9 K9)
    refine wp_seq_k (fun K1005 hK1005 => ?_)
    refine reg_seq (N := 39) (bs := [(8, .bool (decide (x1_2 < 16))), (1, .pointer (some ⟨gL1_1, 0, none⟩)), (2, .int .i64 x1_2)]) (I := fun x => Below w.heap.size w x ∧ Below wL1.heap.size wL1 x ∧ Below w1004.heap.size w1004 x) (ps := [VB t1006, VB t1006]) (by kernel_rfl) ?_ ?_ rfl hS ⟨hBw1004_w, hBw1004_wL1, hBw1004_w1004⟩ ?_ ?_
    · exact fun x y hI hb => ⟨below_step hI.1 hb, below_step hI.2.1 hb, below_step hI.2.2 hb⟩
    · exact .v (.v (.nil))
    · refine .on rfl (fun a w hS hI hp => does_call (by kernel_rfl) rfl ((carillonlaw07_awake.calls k  t1006 _  At1006).mono fun _ _ h => ⟨_, h.1, h.2, rfl⟩)) ?_
      refine .asg 0 rfl rfl rfl rfl ?_
      exact .nil
    clear hS
    intro at1007 w1008 hS hI hp
    have hBw1008_w := hI.1
    have hBw1008_wL1 := hI.2.1
    have hBw1008_w1004 := hI.2.2
    replace hS := hS.nil
    have hv0 : sl _ 0 = .bool t1006 := hp 1 (by decide)
    have hBw1008_w1008 := Below.refl w1008.heap.size w1008
    have hS := hS.cons hv0
    clear hp hI hv0
    refine hK1005 _ _ ?_
    (try clear hK1005 K1005)
    refine wp_ret ?_
    (try simp only [Exit.then, Exit.inBlock, Exit.jump, Exit.noGoto])
    exact bodyPost_ret (v := .bool true) (by rw [results_tmp rfl]; exact congrArg (Result.ok · _) ((hS.get 0 rfl).trans (congrArg Value.bool hret))) hS.nodef ⟨rfl, hBw1008_w⟩
  rw [if_pos c1] at H
  by_cases c2 : x1_2 ≥ 0
  rotate_left
  · rw [if_neg c2] at H
    obtain ⟨t1014, At1014, H⟩ := Option.bind_eq_some_iff.mp H
    obtain ⟨t1014_1, t1014_2⟩ := t1014
    (try dsimp only at H)
    obtain ⟨t1019, At1019, H⟩ := Option.bind_eq_some_iff.mp H
    by_cases c3 : t1019 = 0
    rotate_left
    · rw [if_neg c3] at H
      exact absurd H (by simp)
    rw [if_pos c3] at H
    by_cases c4 : (t1014_2 == (decide (0 > 0))) = true
    rotate_left
    · rw [if_neg c4] at H
      exact absurd H (by simp)
    rw [if_pos c4] at H
    by_cases c5 : (t1014_1.length : Int) = 0
    rotate_left
    · rw [if_neg c5] at H
      exact absurd H (by simp)
    rw [if_pos c5] at H
    have hBwL1_wL1 := Below.refl wL1.heap.size wL1
    refine wp_seq_k (fun K1001 hK1001 => ?_)
    refine wp_seq_k (fun K1002 hK1002 => ?_)
    refine reg_seq (N := 39) (bs := [(1, .pointer (some ⟨gL1_1, 0, none⟩)), (2, .int .i64 x1_2)]) (I := fun x => Below w.heap.size w x ∧ Below wL1.heap.size wL1 x) (ps := [VI x1_2, VB (decide (x1_2 < 16))]) (by kernel_rfl) ?_ ?_ rfl hS ⟨hBwL1_w, hBwL1_wL1⟩ ?_ ?_
    · exact fun x y hI hb => ⟨below_step hI.1 hb, below_step hI.2 hb⟩
    · exact .v (.v (.nil))
    · refine .ms 1 rfl rfl rfl ?_
      refine .on rfl (fun a w hS hI hp => does_val (x_bin rfl (hp.V 0 rfl rfl) (rfl) (b_lss _ _ _ _ _ _)) rfl) ?_
      exact .nil
    clear hS
    intro at1003 w1004 hS hI hp
    have hBw1004_w := hI.1
    have hBw1004_wL1 := hI.2
    have hv8 : sl _ 8 = .bool (decide (x1_2 < 16)) := hp 1 (by decide)
    have hBw1004_w1004 := Below.refl w1004.heap.size w1004
    have hS := hS.cons hv8
    clear hp hI hv8
    refine hK1002 _ _ ?_
    (try clear hK1002 K1002)
    refine wp_cond_true ((hS.get 0 rfl).trans (bT (decide_eq_true c1))) ?_
    refine wp_skip ?_
    refine hK1001 _ _ ?_
    (try clear hK1001 K1001)
    refine wp_seq_k (fun K1005 hK1005 => ?_)
    refine wp_block ?_
    refine wp_seq_k (fun K1006 hK1006 => ?_)
    refine reg_seq (N := 39) (bs := [(8, .bool (decide (x1_2 < 16))), (1, .pointer (some ⟨gL1_1, 0, none⟩)), (2, .int .i64 x1_2)]) (I := fun x => Below w.heap.size w x ∧ Below wL1.heap.size wL1 x ∧ Below w1004.heap.size w1004 x) (ps := [VI 0]) (by kernel_rfl) ?_ ?_ rfl hS ⟨hBw1004_w, hBw1004_wL1, hBw1004_w1004⟩ ?_ ?_
    · exact fun x y hI hb => ⟨below_step hI.1 hb, below_step hI.2.1 hb, below_step hI.2.2 hb⟩
    · exact .v (.nil)
    · refine .on rfl (fun a w hS hI hp => does_val (x_assign rfl (rfl)) rfl) ?_
      exact .nil
    clear hS
    intro at1007 w1008 hS hI hp
    have hBw1008_w := hI.1
    have hBw1008_wL1 := hI.2.1
    have hBw1008_w1004 := hI.2.2
    replace hS := ((hS.nil).cons (hS.get 2 rfl)).cons (hS.get 1 rfl)
    have hv3 : sl _ 3 = .int .i64 0 := hp 0 (by decide)
    have hBw1008_w1008 := Below.refl w1008.heap.size w1008
    have hS := hS.cons hv3
    clear hp hI hv3
    refine hK1006 _ _ ?_
    (try clear hK1006 K1006)
    refine wp_seq_k (fun K1009 hK1009 => ?_)
    refine wp_seq_k (fun K1010 hK1010 => ?_)
    refine reg_seq (N := 39) (bs := [(3, .int .i64 0), (1, .pointer (some ⟨gL1_1, 0, none⟩)), (2, .int .i64 x1_2)]) (I := fun x => Below w.heap.size w x ∧ Below wL1.heap.size wL1 x ∧ Below w1008.heap.size w1008 x) (ps := [VI x1_2, VB (decide (x1_2 ≥ 0))]) (by kernel_rfl) ?_ ?_ rfl hS ⟨hBw1008_w, hBw1008_wL1, hBw1008_w1008⟩ ?_ ?_
    · exact fun x y hI hb => ⟨below_step hI.1 hb, below_step hI.2.1 hb, below_step hI.2.2 hb⟩
    · exact .v (.v (.nil))
    · refine .ms 2 rfl rfl rfl ?_
      refine .on rfl (fun a w hS hI hp => does_val (x_bin rfl (hp.V 0 rfl rfl) (rfl) (b_geq _ _ _ _ _ _)) rfl) ?_
      exact .nil
    clear hS
    intro at1011 w1012 hS hI hp
    have hBw1012_w := hI.1
    have hBw1012_wL1 := hI.2.1
    have hBw1012_w1008 := hI.2.2
    have hv12 : sl _ 12 = .bool (decide (x1_2 ≥ 0)) := hp 1 (by decide)
    have hBw1012_w1012 := Below.refl w1012.heap.size w1012
    have hS := hS.cons hv12
    clear hp hI hv12
    refine hK1010 _ _ ?_
    (try clear hK1010 K1010)
    refine wp_cond_false ((hS.get 0 rfl).trans (bF (decide_eq_false c2))) ?_
    refine wp_skip ?_
    refine hK1009 _ _ ?_
    (try clear hK1009 K1009)
    refine wp_seq_k (fun K1013 hK1013 => ?_)
    refine reg_seq (N := 39) (bs := [(12, .bool (decide (x1_2 ≥ 0))), (3, .int .i64 0), (1, .pointer (some ⟨gL1_1, 0, none⟩)), (2, .int .i64 x1_2)]) (I := fun x => Below w.heap.size w x ∧ Below wL1.heap.size wL1 x ∧ Below w1012.heap.size w1012 x) (ps := [VI x1_2, IsV ((carillonlaw07_BodyLens.v2 x1_2 0 0 0 0 0 0 0 0 0 0 0 0 0 0 0 0 0 0 0 0 0 0)), IsT (fun v0_ => #[v0_, .bool t1014_2]) (IsC (Kd.int .u8) t1014_1), IsT (fun v0_ => #[v0_, .bool t1014_2]) (IsC (Kd.int .u8) t1014_1), IsC (Kd.int .u8) t1014_1, VB t1014_2, IsC (Kd.int .u8) t1014_1, VB t1014_2]) (by kernel_rfl) ?_ ?_ rfl hS ⟨hBw1012_w, hBw1012_wL1, hBw1012_w1012⟩ ?_ ?_
    · exact fun x y hI hb => ⟨below_step hI.1 hb, below_step hI.2.1 hb, below_step hI.2.2 hb⟩
    · exact .v (.v (.cons (Stays.t _ (Stays.c _ _)) (.cons (Stays.t _ (Stays.c _ _)) (.cons (Stays.c _ _) (.v (.cons (Stays.c _ _) (.v (.nil))))))))
    · refine .ms 3 rfl rfl rfl ?_
      refine .on rfl (fun a w hS hI hp => does_val (x_build (vs := [(0, .int .i64 x1_2)]) rfl (by rw [Array.toList_map]; exact (show [(0, a.eval (.tmp 17))] = _ from (li_cons (hp.V 0 rfl rfl) rfl))) (by kernel_rfl)) rfl) ?_
      refine .on rfl (fun a w hS hI hp => does_call (by kernel_rfl) (ar2 (rfl) (hp.V 1 rfl rfl)) ((body_Put.calls k _ _ [] x1_2 0 0 0 0 0 0 0 0 0 0 0 0 0 0 0 0 0 0 0 0 0 0 t1014_1 t1014_2 _ (Kd.C_nil _ _) (Nat.le_refl _) At1014).mono fun _ _ h => h.elim fun v0 h => ⟨_, h.1, h.2.2, v0, rfl, h.2.1⟩)) ?_
      refine .on rfl (fun a w hS hI hp => does_val (x_move rfl rfl) (hp.V 2 rfl rfl)) ?_
      refine .on rfl (fun a w hS hI hp => (hp.V 3 rfl rfl).elim fun v0 h0 => does_val (x_extract rfl h0.1 rfl) h0.2) ?_
      refine .on rfl (fun a w hS hI hp => (hp.V 3 rfl rfl).elim fun v0 h0 => does_val (x_extract rfl h0.1 rfl) rfl) ?_
      refine .on rfl (fun a w hS hI hp => does_val (x_assign rfl rfl) (hp.V 4 rfl rfl)) ?_
      refine .asg 5 rfl rfl rfl rfl ?_
      exact .nil
    clear hS
    intro at1015 w1016 hS hI hp
    have hBw1016_w := hI.1
    have hBw1016_wL1 := hI.2.1
    have hBw1016_w1012 := hI.2.2
    replace hS := (((hS.nil).cons (hS.get 3 rfl)).cons (hS.get 2 rfl)).cons (hS.get 1 rfl)
    obtain ⟨A1017, C1017, hv4, hl1017, hc1017⟩ := (show IsC (Kd.int .u8) t1014_1 (sl _ 4) w1016 from hp 6 (by decide))
    have hv5 : sl _ 5 = .bool t1014_2 := hp 7 (by decide)
    have hBw1016_w1016 := Below.refl w1016.heap.size w1016
    have hS := hS.cons hv4
    have hS := hS.cons hv5
    clear hp hI hv4 hv5
    refine hK1013 _ _ ?_
    (try clear hK1013 K1013)
    refine wp_seq_k (fun K1018 hK1018 => ?_)
    refine reg_seq (N := 39) (bs := [(5, .bool t1014_2), (4, .slice A1017 t1014_1.length C1017), (3, .int .i64 0), (1, .pointer (some ⟨gL1_1, 0, none⟩)), (2, .int .i64 x1_2)]) (I := fun x => Below w.heap.size w x ∧ Below wL1.heap.size wL1 x ∧ Below w1016.heap.size w1016 x) (ps := [VI x1_2, VI t1019, VI 0, VB (!decide (t1019 = 0)), VB (!decide (t1019 = 0)), VB t1014_2, VI 0, VB (decide (0 > 0)), VB (!(t1014_2 == (decide (0 > 0)))), VB (!(t1014_2 == (decide (0 > 0)))), VB (!(t1014_2 == (decide (0 > 0)))), IsV (.slice A1017 t1014_1.length C1017), VI (t1014_1.length : Int), VI 0, VB (!decide ((t1014_1.length : Int) = 0)), VB (!decide ((t1014_1.length : Int) = 0))]) (by kernel_rfl) ?_ ?_ rfl hS ⟨hBw1016_w, hBw1016_wL1, hBw1016_w1016⟩ ?_ ?_
    · exact fun x y hI hb => ⟨below_step hI.1 hb, below_step hI.2.1 hb, below_step hI.2.2 hb⟩
    · exact .v (.v (.v (.v (.v (.v (.v (.v (.v (.v (.v (.v (.v (.v (.v (.v (.nil))))))))))))))))
    · refine .ms 4 rfl rfl rfl ?_
      refine .on rfl (fun a w hS hI hp => does_call (by kernel_rfl) (ar1 (hp.V 0 rfl rfl)) ((body_Len.calls k x1_2 t1019 _  At1019).mono fun _ _ h => ⟨_, h.1, h.2.below, rfl⟩)) ?_
      refine .ms 2 rfl rfl rfl ?_
      refine .on rfl (fun a w hS hI hp => does_val (x_bin rfl (hp.V 1 rfl rfl) (hp.V 2 rfl rfl) (b_neq _ _ _ _ _ _)) rfl) ?_
      refine .mv 3 rfl rfl rfl rfl ?_
      refine .oy 4 26 rfl rfl rfl rfl rfl ((congrArg (!·) (decide_eq_true c3))) (fun a w hS hI hp => does_val (x_move rfl (hS.get 0 rfl)) rfl) ?_
      refine .oy 4 26 rfl rfl rfl rfl rfl ((congrArg (!·) (decide_eq_true c3))) (fun a w hS hI hp => does_val (x_move rfl (hS.get 2 rfl)) rfl) ?_
      refine .oy 4 26 rfl rfl rfl rfl rfl ((congrArg (!·) (decide_eq_true c3))) (fun a w hS hI hp => does_val (x_bin rfl (hp.V 6 rfl rfl) (rfl) (b_gtr _ _ _ _ _ _)) rfl) ?_
      refine .oy 4 26 rfl rfl rfl rfl rfl ((congrArg (!·) (decide_eq_true c3))) (fun a w hS hI hp => does_val (x_bin rfl (hp.V 5 rfl rfl) (hp.V 7 rfl rfl) (b_neb _ _ _ _ _ (by kernel_rfl))) rfl) ?_
      refine .on rfl (fun a w hS hI hp => does_val (x_pickF rfl ((hp.V 4 rfl rfl).trans (bF (congrArg (!·) (decide_eq_true c3)))) (hp.V 8 rfl rfl)) rfl) ?_
      refine .mv 9 rfl rfl rfl rfl ?_
      refine .oy 10 32 rfl rfl rfl rfl rfl ((congrArg (!·) c4)) (fun a w hS hI hp => does_val (x_move rfl (hS.get 1 rfl)) rfl) ?_
      refine .oy 10 32 rfl rfl rfl rfl rfl ((congrArg (!·) c4)) (fun a w hS hI hp => does_val (x_len (e := 5) rfl (by kernel_rfl) (hp.V 11 rfl rfl)) rfl) ?_
      refine .oy 10 32 rfl rfl rfl rfl rfl ((congrArg (!·) c4)) (fun a w hS hI hp => does_val (x_move rfl (hS.get 2 rfl)) rfl) ?_
      refine .oy 10 32 rfl rfl rfl rfl rfl ((congrArg (!·) c4)) (fun a w hS hI hp => does_val (x_bin rfl (hp.V 12 rfl rfl) (hp.V 13 rfl rfl) (b_neq _ _ _ _ _ _)) rfl) ?_
      refine .on rfl (fun a w hS hI hp => does_val (x_pickF rfl ((hp.V 10 rfl rfl).trans (bF (congrArg (!·) c4))) (hp.V 14 rfl rfl)) rfl) ?_
      exact .nil
    clear hS
    intro at1020 w1021 hS hI hp
    have hBw1021_w := hI.1
    have hBw1021_wL1 := hI.2.1
    have hBw1021_w1016 := hI.2.2
    replace hS := ((hS.nil).cons (hS.get 4 rfl)).cons (hS.get 3 rfl)
    have hv37 : sl _ 37 = .bool (!decide ((t1014_1.length : Int) = 0)) := hp 15 (by decide)
    have hBw1021_w1021 := Below.refl w1021.heap.size w1021
    have hS := hS.cons hv37
    clear hp hI hv37
    refine hK1018 _ _ ?_
    (try clear hK1018 K1018)
    refine wp_cond_false ((hS.get 0 rfl).trans (bF (congrArg (!·) (decide_eq_true c5)))) ?_
    refine wp_skip ?_
    refine hK1005 _ _ ?_
    (try clear hK1005 K1005)
    refine reg_seq_tail 2 (N := 39) (bs := [(37, .bool (!decide ((t1014_1.length : Int) = 0))), (1, .pointer (some ⟨gL1_1, 0, none⟩)), (2, .int .i64 x1_2)]) (I := fun x => Below w.heap.size w x ∧ Below wL1.heap.size wL1 x ∧ Below w1021.heap.size w1021 x) (ps := [VI x1_2, VI (wrap64 (x1_2 + 1))]) (by kernel_rfl) ?_ ?_ rfl hS ⟨hBw1021_w, hBw1021_wL1, hBw1021_w1021⟩ ?_ ?_
    · exact fun x y hI hb => ⟨below_step hI.1 hb, below_step hI.2.1 hb, below_step hI.2.2 hb⟩
    · exact .v (.v (.nil))
    · refine .ms 2 rfl rfl rfl ?_
      refine .on rfl (fun a w hS hI hp => does_val (x_bin rfl (hp.V 0 rfl rfl) (rfl) (b_add _ _ _ _ _)) rfl) ?_
      exact .nil
    clear hS
    intro at1022 w1023 hS hI hp
    have hBw1023_w := hI.1
    have hBw1023_wL1 := hI.2.1
    have hBw1023_w1021 := hI.2.2
    replace hS := ((hS.nil).cons (hS.get 2 rfl)).cons (hS.get 1 rfl)
    have hv10 : sl _ 10 = .int .i64 (wrap64 (x1_2 + 1)) := hp 1 (by decide)
    have hBw1023_w1023 := Below.refl w1023.heap.size w1023
    have hS := hS.cons hv10
    clear hp hI hv10
    show wpList _ _ _ [_] _ _
    refine list_step rfl (R := fun v w' => Below _ _ w' ∧ (VI (wrap64 (x1_2 + 1))) v w') (does_val (x_assign rfl (hS.get 0 rfl)) rfl) ?_
    rintro vw1024 w1024 ⟨hb, he⟩
    have hBw1024_w := below_step hBw1023_w hb
    have hBw1024_wL1 := below_step hBw1023_wL1 hb
    have hBw1024_w1023 := below_step hBw1023_w1023 hb
    have hBw1024_w1024 := Below.refl w1024.heap.size w1024
    obtain rfl : vw1024 = .int .i64 (wrap64 (x1_2 + 1)) := he
    replace hS := ((hS.nil).cons (hS.get 1 rfl)).cons (hS.get 0 rfl)
    refine hS.next (v := .int .i64 (wrap64 (x1_2 + 1))) (d := 2) rfl (by decide) (by rfl) ?_
    clear hS
    intro at1025 hS
    refine wpList_nil ?_
    replace hS := ((hS.nil).cons (hS.get 0 rfl)).cons (hS.get 2 rfl)
    (try simp only [Exit.then, Exit.inBlock])
    exact ⟨n1, Nat.lt_succ_self _, x1_1_0, x1_1_1, x1_1_2, x1_1_3, x1_1_4, x1_1_5, x1_1_6, x1_1_7, x1_1_8, x1_1_9, x1_1_10, x1_1_11, x1_1_12, x1_1_13, x1_1_14, x1_1_15, gL1_1, wrap64 (x1_2 + 1), H, hS, hBw1024_w, hgeLgL1_1, ((hBw1024_wL1.block gL1_1 (blk_lt hbxLgL1_1)).trans hbxLgL1_1)⟩
  rw [if_pos c2] at H
  by_cases c3 : 0 ≤ x1_2
  rotate_left
  · rw [if_neg c3] at H
    exact absurd H (by simp)
  rw [if_pos c3] at H
  obtain ⟨t1016, At1016, H⟩ := Option.bind_eq_some_iff.mp H
  obtain ⟨t1016_1, t1016_2⟩ := t1016
  (try dsimp only at H)
  obtain ⟨t1021, At1021, H⟩ := Option.bind_eq_some_iff.mp H
  by_cases c4 : t1021 = (rd [x1_1_0, x1_1_1, x1_1_2, x1_1_3, x1_1_4, x1_1_5, x1_1_6, x1_1_7, x1_1_8, x1_1_9, x1_1_10, x1_1_11, x1_1_12, x1_1_13, x1_1_14, x1_1_15] x1_2)
  rotate_left
  · rw [if_neg c4] at H
    exact absurd H (by simp)
  rw [if_pos c4] at H
  by_cases c5 : (t1016_2 == (decide ((rd [x1_1_0, x1_1_1, x1_1_2, x1_1_3, x1_1_4, x1_1_5, x1_1_6, x1_1_7, x1_1_8, x1_1_9, x1_1_10, x1_1_11, x1_1_12, x1_1_13, x1_1_14, x1_1_15] x1_2) > 0))) = true
  rotate_left
  · rw [if_neg c5] at H
    exact absurd H (by simp)
  rw [if_pos c5] at H
  by_cases c6 : (t1016_1.length : Int) = (rd [x1_1_0, x1_1_1, x1_1_2, x1_1_3, x1_1_4, x1_1_5, x1_1_6, x1_1_7, x1_1_8, x1_1_9, x1_1_10, x1_1_11, x1_1_12, x1_1_13, x1_1_14, x1_1_15] x1_2)
  rotate_left
  · rw [if_neg c6] at H
    exact absurd H (by simp)
  rw [if_pos c6] at H
  have hBwL1_wL1 := Below.refl wL1.heap.size wL1
  refine wp_seq_k (fun K1001 hK1001 => ?_)
  refine wp_seq_k (fun K1002 hK1002 => ?_)
  refine reg_seq (N := 39) (bs := [(1, .pointer (some ⟨gL1_1, 0, none⟩)), (2, .int .i64 x1_2)]) (I := fun x => Below w.heap.size w x ∧ Below wL1.heap.size wL1 x) (ps := [VI x1_2, VB (decide (x1_2 < 16))]) (by kernel_rfl) ?_ ?_ rfl hS ⟨hBwL1_w, hBwL1_wL1⟩ ?_ ?_
  · exact fun x y hI hb => ⟨below_step hI.1 hb, below_step hI.2 hb⟩
  · exact .v (.v (.nil))
  · refine .ms 1 rfl rfl rfl ?_
    refine .on rfl (fun a w hS hI hp => does_val (x_bin rfl (hp.V 0 rfl rfl) (rfl) (b_lss _ _ _ _ _ _)) rfl) ?_
    exact .nil
  clear hS
  intro at1003 w1004 hS hI hp
  have hBw1004_w := hI.1
  have hBw1004_wL1 := hI.2
  have hv8 : sl _ 8 = .bool (decide (x1_2 < 16)) := hp 1 (by decide)
  have hBw1004_w1004 := Below.refl w1004.heap.size w1004
  have hS := hS.cons hv8
  clear hp hI hv8
  refine hK1002 _ _ ?_
  (try clear hK1002 K1002)
  refine wp_cond_true ((hS.get 0 rfl).trans (bT (decide_eq_true c1))) ?_
  refine wp_skip ?_
  refine hK1001 _ _ ?_
  (try clear hK1001 K1001)
  refine wp_seq_k (fun K1005 hK1005 => ?_)
  refine wp_block ?_
  refine wp_seq_k (fun K1006 hK1006 => ?_)
  refine reg_seq (N := 39) (bs := [(8, .bool (decide (x1_2 < 16))), (1, .pointer (some ⟨gL1_1, 0, none⟩)), (2, .int .i64 x1_2)]) (I := fun x => Below w.heap.size w x ∧ Below wL1.heap.size wL1 x ∧ Below w1004.heap.size w1004 x) (ps := [VI 0]) (by kernel_rfl) ?_ ?_ rfl hS ⟨hBw1004_w, hBw1004_wL1, hBw1004_w1004⟩ ?_ ?_
  · exact fun x y hI hb => ⟨below_step hI.1 hb, below_step hI.2.1 hb, below_step hI.2.2 hb⟩
  · exact .v (.nil)
  · refine .on rfl (fun a w hS hI hp => does_val (x_assign rfl (rfl)) rfl) ?_
    exact .nil
  clear hS
  intro at1007 w1008 hS hI hp
  have hBw1008_w := hI.1
  have hBw1008_wL1 := hI.2.1
  have hBw1008_w1004 := hI.2.2
  replace hS := ((hS.nil).cons (hS.get 2 rfl)).cons (hS.get 1 rfl)
  have hv3 : sl _ 3 = .int .i64 0 := hp 0 (by decide)
  have hBw1008_w1008 := Below.refl w1008.heap.size w1008
  have hS := hS.cons hv3
  clear hp hI hv3
  refine hK1006 _ _ ?_
  (try clear hK1006 K1006)
  refine wp_seq_k (fun K1009 hK1009 => ?_)
  refine wp_seq_k (fun K1010 hK1010 => ?_)
  refine reg_seq (N := 39) (bs := [(3, .int .i64 0), (1, .pointer (some ⟨gL1_1, 0, none⟩)), (2, .int .i64 x1_2)]) (I := fun x => Below w.heap.size w x ∧ Below wL1.heap.size wL1 x ∧ Below w1008.heap.size w1008 x) (ps := [VI x1_2, VB (decide (x1_2 ≥ 0))]) (by kernel_rfl) ?_ ?_ rfl hS ⟨hBw1008_w, hBw1008_wL1, hBw1008_w1008⟩ ?_ ?_
  · exact fun x y hI hb => ⟨below_step hI.1 hb, below_step hI.2.1 hb, below_step hI.2.2 hb⟩
  · exact .v (.v (.nil))
  · refine .ms 2 rfl rfl rfl ?_
    refine .on rfl (fun a w hS hI hp => does_val (x_bin rfl (hp.V 0 rfl rfl) (rfl) (b_geq _ _ _ _ _ _)) rfl) ?_
    exact .nil
  clear hS
  intro at1011 w1012 hS hI hp
  have hBw1012_w := hI.1
  have hBw1012_wL1 := hI.2.1
  have hBw1012_w1008 := hI.2.2
  have hv12 : sl _ 12 = .bool (decide (x1_2 ≥ 0)) := hp 1 (by decide)
  have hBw1012_w1012 := Below.refl w1012.heap.size w1012
  have hS := hS.cons hv12
  clear hp hI hv12
  refine hK1010 _ _ ?_
  (try clear hK1010 K1010)
  refine wp_cond_true ((hS.get 0 rfl).trans (bT (decide_eq_true c2))) ?_
  replace hS := (((hS.nil).cons (hS.get 3 rfl)).cons (hS.get 2 rfl)).cons (hS.get 0 rfl)
  refine reg_seq (N := 39) (bs := [(12, .bool (decide (x1_2 ≥ 0))), (1, .pointer (some ⟨gL1_1, 0, none⟩)), (2, .int .i64 x1_2)]) (I := fun x => Below w.heap.size w x ∧ Below wL1.heap.size wL1 x ∧ Below w1012.heap.size w1012 x) (ps := [VI x1_2, IsV (.pointer (some (⟨gL1_1, (x1_2 : Int).toNat, none⟩))), VI (rd [x1_1_0, x1_1_1, x1_1_2, x1_1_3, x1_1_4, x1_1_5, x1_1_6, x1_1_7, x1_1_8, x1_1_9, x1_1_10, x1_1_11, x1_1_12, x1_1_13, x1_1_14, x1_1_15] x1_2), VI (rd [x1_1_0, x1_1_1, x1_1_2, x1_1_3, x1_1_4, x1_1_5, x1_1_6, x1_1_7, x1_1_8, x1_1_9, x1_1_10, x1_1_11, x1_1_12, x1_1_13, x1_1_14, x1_1_15] x1_2)]) (by kernel_rfl) ?_ ?_ rfl hS ⟨hBw1012_w, hBw1012_wL1, hBw1012_w1012⟩ ?_ ?_
  · exact fun x y hI hb => ⟨below_step hI.1 hb, below_step hI.2.1 hb, below_step hI.2.2 hb⟩
  · exact .v (.v (.v (.v (.nil))))
  · refine .ms 2 rfl rfl rfl ?_
    refine .on rfl (fun a w hS hI hp => does_val (x_indexArr (e := 3) rfl (hS.get 1 rfl) (hp.V 0 rfl rfl) (by kernel_rfl) (by kernel_rfl) c3 c1 (by decide)) rfl) ?_
    refine .on rfl (fun a w hS hI hp => does_val (x_load1 (d := .int .i64) rfl (hp.V 1 rfl rfl) (by kernel_rfl) rfl ((blk_cell ((hI.2.1.block gL1_1 (blk_lt hbxLgL1_1)).trans hbxLgL1_1) _).trans (arr_get .i64 [x1_1_0, x1_1_1, x1_1_2, x1_1_3, x1_1_4, x1_1_5, x1_1_6, x1_1_7, x1_1_8, x1_1_9, x1_1_10, x1_1_11, x1_1_12, x1_1_13, x1_1_14, x1_1_15] x1_2 c3 c1))) rfl) ?_
    refine .asg 2 rfl rfl rfl rfl ?_
    exact .nil
  clear hS
  intro at1013 w1014 hS hI hp
  have hBw1014_w := hI.1
  have hBw1014_wL1 := hI.2.1
  have hBw1014_w1012 := hI.2.2
  replace hS := ((hS.nil).cons (hS.get 2 rfl)).cons (hS.get 1 rfl)
  have hv3 : sl _ 3 = .int .i64 (rd [x1_1_0, x1_1_1, x1_1_2, x1_1_3, x1_1_4, x1_1_5, x1_1_6, x1_1_7, x1_1_8, x1_1_9, x1_1_10, x1_1_11, x1_1_12, x1_1_13, x1_1_14, x1_1_15] x1_2) := hp 3 (by decide)
  have hBw1014_w1014 := Below.refl w1014.heap.size w1014
  have hS := hS.cons hv3
  clear hp hI hv3
  refine hK1009 _ _ ?_
  (try clear hK1009 K1009)
  refine wp_seq_k (fun K1015 hK1015 => ?_)
  refine reg_seq (N := 39) (bs := [(3, .int .i64 (rd [x1_1_0, x1_1_1, x1_1_2, x1_1_3, x1_1_4, x1_1_5, x1_1_6, x1_1_7, x1_1_8, x1_1_9, x1_1_10, x1_1_11, x1_1_12, x1_1_13, x1_1_14, x1_1_15] x1_2)), (1, .pointer (some ⟨gL1_1, 0, none⟩)), (2, .int .i64 x1_2)]) (I := fun x => Below w.heap.size w x ∧ Below wL1.heap.size wL1 x ∧ Below w1014.heap.size w1014 x) (ps := [VI x1_2, IsV ((carillonlaw07_BodyLens.v2 x1_2 0 0 0 0 0 0 0 0 0 0 0 0 0 0 0 0 0 0 0 0 0 0)), IsT (fun v0_ => #[v0_, .bool t1016_2]) (IsC (Kd.int .u8) t1016_1), IsT (fun v0_ => #[v0_, .bool t1016_2]) (IsC (Kd.int .u8) t1016_1), IsC (Kd.int .u8) t1016_1, VB t1016_2, IsC (Kd.int .u8) t1016_1, VB t1016_2]) (by kernel_rfl) ?_ ?_ rfl hS ⟨hBw1014_w, hBw1014_wL1, hBw1014_w1014⟩ ?_ ?_
  · exact fun x y hI hb => ⟨below_step hI.1 hb, below_step hI.2.1 hb, below_step hI.2.2 hb⟩
  · exact .v (.v (.cons (Stays.t _ (Stays.c _ _)) (.cons (Stays.t _ (Stays.c _ _)) (.cons (Stays.c _ _) (.v (.cons (Stays.c _ _) (.v (.nil))))))))
  · refine .ms 2 rfl rfl rfl ?_
    refine .on rfl (fun a w hS hI hp => does_val (x_build (vs := [(0, .int .i64 x1_2)]) rfl (by rw [Array.toList_map]; exact (show [(0, a.eval (.tmp 17))] = _ from (li_cons (hp.V 0 rfl rfl) rfl))) (by kernel_rfl)) rfl) ?_
    refine .on rfl (fun a w hS hI hp => does_call (by kernel_rfl) (ar2 (rfl) (hp.V 1 rfl rfl)) ((body_Put.calls k _ _ [] x1_2 0 0 0 0 0 0 0 0 0 0 0 0 0 0 0 0 0 0 0 0 0 0 t1016_1 t1016_2 _ (Kd.C_nil _ _) (Nat.le_refl _) At1016).mono fun _ _ h => h.elim fun v0 h => ⟨_, h.1, h.2.2, v0, rfl, h.2.1⟩)) ?_
    refine .on rfl (fun a w hS hI hp => does_val (x_move rfl rfl) (hp.V 2 rfl rfl)) ?_
    refine .on rfl (fun a w hS hI hp => (hp.V 3 rfl rfl).elim fun v0 h0 => does_val (x_extract rfl h0.1 rfl) h0.2) ?_
    refine .on rfl (fun a w hS hI hp => (hp.V 3 rfl rfl).elim fun v0 h0 => does_val (x_extract rfl h0.1 rfl) rfl) ?_
    refine .on rfl (fun a w hS hI hp => does_val (x_assign rfl rfl) (hp.V 4 rfl rfl)) ?_
    refine .asg 5 rfl rfl rfl rfl ?_
    exact .nil
  clear hS
  intro at1017 w1018 hS hI hp
  have hBw1018_w := hI.1
  have hBw1018_wL1 := hI.2.1
  have hBw1018_w1014 := hI.2.2
  obtain ⟨A1019, C1019, hv4, hl1019, hc1019⟩ := (show IsC (Kd.int .u8) t1016_1 (sl _ 4) w1018 from hp 6 (by decide))
  have hv5 : sl _ 5 = .bool t1016_2 := hp 7 (by decide)
  have hBw1018_w1018 := Below.refl w1018.heap.size w1018
  have hS := hS.cons hv4
  have hS := hS.cons hv5
  clear hp hI hv4 hv5
  refine hK1015 _ _ ?_
  (try clear hK1015 K1015)
  refine wp_seq_k (fun K1020 hK1020 => ?_)
  refine reg_seq (N := 39) (bs := [(5, .bool t1016_2), (4, .slice A1019 t1016_1.length C1019), (3, .int .i64 (rd [x1_1_0, x1_1_1, x1_1_2, x1_1_3, x1_1_4, x1_1_5, x1_1_6, x1_1_7, x1_1_8, x1_1_9, x1_1_10, x1_1_11, x1_1_12, x1_1_13, x1_1_14, x1_1_15] x1_2)), (1, .pointer (some ⟨gL1_1, 0, none⟩)), (2, .int .i64 x1_2)]) (I := fun x => Below w.heap.size w x ∧ Below wL1.heap.size wL1 x ∧ Below w1018.heap.size w1018 x) (ps := [VI x1_2, VI t1021, VI (rd [x1_1_0, x1_1_1, x1_1_2, x1_1_3, x1_1_4, x1_1_5, x1_1_6, x1_1_7, x1_1_8, x1_1_9, x1_1_10, x1_1_11, x1_1_12, x1_1_13, x1_1_14, x1_1_15] x1_2), VB (!decide (t1021 = (rd [x1_1_0, x1_1_1, x1_1_2, x1_1_3, x1_1_4, x1_1_5, x1_1_6, x1_1_7, x1_1_8, x1_1_9, x1_1_10, x1_1_11, x1_1_12, x1_1_13, x1_1_14, x1_1_15] x1_2))), VB (!decide (t1021 = (rd [x1_1_0, x1_1_1, x1_1_2, x1_1_3, x1_1_4, x1_1_5, x1_1_6, x1_1_7, x1_1_8, x1_1_9, x1_1_10, x1_1_11, x1_1_12, x1_1_13, x1_1_14, x1_1_15] x1_2))), VB t1016_2, VI (rd [x1_1_0, x1_1_1, x1_1_2, x1_1_3, x1_1_4, x1_1_5, x1_1_6, x1_1_7, x1_1_8, x1_1_9, x1_1_10, x1_1_11, x1_1_12, x1_1_13, x1_1_14, x1_1_15] x1_2), VB (decide ((rd [x1_1_0, x1_1_1, x1_1_2, x1_1_3, x1_1_4, x1_1_5, x1_1_6, x1_1_7, x1_1_8, x1_1_9, x1_1_10, x1_1_11, x1_1_12, x1_1_13, x1_1_14, x1_1_15] x1_2) > 0)), VB (!(t1016_2 == (decide ((rd [x1_1_0, x1_1_1, x1_1_2, x1_1_3, x1_1_4, x1_1_5, x1_1_6, x1_1_7, x1_1_8, x1_1_9, x1_1_10, x1_1_11, x1_1_12, x1_1_13, x1_1_14, x1_1_15] x1_2) > 0)))), VB (!(t1016_2 == (decide ((rd [x1_1_0, x1_1_1, x1_1_2, x1_1_3, x1_1_4, x1_1_5, x1_1_6, x1_1_7, x1_1_8, x1_1_9, x1_1_10, x1_1_11, x1_1_12, x1_1_13, x1_1_14, x1_1_15] x1_2) > 0)))), VB (!(t1016_2 == (decide ((rd [x1_1_0, x1_1_1, x1_1_2, x1_1_3, x1_1_4, x1_1_5, x1_1_6, x1_1_7, x1_1_8, x1_1_9, x1_1_10, x1_1_11, x1_1_12, x1_1_13, x1_1_14, x1_1_15] x1_2) > 0)))), IsV (.slice A1019 t1016_1.length C1019), VI (t1016_1.length : Int), VI (rd [x1_1_0, x1_1_1, x1_1_2, x1_1_3, x1_1_4, x1_1_5, x1_1_6, x1_1_7, x1_1_8, x1_1_9, x1_1_10, x1_1_11, x1_1_12, x1_1_13, x1_1_14, x1_1_15] x1_2), VB (!decide ((t1016_1.length : Int) = (rd [x1_1_0, x1_1_1, x1_1_2, x1_1_3, x1_1_4, x1_1_5, x1_1_6, x1_1_7, x1_1_8, x1_1_9, x1_1_10, x1_1_11, x1_1_12, x1_1_13, x1_1_14, x1_1_15] x1_2))), VB (!decide ((t1016_1.length : Int) = (rd [x1_1_0, x1_1_1, x1_1_2, x1_1_3, x1_1_4, x1_1_5, x1_1_6, x1_1_7, x1_1_8, x1_1_9, x1_1_10, x1_1_11, x1_1_12, x1_1_13, x1_1_14, x1_1_15] x1_2)))]) (by kernel_rfl) ?_ ?_ rfl hS ⟨hBw1018_w, hBw1018_wL1, hBw1018_w1018⟩ ?_ ?_
  · exact fun x y hI hb => ⟨below_step hI.1 hb, below_step hI.2.1 hb, below_step hI.2.2 hb⟩
  · exact .v (.v (.v (.v (.v (.v (.v (.v (.v (.v (.v (.v (.v (.v (.v (.v (.nil))))))))))))))))
  · refine .ms 4 rfl rfl rfl ?_
    refine .on rfl (fun a w hS hI hp => does_call (by kernel_rfl) (ar1 (hp.V 0 rfl rfl)) ((body_Len.calls k x1_2 t1021 _  At1021).mono fun _ _ h => ⟨_, h.1, h.2.below, rfl⟩)) ?_
    refine .ms 2 rfl rfl rfl ?_
    refine .on rfl (fun a w hS hI hp => does_val (x_bin rfl (hp.V 1 rfl rfl) (hp.V 2 rfl rfl) (b_neq _ _ _ _ _ _)) rfl) ?_
    refine .mv 3 rfl rfl rfl rfl ?_
    refine .oy 4 26 rfl rfl rfl rfl rfl ((congrArg (!·) (decide_eq_true c4))) (fun a w hS hI hp => does_val (x_move rfl (hS.get 0 rfl)) rfl) ?_
    refine .oy 4 26 rfl rfl rfl rfl rfl ((congrArg (!·) (decide_eq_true c4))) (fun a w hS hI hp => does_val (x_move rfl (hS.get 2 rfl)) rfl) ?_
    refine .oy 4 26 rfl rfl rfl rfl rfl ((congrArg (!·) (decide_eq_true c4))) (fun a w hS hI hp => does_val (x_bin rfl (hp.V 6 rfl rfl) (rfl) (b_gtr _ _ _ _ _ _)) rfl) ?_
    refine .oy 4 26 rfl rfl rfl rfl rfl ((congrArg (!·) (decide_eq_true c4))) (fun a w hS hI hp => does_val (x_bin rfl (hp.V 5 rfl rfl) (hp.V 7 rfl rfl) (b_neb _ _ _ _ _ (by kernel_rfl))) rfl) ?_
    refine .on rfl (fun a w hS hI hp => does_val (x_pickF rfl ((hp.V 4 rfl rfl).trans (bF (congrArg (!·) (decide_eq_true c4)))) (hp.V 8 rfl rfl)) rfl) ?_
    refine .mv 9 rfl rfl rfl rfl ?_
    refine .oy 10 32 rfl rfl rfl rfl rfl ((congrArg (!·) c5)) (fun a w hS hI hp => does_val (x_move rfl (hS.get 1 rfl)) rfl) ?_
    refine .oy 10 32 rfl rfl rfl rfl rfl ((congrArg (!·) c5)) (fun a w hS hI hp => does_val (x_len (e := 5) rfl (by kernel_rfl) (hp.V 11 rfl rfl)) rfl) ?_
    refine .oy 10 32 rfl rfl rfl rfl rfl ((congrArg (!·) c5)) (fun a w hS hI hp => does_val (x_move rfl (hS.get 2 rfl)) rfl) ?_
    refine .oy 10 32 rfl rfl rfl rfl rfl ((congrArg (!·) c5)) (fun a w hS hI hp => does_val (x_bin rfl (hp.V 12 rfl rfl) (hp.V 13 rfl rfl) (b_neq _ _ _ _ _ _)) rfl) ?_
    refine .on rfl (fun a w hS hI hp => does_val (x_pickF rfl ((hp.V 10 rfl rfl).trans (bF (congrArg (!·) c5))) (hp.V 14 rfl rfl)) rfl) ?_
    exact .nil
  clear hS
  intro at1022 w1023 hS hI hp
  have hBw1023_w := hI.1
  have hBw1023_wL1 := hI.2.1
  have hBw1023_w1018 := hI.2.2
  replace hS := ((hS.nil).cons (hS.get 4 rfl)).cons (hS.get 3 rfl)
  have hv37 : sl _ 37 = .bool (!decide ((t1016_1.length : Int) = (rd [x1_1_0, x1_1_1, x1_1_2, x1_1_3, x1_1_4, x1_1_5, x1_1_6, x1_1_7, x1_1_8, x1_1_9, x1_1_10, x1_1_11, x1_1_12, x1_1_13, x1_1_14, x1_1_15] x1_2))) := hp 15 (by decide)
  have hBw1023_w1023 := Below.refl w1023.heap.size w1023
  have hS := hS.cons hv37
  clear hp hI hv37
  refine hK1020 _ _ ?_
  (try clear hK1020 K1020)
  refine wp_cond_false ((hS.get 0 rfl).trans (bF (congrArg (!·) (decide_eq_true c6)))) ?_
  refine wp_skip ?_
  refine hK1005 _ _ ?_
  (try clear hK1005 K1005)
  refine reg_seq_tail 2 (N := 39) (bs := [(37, .bool (!decide ((t1016_1.length : Int) = (rd [x1_1_0, x1_1_1, x1_1_2, x1_1_3, x1_1_4, x1_1_5, x1_1_6, x1_1_7, x1_1_8, x1_1_9, x1_1_10, x1_1_11, x1_1_12, x1_1_13, x1_1_14, x1_1_15] x1_2)))), (1, .pointer (some ⟨gL1_1, 0, none⟩)), (2, .int .i64 x1_2)]) (I := fun x => Below w.heap.size w x ∧ Below wL1.heap.size wL1 x ∧ Below w1023.heap.size w1023 x) (ps := [VI x1_2, VI (wrap64 (x1_2 + 1))]) (by kernel_rfl) ?_ ?_ rfl hS ⟨hBw1023_w, hBw1023_wL1, hBw1023_w1023⟩ ?_ ?_
  · exact fun x y hI hb => ⟨below_step hI.1 hb, below_step hI.2.1 hb, below_step hI.2.2 hb⟩
  · exact .v (.v (.nil))
  · refine .ms 2 rfl rfl rfl ?_
    refine .on rfl (fun a w hS hI hp => does_val (x_bin rfl (hp.V 0 rfl rfl) (rfl) (b_add _ _ _ _ _)) rfl) ?_
    exact .nil
  clear hS
  intro at1024 w1025 hS hI hp
  have hBw1025_w := hI.1
  have hBw1025_wL1 := hI.2.1
  have hBw1025_w1023 := hI.2.2
  replace hS := ((hS.nil).cons (hS.get 2 rfl)).cons (hS.get 1 rfl)
  have hv10 : sl _ 10 = .int .i64 (wrap64 (x1_2 + 1)) := hp 1 (by decide)
  have hBw1025_w1025 := Below.refl w1025.heap.size w1025
  have hS := hS.cons hv10
  clear hp hI hv10
  show wpList _ _ _ [_] _ _
  refine list_step rfl (R := fun v w' => Below _ _ w' ∧ (VI (wrap64 (x1_2 + 1))) v w') (does_val (x_assign rfl (hS.get 0 rfl)) rfl) ?_
  rintro vw1026 w1026 ⟨hb, he⟩
  have hBw1026_w := below_step hBw1025_w hb
  have hBw1026_wL1 := below_step hBw1025_wL1 hb
  have hBw1026_w1025 := below_step hBw1025_w1025 hb
  have hBw1026_w1026 := Below.refl w1026.heap.size w1026
  obtain rfl : vw1026 = .int .i64 (wrap64 (x1_2 + 1)) := he
  replace hS := ((hS.nil).cons (hS.get 1 rfl)).cons (hS.get 0 rfl)
  refine hS.next (v := .int .i64 (wrap64 (x1_2 + 1))) (d := 2) rfl (by decide) (by rfl) ?_
  clear hS
  intro at1027 hS
  refine wpList_nil ?_
  replace hS := ((hS.nil).cons (hS.get 0 rfl)).cons (hS.get 2 rfl)
  (try simp only [Exit.then, Exit.inBlock])
  exact ⟨n1, Nat.lt_succ_self _, x1_1_0, x1_1_1, x1_1_2, x1_1_3, x1_1_4, x1_1_5, x1_1_6, x1_1_7, x1_1_8, x1_1_9, x1_1_10, x1_1_11, x1_1_12, x1_1_13, x1_1_14, x1_1_15, gL1_1, wrap64 (x1_2 + 1), H, hS, hBw1026_w, hgeLgL1_1, ((hBw1026_wL1.block gL1_1 (blk_lt hbxLgL1_1)).trans hbxLgL1_1)⟩
def carillonlaw07_BodyLens.Pure : Prop := ∃ k, carillonlaw07_BodyLens.f k  = some true
theorem carillonlaw07_BodyLens.walk (P : carillonlaw07_BodyLens.Pure)  (w : World)  :
    Calls Try.prog 5 #[] w fun e w' => e = .returned (.bool true) ∧ Below w.heap.size w w' := by
  obtain ⟨k, h⟩ := P  
  refine (carillonlaw07_BodyLens.calls k  w  h).mono ?_
  rintro e w' ⟨rfl, hd⟩
  exact ⟨rfl, hd⟩
/-! ### carillonlaw00_Bytes: function 17 -/
/-! ### octets_none: function 52 -/
/-! ### octets_read: function 53 -/
/-! ### octets_Get: function 47 -/
/-! ### stamp_Get: function 44 -/
/-! ### octets_Signed: function 46 -/
/-! ### octets_GetId: function 49 -/
/-! ### ident_Get: function 45 -/
/-! ### quality_Get: function 48 -/
end Go.Proofs.Ytpoocfapmgmfkaa.P
