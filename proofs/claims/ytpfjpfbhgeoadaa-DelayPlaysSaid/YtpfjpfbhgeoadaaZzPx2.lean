/- Functions and loops of the given program as Lean functions, and that the code comes to what they say: written by this session's own program; Lean checks it. -/
import Derived.Test.YtpfjpfbhgeoadaaZzPx0
namespace Go.Proofs.Ytpfjpfbhgeoadaa.P
open Go.RowKit Go.Proofs.YtpfjpfbhgeoadaaW.PrintWords Go.Proofs.YtpfjpfbhgeoadaaW.PrintLast Go.Proofs.YtpfjpfbhgeoadaaW.PrintMore
attribute [local go_sem] max2_int min2_int max_two min_two max_three min_three max_four min_four   -- for this text's walks alone
set_option linter.unusedVariables false
set_option linter.unusedSimpArgs false
/-! ### carillonref17_X_Sent: function 15: by our own printer -/
def carillonref17_X_Sent.f (a0_0 a0_1 a0_2 : Int) (a0_3 a0_4 : Bool) (a0_5 a0_6 a1 a2 : Int) : Option (Bool × Int × Int × Int × Bool × Bool × Int × Int) := if a0_3 = true then (if a0_4 = true then (some (false, a0_0, a0_1, a0_2, a0_3, a0_4, a0_5, a0_6)) else (if a1 = a0_5 then (some (true, a0_0, a0_1, a0_2, a0_3, true, a0_5, a2)) else (some (false, a0_0, a0_1, a0_2, a0_3, a0_4, a0_5, a0_6)))) else (some (false, a0_0, a0_1, a0_2, a0_3, a0_4, a0_5, a0_6))
abbrev carillonref17_X_Sent.c0 (x0 x1 x2 : Int) (x3 x4 : Bool) (x5 x6 : Int) : Array Value := #[.int .u64 x0, .int .i64 x1, .int .i64 x2, .bool x3, .bool x4, .int .i64 x5, .int .i64 x6]
open Go.Proofs.Ytpfjpfbhgeoadaa.E in
set_option maxHeartbeats 60000000 in
set_option maxRecDepth 100000 in
theorem carillonref17_X_Sent.calls (g0 : Nat) (a0_0 a0_1 a0_2 : Int) (a0_3 a0_4 : Bool) (a0_5 a0_6 a1 a2 : Int) (r1 : Bool) (r2 r3 r4 : Int) (r5 r6 : Bool) (r7 r8 : Int) (w : World) (HP0 : w.heap[g0]? = some (.cells #[.int .u64 a0_0, .int .i64 a0_1, .int .i64 a0_2, .bool a0_3, .bool a0_4, .int .i64 a0_5, .int .i64 a0_6] 30 (0, 0))) (h : carillonref17_X_Sent.f a0_0 a0_1 a0_2 a0_3 a0_4 a0_5 a0_6 a1 a2 = some (r1, r2, r3, r4, r5, r6, r7, r8)) :
    Calls Try.prog 15 #[.pointer (some ⟨g0, 0, none⟩), .int .i64 a1, .int .i64 a2] w fun e w' => e = .returned (.bool r1) ∧ w'.heap[g0]? = some (.cells #[.int .u64 r2, .int .i64 r3, .int .i64 r4, .bool r5, .bool r6, .int .i64 r7, .int .i64 r8] 30 (0, 0)) ∧ Tch g0 w w' := by
  have H := h
  clear h
  unfold carillonref17_X_Sent.f at H
  by_cases c1 : a0_3 = true
  rotate_left
  · rw [if_neg c1] at H
    simp only [Option.some.injEq, Prod.mk.injEq] at H
    obtain ⟨rfl, rfl, rfl, rfl, rfl, rfl, rfl, rfl⟩ := H
    refine calls_of_wp (fn := Try.f15) (by kernel_rfl) rfl ?_
    have hS := St.enter #[.pointer (some ⟨g0, 0, none⟩), .int .i64 a1, .int .i64 a2] 33 (by simp) [(0, .pointer (some ⟨g0, 0, none⟩)), (1, .int .i64 a1), (2, .int .i64 a2)] (by simp)
    have HB0 := Below.refl w.heap.size w
    refine wp_seq_k (fun K1 hK1 => ?_)
    refine reg_seq (N := 33) (bs := [(0, .pointer (some ⟨g0, 0, none⟩)), (1, .int .i64 a1), (2, .int .i64 a2)]) (I := fun x => Below w.heap.size w x) (ps := [VB false]) (by kernel_rfl) ?_ ?_ rfl hS HB0 ?_ ?_
    · exact fun x y hI hb => below_step hI hb
    · exact .v (.nil)
    · refine .on rfl (fun a w hS hI hp => does_val (x_assign rfl (rfl)) rfl) ?_
      exact .nil
    clear hS
    intro at2 w3 hS hI hp
    have hBw3_w := hI
    have hBw3_w3 := Below.refl w3.heap.size w3
    clear hp hI
    refine hK1 _ _ ?_
    (try clear hK1 K1)
    refine wp_seq_k (fun K4 hK4 => ?_)
    refine wp_seq_k (fun K5 hK5 => ?_)
    refine reg_seq (N := 33) (bs := [(0, .pointer (some ⟨g0, 0, none⟩)), (1, .int .i64 a1), (2, .int .i64 a2)]) (I := fun x => Below w.heap.size w x ∧ Below w3.heap.size w3 x) (ps := [VP g0 0, VP g0 0, VP g0 3, VB a0_3, VB (!a0_3), VB (!a0_3), VU, VU, VU, VU, VB true, VB true, VU, VU, VU, VU, VU, VU, VB true]) (by kernel_rfl) ?_ ?_ rfl hS ⟨hBw3_w, hBw3_w3⟩ ?_ ?_
    · exact fun x y hI hb => ⟨below_step hI.1 hb, below_step hI.2 hb⟩
    · exact .v (.v (.v (.v (.v (.v (.v (.v (.v (.v (.v (.v (.v (.v (.v (.v (.v (.v (.v (.nil)))))))))))))))))))
    · refine .ms 0 rfl rfl rfl ?_
      refine .on rfl (fun a w hS hI hp => does_val (x_nilck rfl (hp.V 0 rfl rfl)) rfl) ?_
      refine .on rfl (fun a w hS hI hp => does_val (x_fieldE (b := 0) rfl (hp.V 1 rfl rfl) Try.underlying30 rfl rfl (by kernel_rfl)) rfl) ?_
      refine .on rfl (fun a w hS hI hp => does_val (x_load1 (d := .bool) rfl (hp.V 2 rfl rfl) (by kernel_rfl) rfl ((blk_cell (((hI.1).block g0 (blk_lt HP0)).trans HP0) 3).trans rfl)) rfl) ?_
      refine .on rfl (fun a w hS hI hp => does_val (x_not rfl (hp.V 3 rfl rfl)) rfl) ?_
      refine .mv 4 rfl rfl rfl rfl ?_
      iterate 4 refine .sn 5 12 rfl rfl rfl rfl rfl ((congrArg (!·) (Bool.eq_false_iff.2 c1))) ?_
      refine .on rfl (fun a w hS hI hp => does_val (x_pickT rfl ((hp.V 5 rfl rfl).trans (bT (congrArg (!·) (Bool.eq_false_iff.2 c1)))) (rfl)) rfl) ?_
      refine .mv 10 rfl rfl rfl rfl ?_
      iterate 6 refine .sn 11 18 rfl rfl rfl rfl rfl rfl ?_
      refine .on rfl (fun a w hS hI hp => does_val (x_pickT rfl ((hp.V 11 rfl rfl).trans (bT rfl)) (rfl)) rfl) ?_
      exact .nil
    clear hS
    intro at6 w7 hS hI hp
    have hBw7_w := hI.1
    have hBw7_w3 := hI.2
    replace hS := ((hS.nil).cons (hS.get 2 rfl)).cons (hS.get 0 rfl)
    have hv25 : sl _ 25 = .bool true := hp 18 (by decide)
    have hBw7_w7 := Below.refl w7.heap.size w7
    have hS := hS.cons hv25
    clear hp hI hv25
    refine hK5 _ _ ?_
    (try clear hK5 K5)
    refine wp_cond_true ((hS.get 0 rfl).trans (bT rfl)) ?_
    refine wp_seq_k (fun K8 hK8 => ?_)
    refine reg_seq (N := 33) (bs := [(25, .bool true), (0, .pointer (some ⟨g0, 0, none⟩)), (2, .int .i64 a2)]) (I := fun x => Below w.heap.size w x ∧ Below w7.heap.size w7 x) (ps := [VB false]) (by kernel_rfl) ?_ ?_ rfl hS ⟨hBw7_w, hBw7_w7⟩ ?_ ?_
    · exact fun x y hI hb => ⟨below_step hI.1 hb, below_step hI.2 hb⟩
    · exact .v (.nil)
    · refine .on rfl (fun a w hS hI hp => does_val (x_assign rfl (rfl)) rfl) ?_
      exact .nil
    clear hS
    intro at9 w10 hS hI hp
    have hBw10_w := hI.1
    have hBw10_w7 := hI.2
    replace hS := hS.nil
    have hv6 : sl _ 6 = .bool false := hp 0 (by decide)
    have hBw10_w10 := Below.refl w10.heap.size w10
    have hS := hS.cons hv6
    clear hp hI hv6
    refine hK8 _ _ ?_
    (try clear hK8 K8)
    refine wp_ret ?_
    (try simp only [Exit.then, Exit.inBlock, Exit.jump, Exit.noGoto])
    exact bodyPost_ret (v := .bool false) (results_single rfl (Vals.at (hS.get 0 rfl) .nil)) hS.nodef ⟨rfl, ((hBw10_w.block g0 (blk_lt HP0)).trans HP0), (Tch.more (Tch.refl _ _) hBw10_w)⟩
  rw [if_pos c1] at H
  by_cases c2 : a0_4 = true
  · rw [if_pos c2] at H
    simp only [Option.some.injEq, Prod.mk.injEq] at H
    obtain ⟨rfl, rfl, rfl, rfl, rfl, rfl, rfl, rfl⟩ := H
    refine calls_of_wp (fn := Try.f15) (by kernel_rfl) rfl ?_
    have hS := St.enter #[.pointer (some ⟨g0, 0, none⟩), .int .i64 a1, .int .i64 a2] 33 (by simp) [(0, .pointer (some ⟨g0, 0, none⟩)), (1, .int .i64 a1), (2, .int .i64 a2)] (by simp)
    have HB0 := Below.refl w.heap.size w
    refine wp_seq_k (fun K1 hK1 => ?_)
    refine reg_seq (N := 33) (bs := [(0, .pointer (some ⟨g0, 0, none⟩)), (1, .int .i64 a1), (2, .int .i64 a2)]) (I := fun x => Below w.heap.size w x) (ps := [VB false]) (by kernel_rfl) ?_ ?_ rfl hS HB0 ?_ ?_
    · exact fun x y hI hb => below_step hI hb
    · exact .v (.nil)
    · refine .on rfl (fun a w hS hI hp => does_val (x_assign rfl (rfl)) rfl) ?_
      exact .nil
    clear hS
    intro at2 w3 hS hI hp
    have hBw3_w := hI
    have hBw3_w3 := Below.refl w3.heap.size w3
    clear hp hI
    refine hK1 _ _ ?_
    (try clear hK1 K1)
    refine wp_seq_k (fun K4 hK4 => ?_)
    refine wp_seq_k (fun K5 hK5 => ?_)
    refine reg_seq (N := 33) (bs := [(0, .pointer (some ⟨g0, 0, none⟩)), (1, .int .i64 a1), (2, .int .i64 a2)]) (I := fun x => Below w.heap.size w x ∧ Below w3.heap.size w3 x) (ps := [VP g0 0, VP g0 0, VP g0 3, VB a0_3, VB (!a0_3), VB (!a0_3), VP g0 0, VP g0 0, VP g0 4, VB a0_4, VB a0_4, VB a0_4, VU, VU, VU, VU, VU, VU, VB true]) (by kernel_rfl) ?_ ?_ rfl hS ⟨hBw3_w, hBw3_w3⟩ ?_ ?_
    · exact fun x y hI hb => ⟨below_step hI.1 hb, below_step hI.2 hb⟩
    · exact .v (.v (.v (.v (.v (.v (.v (.v (.v (.v (.v (.v (.v (.v (.v (.v (.v (.v (.v (.nil)))))))))))))))))))
    · refine .ms 0 rfl rfl rfl ?_
      refine .on rfl (fun a w hS hI hp => does_val (x_nilck rfl (hp.V 0 rfl rfl)) rfl) ?_
      refine .on rfl (fun a w hS hI hp => does_val (x_fieldE (b := 0) rfl (hp.V 1 rfl rfl) Try.underlying30 rfl rfl (by kernel_rfl)) rfl) ?_
      refine .on rfl (fun a w hS hI hp => does_val (x_load1 (d := .bool) rfl (hp.V 2 rfl rfl) (by kernel_rfl) rfl ((blk_cell (((hI.1).block g0 (blk_lt HP0)).trans HP0) 3).trans rfl)) rfl) ?_
      refine .on rfl (fun a w hS hI hp => does_val (x_not rfl (hp.V 3 rfl rfl)) rfl) ?_
      refine .mv 4 rfl rfl rfl rfl ?_
      refine .oy 5 12 rfl rfl rfl rfl rfl ((congrArg (!·) c1)) (fun a w hS hI hp => does_val (x_move rfl (hS.get 0 rfl)) rfl) ?_
      refine .oy 5 12 rfl rfl rfl rfl rfl ((congrArg (!·) c1)) (fun a w hS hI hp => does_val (x_nilck rfl (hp.V 6 rfl rfl)) rfl) ?_
      refine .oy 5 12 rfl rfl rfl rfl rfl ((congrArg (!·) c1)) (fun a w hS hI hp => does_val (x_fieldE (b := 0) rfl (hp.V 7 rfl rfl) Try.underlying30 rfl rfl (by kernel_rfl)) rfl) ?_
      refine .oy 5 12 rfl rfl rfl rfl rfl ((congrArg (!·) c1)) (fun a w hS hI hp => does_val (x_load1 (d := .bool) rfl (hp.V 8 rfl rfl) (by kernel_rfl) rfl ((blk_cell (((hI.1).block g0 (blk_lt HP0)).trans HP0) 4).trans rfl)) rfl) ?_
      refine .on rfl (fun a w hS hI hp => does_val (x_pickF rfl ((hp.V 5 rfl rfl).trans (bF (congrArg (!·) c1))) (hp.V 9 rfl rfl)) rfl) ?_
      refine .mv 10 rfl rfl rfl rfl ?_
      iterate 6 refine .sn 11 18 rfl rfl rfl rfl rfl c2 ?_
      refine .on rfl (fun a w hS hI hp => does_val (x_pickT rfl ((hp.V 11 rfl rfl).trans (bT c2)) (rfl)) rfl) ?_
      exact .nil
    clear hS
    intro at6 w7 hS hI hp
    have hBw7_w := hI.1
    have hBw7_w3 := hI.2
    replace hS := ((hS.nil).cons (hS.get 2 rfl)).cons (hS.get 0 rfl)
    have hv25 : sl _ 25 = .bool true := hp 18 (by decide)
    have hBw7_w7 := Below.refl w7.heap.size w7
    have hS := hS.cons hv25
    clear hp hI hv25
    refine hK5 _ _ ?_
    (try clear hK5 K5)
    refine wp_cond_true ((hS.get 0 rfl).trans (bT rfl)) ?_
    refine wp_seq_k (fun K8 hK8 => ?_)
    refine reg_seq (N := 33) (bs := [(25, .bool true), (0, .pointer (some ⟨g0, 0, none⟩)), (2, .int .i64 a2)]) (I := fun x => Below w.heap.size w x ∧ Below w7.heap.size w7 x) (ps := [VB false]) (by kernel_rfl) ?_ ?_ rfl hS ⟨hBw7_w, hBw7_w7⟩ ?_ ?_
    · exact fun x y hI hb => ⟨below_step hI.1 hb, below_step hI.2 hb⟩
    · exact .v (.nil)
    · refine .on rfl (fun a w hS hI hp => does_val (x_assign rfl (rfl)) rfl) ?_
      exact .nil
    clear hS
    intro at9 w10 hS hI hp
    have hBw10_w := hI.1
    have hBw10_w7 := hI.2
    replace hS := hS.nil
    have hv6 : sl _ 6 = .bool false := hp 0 (by decide)
    have hBw10_w10 := Below.refl w10.heap.size w10
    have hS := hS.cons hv6
    clear hp hI hv6
    refine hK8 _ _ ?_
    (try clear hK8 K8)
    refine wp_ret ?_
    (try simp only [Exit.then, Exit.inBlock, Exit.jump, Exit.noGoto])
    exact bodyPost_ret (v := .bool false) (results_single rfl (Vals.at (hS.get 0 rfl) .nil)) hS.nodef ⟨rfl, ((hBw10_w.block g0 (blk_lt HP0)).trans HP0), (Tch.more (Tch.refl _ _) hBw10_w)⟩
  rw [if_neg c2] at H
  by_cases c3 : a1 = a0_5
  rotate_left
  · rw [if_neg c3] at H
    simp only [Option.some.injEq, Prod.mk.injEq] at H
    obtain ⟨rfl, rfl, rfl, rfl, rfl, rfl, rfl, rfl⟩ := H
    refine calls_of_wp (fn := Try.f15) (by kernel_rfl) rfl ?_
    have hS := St.enter #[.pointer (some ⟨g0, 0, none⟩), .int .i64 a1, .int .i64 a2] 33 (by simp) [(0, .pointer (some ⟨g0, 0, none⟩)), (1, .int .i64 a1), (2, .int .i64 a2)] (by simp)
    have HB0 := Below.refl w.heap.size w
    refine wp_seq_k (fun K1 hK1 => ?_)
    refine reg_seq (N := 33) (bs := [(0, .pointer (some ⟨g0, 0, none⟩)), (1, .int .i64 a1), (2, .int .i64 a2)]) (I := fun x => Below w.heap.size w x) (ps := [VB false]) (by kernel_rfl) ?_ ?_ rfl hS HB0 ?_ ?_
    · exact fun x y hI hb => below_step hI hb
    · exact .v (.nil)
    · refine .on rfl (fun a w hS hI hp => does_val (x_assign rfl (rfl)) rfl) ?_
      exact .nil
    clear hS
    intro at2 w3 hS hI hp
    have hBw3_w := hI
    have hBw3_w3 := Below.refl w3.heap.size w3
    clear hp hI
    refine hK1 _ _ ?_
    (try clear hK1 K1)
    refine wp_seq_k (fun K4 hK4 => ?_)
    refine wp_seq_k (fun K5 hK5 => ?_)
    refine reg_seq (N := 33) (bs := [(0, .pointer (some ⟨g0, 0, none⟩)), (1, .int .i64 a1), (2, .int .i64 a2)]) (I := fun x => Below w.heap.size w x ∧ Below w3.heap.size w3 x) (ps := [VP g0 0, VP g0 0, VP g0 3, VB a0_3, VB (!a0_3), VB (!a0_3), VP g0 0, VP g0 0, VP g0 4, VB a0_4, VB a0_4, VB a0_4, VI a1, VP g0 0, VP g0 0, VP g0 5, VI a0_5, VB (!decide (a1 = a0_5)), VB (!decide (a1 = a0_5))]) (by kernel_rfl) ?_ ?_ rfl hS ⟨hBw3_w, hBw3_w3⟩ ?_ ?_
    · exact fun x y hI hb => ⟨below_step hI.1 hb, below_step hI.2 hb⟩
    · exact .v (.v (.v (.v (.v (.v (.v (.v (.v (.v (.v (.v (.v (.v (.v (.v (.v (.v (.v (.nil)))))))))))))))))))
    · refine .ms 0 rfl rfl rfl ?_
      refine .on rfl (fun a w hS hI hp => does_val (x_nilck rfl (hp.V 0 rfl rfl)) rfl) ?_
      refine .on rfl (fun a w hS hI hp => does_val (x_fieldE (b := 0) rfl (hp.V 1 rfl rfl) Try.underlying30 rfl rfl (by kernel_rfl)) rfl) ?_
      refine .on rfl (fun a w hS hI hp => does_val (x_load1 (d := .bool) rfl (hp.V 2 rfl rfl) (by kernel_rfl) rfl ((blk_cell (((hI.1).block g0 (blk_lt HP0)).trans HP0) 3).trans rfl)) rfl) ?_
      refine .on rfl (fun a w hS hI hp => does_val (x_not rfl (hp.V 3 rfl rfl)) rfl) ?_
      refine .mv 4 rfl rfl rfl rfl ?_
      refine .oy 5 12 rfl rfl rfl rfl rfl ((congrArg (!·) c1)) (fun a w hS hI hp => does_val (x_move rfl (hS.get 0 rfl)) rfl) ?_
      refine .oy 5 12 rfl rfl rfl rfl rfl ((congrArg (!·) c1)) (fun a w hS hI hp => does_val (x_nilck rfl (hp.V 6 rfl rfl)) rfl) ?_
      refine .oy 5 12 rfl rfl rfl rfl rfl ((congrArg (!·) c1)) (fun a w hS hI hp => does_val (x_fieldE (b := 0) rfl (hp.V 7 rfl rfl) Try.underlying30 rfl rfl (by kernel_rfl)) rfl) ?_
      refine .oy 5 12 rfl rfl rfl rfl rfl ((congrArg (!·) c1)) (fun a w hS hI hp => does_val (x_load1 (d := .bool) rfl (hp.V 8 rfl rfl) (by kernel_rfl) rfl ((blk_cell (((hI.1).block g0 (blk_lt HP0)).trans HP0) 4).trans rfl)) rfl) ?_
      refine .on rfl (fun a w hS hI hp => does_val (x_pickF rfl ((hp.V 5 rfl rfl).trans (bF (congrArg (!·) c1))) (hp.V 9 rfl rfl)) rfl) ?_
      refine .mv 10 rfl rfl rfl rfl ?_
      refine .oy 11 18 rfl rfl rfl rfl rfl ((Bool.eq_false_iff.2 c2)) (fun a w hS hI hp => does_val (x_move rfl (hS.get 1 rfl)) rfl) ?_
      refine .oy 11 18 rfl rfl rfl rfl rfl ((Bool.eq_false_iff.2 c2)) (fun a w hS hI hp => does_val (x_move rfl (hS.get 0 rfl)) rfl) ?_
      refine .oy 11 18 rfl rfl rfl rfl rfl ((Bool.eq_false_iff.2 c2)) (fun a w hS hI hp => does_val (x_nilck rfl (hp.V 13 rfl rfl)) rfl) ?_
      refine .oy 11 18 rfl rfl rfl rfl rfl ((Bool.eq_false_iff.2 c2)) (fun a w hS hI hp => does_val (x_fieldE (b := 0) rfl (hp.V 14 rfl rfl) Try.underlying30 rfl rfl (by kernel_rfl)) rfl) ?_
      refine .oy 11 18 rfl rfl rfl rfl rfl ((Bool.eq_false_iff.2 c2)) (fun a w hS hI hp => does_val (x_load1 (d := .int .i64) rfl (hp.V 15 rfl rfl) (by kernel_rfl) rfl ((blk_cell (((hI.1).block g0 (blk_lt HP0)).trans HP0) 5).trans rfl)) rfl) ?_
      refine .oy 11 18 rfl rfl rfl rfl rfl ((Bool.eq_false_iff.2 c2)) (fun a w hS hI hp => does_val (x_bin rfl (hp.V 12 rfl rfl) (hp.V 16 rfl rfl) (b_neq _ _ _ _ _ _)) rfl) ?_
      refine .on rfl (fun a w hS hI hp => does_val (x_pickF rfl ((hp.V 11 rfl rfl).trans (bF (Bool.eq_false_iff.2 c2))) (hp.V 17 rfl rfl)) rfl) ?_
      exact .nil
    clear hS
    intro at6 w7 hS hI hp
    have hBw7_w := hI.1
    have hBw7_w3 := hI.2
    replace hS := ((hS.nil).cons (hS.get 2 rfl)).cons (hS.get 0 rfl)
    have hv25 : sl _ 25 = .bool (!decide (a1 = a0_5)) := hp 18 (by decide)
    have hBw7_w7 := Below.refl w7.heap.size w7
    have hS := hS.cons hv25
    clear hp hI hv25
    refine hK5 _ _ ?_
    (try clear hK5 K5)
    refine wp_cond_true ((hS.get 0 rfl).trans (bT (congrArg (!·) (decide_eq_false c3)))) ?_
    refine wp_seq_k (fun K8 hK8 => ?_)
    refine reg_seq (N := 33) (bs := [(25, .bool (!decide (a1 = a0_5))), (0, .pointer (some ⟨g0, 0, none⟩)), (2, .int .i64 a2)]) (I := fun x => Below w.heap.size w x ∧ Below w7.heap.size w7 x) (ps := [VB false]) (by kernel_rfl) ?_ ?_ rfl hS ⟨hBw7_w, hBw7_w7⟩ ?_ ?_
    · exact fun x y hI hb => ⟨below_step hI.1 hb, below_step hI.2 hb⟩
    · exact .v (.nil)
    · refine .on rfl (fun a w hS hI hp => does_val (x_assign rfl (rfl)) rfl) ?_
      exact .nil
    clear hS
    intro at9 w10 hS hI hp
    have hBw10_w := hI.1
    have hBw10_w7 := hI.2
    replace hS := hS.nil
    have hv6 : sl _ 6 = .bool false := hp 0 (by decide)
    have hBw10_w10 := Below.refl w10.heap.size w10
    have hS := hS.cons hv6
    clear hp hI hv6
    refine hK8 _ _ ?_
    (try clear hK8 K8)
    refine wp_ret ?_
    (try simp only [Exit.then, Exit.inBlock, Exit.jump, Exit.noGoto])
    exact bodyPost_ret (v := .bool false) (results_single rfl (Vals.at (hS.get 0 rfl) .nil)) hS.nodef ⟨rfl, ((hBw10_w.block g0 (blk_lt HP0)).trans HP0), (Tch.more (Tch.refl _ _) hBw10_w)⟩
  rw [if_pos c3] at H
  simp only [Option.some.injEq, Prod.mk.injEq] at H
  obtain ⟨rfl, rfl, rfl, rfl, rfl, rfl, rfl, rfl⟩ := H
  refine calls_of_wp (fn := Try.f15) (by kernel_rfl) rfl ?_
  have hS := St.enter #[.pointer (some ⟨g0, 0, none⟩), .int .i64 a1, .int .i64 a2] 33 (by simp) [(0, .pointer (some ⟨g0, 0, none⟩)), (1, .int .i64 a1), (2, .int .i64 a2)] (by simp)
  have HB0 := Below.refl w.heap.size w
  refine wp_seq_k (fun K1 hK1 => ?_)
  refine reg_seq (N := 33) (bs := [(0, .pointer (some ⟨g0, 0, none⟩)), (1, .int .i64 a1), (2, .int .i64 a2)]) (I := fun x => Below w.heap.size w x) (ps := [VB false]) (by kernel_rfl) ?_ ?_ rfl hS HB0 ?_ ?_
  · exact fun x y hI hb => below_step hI hb
  · exact .v (.nil)
  · refine .on rfl (fun a w hS hI hp => does_val (x_assign rfl (rfl)) rfl) ?_
    exact .nil
  clear hS
  intro at2 w3 hS hI hp
  have hBw3_w := hI
  have hBw3_w3 := Below.refl w3.heap.size w3
  clear hp hI
  refine hK1 _ _ ?_
  (try clear hK1 K1)
  refine wp_seq_k (fun K4 hK4 => ?_)
  refine wp_seq_k (fun K5 hK5 => ?_)
  refine reg_seq (N := 33) (bs := [(0, .pointer (some ⟨g0, 0, none⟩)), (1, .int .i64 a1), (2, .int .i64 a2)]) (I := fun x => Below w.heap.size w x ∧ Below w3.heap.size w3 x) (ps := [VP g0 0, VP g0 0, VP g0 3, VB a0_3, VB (!a0_3), VB (!a0_3), VP g0 0, VP g0 0, VP g0 4, VB a0_4, VB a0_4, VB a0_4, VI a1, VP g0 0, VP g0 0, VP g0 5, VI a0_5, VB (!decide (a1 = a0_5)), VB (!decide (a1 = a0_5))]) (by kernel_rfl) ?_ ?_ rfl hS ⟨hBw3_w, hBw3_w3⟩ ?_ ?_
  · exact fun x y hI hb => ⟨below_step hI.1 hb, below_step hI.2 hb⟩
  · exact .v (.v (.v (.v (.v (.v (.v (.v (.v (.v (.v (.v (.v (.v (.v (.v (.v (.v (.v (.nil)))))))))))))))))))
  · refine .ms 0 rfl rfl rfl ?_
    refine .on rfl (fun a w hS hI hp => does_val (x_nilck rfl (hp.V 0 rfl rfl)) rfl) ?_
    refine .on rfl (fun a w hS hI hp => does_val (x_fieldE (b := 0) rfl (hp.V 1 rfl rfl) Try.underlying30 rfl rfl (by kernel_rfl)) rfl) ?_
    refine .on rfl (fun a w hS hI hp => does_val (x_load1 (d := .bool) rfl (hp.V 2 rfl rfl) (by kernel_rfl) rfl ((blk_cell (((hI.1).block g0 (blk_lt HP0)).trans HP0) 3).trans rfl)) rfl) ?_
    refine .on rfl (fun a w hS hI hp => does_val (x_not rfl (hp.V 3 rfl rfl)) rfl) ?_
    refine .mv 4 rfl rfl rfl rfl ?_
    refine .oy 5 12 rfl rfl rfl rfl rfl ((congrArg (!·) c1)) (fun a w hS hI hp => does_val (x_move rfl (hS.get 0 rfl)) rfl) ?_
    refine .oy 5 12 rfl rfl rfl rfl rfl ((congrArg (!·) c1)) (fun a w hS hI hp => does_val (x_nilck rfl (hp.V 6 rfl rfl)) rfl) ?_
    refine .oy 5 12 rfl rfl rfl rfl rfl ((congrArg (!·) c1)) (fun a w hS hI hp => does_val (x_fieldE (b := 0) rfl (hp.V 7 rfl rfl) Try.underlying30 rfl rfl (by kernel_rfl)) rfl) ?_
    refine .oy 5 12 rfl rfl rfl rfl rfl ((congrArg (!·) c1)) (fun a w hS hI hp => does_val (x_load1 (d := .bool) rfl (hp.V 8 rfl rfl) (by kernel_rfl) rfl ((blk_cell (((hI.1).block g0 (blk_lt HP0)).trans HP0) 4).trans rfl)) rfl) ?_
    refine .on rfl (fun a w hS hI hp => does_val (x_pickF rfl ((hp.V 5 rfl rfl).trans (bF (congrArg (!·) c1))) (hp.V 9 rfl rfl)) rfl) ?_
    refine .mv 10 rfl rfl rfl rfl ?_
    refine .oy 11 18 rfl rfl rfl rfl rfl ((Bool.eq_false_iff.2 c2)) (fun a w hS hI hp => does_val (x_move rfl (hS.get 1 rfl)) rfl) ?_
    refine .oy 11 18 rfl rfl rfl rfl rfl ((Bool.eq_false_iff.2 c2)) (fun a w hS hI hp => does_val (x_move rfl (hS.get 0 rfl)) rfl) ?_
    refine .oy 11 18 rfl rfl rfl rfl rfl ((Bool.eq_false_iff.2 c2)) (fun a w hS hI hp => does_val (x_nilck rfl (hp.V 13 rfl rfl)) rfl) ?_
    refine .oy 11 18 rfl rfl rfl rfl rfl ((Bool.eq_false_iff.2 c2)) (fun a w hS hI hp => does_val (x_fieldE (b := 0) rfl (hp.V 14 rfl rfl) Try.underlying30 rfl rfl (by kernel_rfl)) rfl) ?_
    refine .oy 11 18 rfl rfl rfl rfl rfl ((Bool.eq_false_iff.2 c2)) (fun a w hS hI hp => does_val (x_load1 (d := .int .i64) rfl (hp.V 15 rfl rfl) (by kernel_rfl) rfl ((blk_cell (((hI.1).block g0 (blk_lt HP0)).trans HP0) 5).trans rfl)) rfl) ?_
    refine .oy 11 18 rfl rfl rfl rfl rfl ((Bool.eq_false_iff.2 c2)) (fun a w hS hI hp => does_val (x_bin rfl (hp.V 12 rfl rfl) (hp.V 16 rfl rfl) (b_neq _ _ _ _ _ _)) rfl) ?_
    refine .on rfl (fun a w hS hI hp => does_val (x_pickF rfl ((hp.V 11 rfl rfl).trans (bF (Bool.eq_false_iff.2 c2))) (hp.V 17 rfl rfl)) rfl) ?_
    exact .nil
  clear hS
  intro at6 w7 hS hI hp
  have hBw7_w := hI.1
  have hBw7_w3 := hI.2
  replace hS := ((hS.nil).cons (hS.get 2 rfl)).cons (hS.get 0 rfl)
  have hv25 : sl _ 25 = .bool (!decide (a1 = a0_5)) := hp 18 (by decide)
  have hBw7_w7 := Below.refl w7.heap.size w7
  have hS := hS.cons hv25
  clear hp hI hv25
  refine hK5 _ _ ?_
  (try clear hK5 K5)
  refine wp_cond_false ((hS.get 0 rfl).trans (bF (congrArg (!·) (decide_eq_true c3)))) ?_
  refine wp_skip ?_
  refine hK4 _ _ ?_
  (try clear hK4 K4)
  refine wp_seq_k (fun K8 hK8 => ?_)
  refine reg_seq_tail 3 (N := 33) (bs := [(25, .bool (!decide (a1 = a0_5))), (0, .pointer (some ⟨g0, 0, none⟩)), (2, .int .i64 a2)]) (I := fun x => Below w.heap.size w x ∧ Below w7.heap.size w7 x) (ps := [VP g0 0, VP g0 0, VP g0 4]) (by kernel_rfl) ?_ ?_ rfl hS ⟨hBw7_w, hBw7_w7⟩ ?_ ?_
  · exact fun x y hI hb => ⟨below_step hI.1 hb, below_step hI.2 hb⟩
  · exact .v (.v (.v (.nil)))
  · refine .ms 1 rfl rfl rfl ?_
    refine .on rfl (fun a w hS hI hp => does_val (x_nilck rfl (hp.V 0 rfl rfl)) rfl) ?_
    refine .on rfl (fun a w hS hI hp => does_val (x_fieldE (b := 0) rfl (hp.V 1 rfl rfl) Try.underlying30 rfl rfl (by kernel_rfl)) rfl) ?_
    exact .nil
  clear hS
  intro at9 w10 hS hI hp
  have hBw10_w := hI.1
  have hBw10_w7 := hI.2
  replace hS := ((hS.nil).cons (hS.get 2 rfl)).cons (hS.get 1 rfl)
  have hv28 : sl _ 28 = .pointer (some ⟨g0, 4, none⟩) := hp 2 (by decide)
  have hBw10_w10 := Below.refl w10.heap.size w10
  have hS := hS.cons hv28
  clear hp hI hv28
  show wpList _ _ _ [_] _ _
  refine list_step rfl (does_store (g := g0) (off := 4) (v := .bool true) (new := (carillonref17_X_Sent.c0 a0_0 a0_1 a0_2 a0_3 true a0_5 a0_6)) rfl (hS.get 0 rfl) (rfl) ((hBw10_w.block g0 (blk_lt HP0)).trans HP0) (by kernel_rfl) (by kernel_rfl) (by kernel_rfl) (by kernel_rfl)) ?_
  rintro vw11 w11 ⟨rfl, hbxw11, hT⟩
  have hTw11 := (Tch.more (Tch.refl _ _) hBw10_w).trans hT
  have hBw11_w11 := Below.refl w11.heap.size w11
  clear hT
  refine wpList_nil ?_
  refine hK8 _ _ ?_
  (try clear hK8 K8)
  refine wp_seq_k (fun K12 hK12 => ?_)
  refine reg_seq_tail 4 (N := 33) (bs := [(28, .pointer (some ⟨g0, 4, none⟩)), (0, .pointer (some ⟨g0, 0, none⟩)), (2, .int .i64 a2)]) (I := fun x => Below w11.heap.size w11 x) (ps := [VP g0 0, VI a2, VP g0 0, VP g0 6]) (by kernel_rfl) ?_ ?_ rfl hS hBw11_w11 ?_ ?_
  · exact fun x y hI hb => below_step hI hb
  · exact .v (.v (.v (.v (.nil))))
  · refine .ms 1 rfl rfl rfl ?_
    refine .ms 2 rfl rfl rfl ?_
    refine .on rfl (fun a w hS hI hp => does_val (x_nilck rfl (hp.V 0 rfl rfl)) rfl) ?_
    refine .on rfl (fun a w hS hI hp => does_val (x_fieldE (b := 0) rfl (hp.V 2 rfl rfl) Try.underlying30 rfl rfl (by kernel_rfl)) rfl) ?_
    exact .nil
  clear hS
  intro at13 w14 hS hI hp
  have hBw14_w11 := hI
  replace hS := hS.nil
  have hv30 : sl _ 30 = .int .i64 a2 := hp 1 (by decide)
  have hv32 : sl _ 32 = .pointer (some ⟨g0, 6, none⟩) := hp 3 (by decide)
  have hBw14_w14 := Below.refl w14.heap.size w14
  have hS := hS.cons hv30
  have hS := hS.cons hv32
  clear hp hI hv30 hv32
  show wpList _ _ _ [_] _ _
  refine list_step rfl (does_store (g := g0) (off := 6) (v := .int .i64 a2) (new := (carillonref17_X_Sent.c0 a0_0 a0_1 a0_2 a0_3 true a0_5 a2)) rfl (hS.get 0 rfl) (hS.get 1 rfl) ((hBw14_w11.block g0 (blk_lt hbxw11)).trans hbxw11) (by kernel_rfl) (by kernel_rfl) (by kernel_rfl) (by kernel_rfl)) ?_
  rintro vw15 w15 ⟨rfl, hbxw15, hT⟩
  have hTw15 := (Tch.more hTw11 hBw14_w11).trans hT
  have hBw15_w15 := Below.refl w15.heap.size w15
  clear hT
  refine wpList_nil ?_
  refine hK12 _ _ ?_
  (try clear hK12 K12)
  refine wp_seq_k (fun K16 hK16 => ?_)
  refine reg_seq (N := 33) (bs := [(32, .pointer (some ⟨g0, 6, none⟩)), (30, .int .i64 a2)]) (I := fun x => Below w15.heap.size w15 x) (ps := [VB true]) (by kernel_rfl) ?_ ?_ rfl hS hBw15_w15 ?_ ?_
  · exact fun x y hI hb => below_step hI hb
  · exact .v (.nil)
  · refine .on rfl (fun a w hS hI hp => does_val (x_assign rfl (rfl)) rfl) ?_
    exact .nil
  clear hS
  intro at17 w18 hS hI hp
  have hBw18_w15 := hI
  replace hS := hS.nil
  have hv6 : sl _ 6 = .bool true := hp 0 (by decide)
  have hBw18_w18 := Below.refl w18.heap.size w18
  have hS := hS.cons hv6
  clear hp hI hv6
  refine hK16 _ _ ?_
  (try clear hK16 K16)
  refine wp_ret ?_
  (try simp only [Exit.then, Exit.inBlock, Exit.jump, Exit.noGoto])
  exact bodyPost_ret (v := .bool true) (results_single rfl (Vals.at (hS.get 0 rfl) .nil)) hS.nodef ⟨rfl, ((hBw18_w15.block g0 (blk_lt hbxw15)).trans hbxw15), (Tch.more hTw15 hBw18_w15)⟩
/-! ### delay_Exchange_Clear: function 16: by our own printer -/
def delay_Exchange_Clear.f (a0_0 a0_1 a0_2 a0_3 a0_4 : Int) (a0_5 a0_6 : Bool) : Option (Int × Int × Int × Int × Int × Bool × Bool) := some (a0_0, a0_1, a0_2, 0, 0, false, false)
abbrev delay_Exchange_Clear.c0 (x0 x1 x2 x3 x4 : Int) (x5 x6 : Bool) : Array Value := #[.int .u64 x0, .int .i64 x1, .int .i64 x2, .int .i64 x3, .int .i64 x4, .bool x5, .bool x6]
open Go.Proofs.Ytpfjpfbhgeoadaa.E in
set_option maxHeartbeats 60000000 in
set_option maxRecDepth 100000 in
theorem delay_Exchange_Clear.calls (g0 : Nat) (a0_0 a0_1 a0_2 a0_3 a0_4 : Int) (a0_5 a0_6 : Bool) (r1 r2 r3 r4 r5 : Int) (r6 r7 : Bool) (w : World) (HP0 : w.heap[g0]? = some (.cells #[.int .u64 a0_0, .int .i64 a0_1, .int .i64 a0_2, .int .i64 a0_3, .int .i64 a0_4, .bool a0_5, .bool a0_6] 54 (0, 0))) (h : delay_Exchange_Clear.f a0_0 a0_1 a0_2 a0_3 a0_4 a0_5 a0_6 = some (r1, r2, r3, r4, r5, r6, r7)) :
    Calls Try.prog 16 #[.pointer (some ⟨g0, 0, none⟩)] w fun e w' => e = .returned (.tuple #[]) ∧ w'.heap[g0]? = some (.cells #[.int .u64 r1, .int .i64 r2, .int .i64 r3, .int .i64 r4, .int .i64 r5, .bool r6, .bool r7] 54 (0, 0)) ∧ Tch g0 w w' := by
  have H := h
  clear h
  unfold delay_Exchange_Clear.f at H
  simp only [Option.some.injEq, Prod.mk.injEq] at H
  obtain ⟨rfl, rfl, rfl, rfl, rfl, rfl, rfl⟩ := H
  refine calls_of_wp (fn := Try.f16) (by kernel_rfl) rfl ?_
  have hS := St.enter #[.pointer (some ⟨g0, 0, none⟩)] 6 (by simp) [(0, .pointer (some ⟨g0, 0, none⟩))] (by simp)
  have HB0 := Below.refl w.heap.size w
  refine reg_seq_tail 4 (N := 6) (bs := [(0, .pointer (some ⟨g0, 0, none⟩))]) (I := fun x => Below w.heap.size w x) (ps := [VP g0 0, IsV (.agg #[.int .i64 0, .int .i64 0, .bool false, .bool false]), VP g0 0, VP g0 3]) (by kernel_rfl) ?_ ?_ rfl hS HB0 ?_ ?_
  · exact fun x y hI hb => below_step hI hb
  · exact .v (.v (.v (.v (.nil))))
  · refine .ms 0 rfl rfl rfl ?_
    refine .on rfl (fun a w hS hI hp => does_val (x_build (vs := []) rfl (by rw [Array.toList_map]; exact (show [] = _ from rfl)) (by kernel_rfl)) rfl) ?_
    refine .on rfl (fun a w hS hI hp => does_val (x_nilck rfl (hp.V 0 rfl rfl)) rfl) ?_
    refine .on rfl (fun a w hS hI hp => does_val (x_fieldE (b := 0) rfl (hp.V 2 rfl rfl) Try.underlying54 rfl rfl (by kernel_rfl)) rfl) ?_
    exact .nil
  clear hS
  intro at1 w2 hS hI hp
  have hBw2_w := hI
  replace hS := hS.nil
  have hv3 : sl _ 3 = .agg #[.int .i64 0, .int .i64 0, .bool false, .bool false] := hp 1 (by decide)
  have hv5 : sl _ 5 = .pointer (some ⟨g0, 3, none⟩) := hp 3 (by decide)
  have hBw2_w2 := Below.refl w2.heap.size w2
  have hS := hS.cons hv3
  have hS := hS.cons hv5
  clear hp hI hv3 hv5
  show wpList _ _ _ [_] _ _
  refine list_step rfl (does_store (g := g0) (off := 3) (v := .agg #[.int .i64 0, .int .i64 0, .bool false, .bool false]) (new := (delay_Exchange_Clear.c0 a0_0 a0_1 a0_2 0 0 false false)) rfl (hS.get 0 rfl) (hS.get 1 rfl) ((hBw2_w.block g0 (blk_lt HP0)).trans HP0) (by kernel_rfl) (by kernel_rfl) (by kernel_rfl) (by kernel_rfl)) ?_
  rintro vw3 w3 ⟨rfl, hbxw3, hT⟩
  have hTw3 := (Tch.more (Tch.refl _ _) hBw2_w).trans hT
  have hBw3_w3 := Below.refl w3.heap.size w3
  clear hT
  refine wpList_nil ?_
  (try simp only [Exit.then, Exit.inBlock, Exit.jump, Exit.noGoto])
  exact bodyPost_end (v := .tuple #[]) (results_list (rs := []) rfl (by simp) .nil) hS.nodef ⟨rfl, ((hBw3_w3.block g0 (blk_lt hbxw3)).trans hbxw3), (Tch.more hTw3 hBw3_w3)⟩
/-! ### carillonref17_X_Clear: function 17: by our own printer -/
def carillonref17_X_Clear.f (a0_0 a0_1 a0_2 : Int) (a0_3 a0_4 : Bool) (a0_5 a0_6 : Int) : Option (Int × Int × Int × Bool × Bool × Int × Int) := some (a0_0, a0_1, a0_2, false, false, 0, 0)
abbrev carillonref17_X_Clear.c0 (x0 x1 x2 : Int) (x3 x4 : Bool) (x5 x6 : Int) : Array Value := #[.int .u64 x0, .int .i64 x1, .int .i64 x2, .bool x3, .bool x4, .int .i64 x5, .int .i64 x6]
open Go.Proofs.Ytpfjpfbhgeoadaa.E in
set_option maxHeartbeats 60000000 in
set_option maxRecDepth 100000 in
theorem carillonref17_X_Clear.calls (g0 : Nat) (a0_0 a0_1 a0_2 : Int) (a0_3 a0_4 : Bool) (a0_5 a0_6 r1 r2 r3 : Int) (r4 r5 : Bool) (r6 r7 : Int) (w : World) (HP0 : w.heap[g0]? = some (.cells #[.int .u64 a0_0, .int .i64 a0_1, .int .i64 a0_2, .bool a0_3, .bool a0_4, .int .i64 a0_5, .int .i64 a0_6] 30 (0, 0))) (h : carillonref17_X_Clear.f a0_0 a0_1 a0_2 a0_3 a0_4 a0_5 a0_6 = some (r1, r2, r3, r4, r5, r6, r7)) :
    Calls Try.prog 17 #[.pointer (some ⟨g0, 0, none⟩)] w fun e w' => e = .returned (.tuple #[]) ∧ w'.heap[g0]? = some (.cells #[.int .u64 r1, .int .i64 r2, .int .i64 r3, .bool r4, .bool r5, .int .i64 r6, .int .i64 r7] 30 (0, 0)) ∧ Tch g0 w w' := by
  have H := h
  clear h
  unfold carillonref17_X_Clear.f at H
  simp only [Option.some.injEq, Prod.mk.injEq] at H
  obtain ⟨rfl, rfl, rfl, rfl, rfl, rfl, rfl⟩ := H
  refine calls_of_wp (fn := Try.f17) (by kernel_rfl) rfl ?_
  have hS := St.enter #[.pointer (some ⟨g0, 0, none⟩)] 14 (by simp) [(0, .pointer (some ⟨g0, 0, none⟩))] (by simp)
  have HB0 := Below.refl w.heap.size w
  refine wp_seq_k (fun K1 hK1 => ?_)
  refine reg_seq_tail 3 (N := 14) (bs := [(0, .pointer (some ⟨g0, 0, none⟩))]) (I := fun x => Below w.heap.size w x) (ps := [VP g0 0, VP g0 0, VP g0 3]) (by kernel_rfl) ?_ ?_ rfl hS HB0 ?_ ?_
  · exact fun x y hI hb => below_step hI hb
  · exact .v (.v (.v (.nil)))
  · refine .ms 0 rfl rfl rfl ?_
    refine .on rfl (fun a w hS hI hp => does_val (x_nilck rfl (hp.V 0 rfl rfl)) rfl) ?_
    refine .on rfl (fun a w hS hI hp => does_val (x_fieldE (b := 0) rfl (hp.V 1 rfl rfl) Try.underlying30 rfl rfl (by kernel_rfl)) rfl) ?_
    exact .nil
  clear hS
  intro at2 w3 hS hI hp
  have hBw3_w := hI
  have hv4 : sl _ 4 = .pointer (some ⟨g0, 3, none⟩) := hp 2 (by decide)
  have hBw3_w3 := Below.refl w3.heap.size w3
  have hS := hS.cons hv4
  clear hp hI hv4
  show wpList _ _ _ [_] _ _
  refine list_step rfl (does_store (g := g0) (off := 3) (v := .bool false) (new := (carillonref17_X_Clear.c0 a0_0 a0_1 a0_2 false a0_4 a0_5 a0_6)) rfl (hS.get 0 rfl) (rfl) ((hBw3_w.block g0 (blk_lt HP0)).trans HP0) (by kernel_rfl) (by kernel_rfl) (by kernel_rfl) (by kernel_rfl)) ?_
  rintro vw4 w4 ⟨rfl, hbxw4, hT⟩
  have hTw4 := (Tch.more (Tch.refl _ _) hBw3_w).trans hT
  have hBw4_w4 := Below.refl w4.heap.size w4
  clear hT
  refine wpList_nil ?_
  refine hK1 _ _ ?_
  (try clear hK1 K1)
  refine wp_seq_k (fun K5 hK5 => ?_)
  refine reg_seq_tail 3 (N := 14) (bs := [(4, .pointer (some ⟨g0, 3, none⟩)), (0, .pointer (some ⟨g0, 0, none⟩))]) (I := fun x => Below w4.heap.size w4 x) (ps := [VP g0 0, VP g0 0, VP g0 4]) (by kernel_rfl) ?_ ?_ rfl hS hBw4_w4 ?_ ?_
  · exact fun x y hI hb => below_step hI hb
  · exact .v (.v (.v (.nil)))
  · refine .ms 1 rfl rfl rfl ?_
    refine .on rfl (fun a w hS hI hp => does_val (x_nilck rfl (hp.V 0 rfl rfl)) rfl) ?_
    refine .on rfl (fun a w hS hI hp => does_val (x_fieldE (b := 0) rfl (hp.V 1 rfl rfl) Try.underlying30 rfl rfl (by kernel_rfl)) rfl) ?_
    exact .nil
  clear hS
  intro at6 w7 hS hI hp
  have hBw7_w4 := hI
  replace hS := (hS.nil).cons (hS.get 1 rfl)
  have hv7 : sl _ 7 = .pointer (some ⟨g0, 4, none⟩) := hp 2 (by decide)
  have hBw7_w7 := Below.refl w7.heap.size w7
  have hS := hS.cons hv7
  clear hp hI hv7
  show wpList _ _ _ [_] _ _
  refine list_step rfl (does_store (g := g0) (off := 4) (v := .bool false) (new := (carillonref17_X_Clear.c0 a0_0 a0_1 a0_2 false false a0_5 a0_6)) rfl (hS.get 0 rfl) (rfl) ((hBw7_w4.block g0 (blk_lt hbxw4)).trans hbxw4) (by kernel_rfl) (by kernel_rfl) (by kernel_rfl) (by kernel_rfl)) ?_
  rintro vw8 w8 ⟨rfl, hbxw8, hT⟩
  have hTw8 := (Tch.more hTw4 hBw7_w4).trans hT
  have hBw8_w8 := Below.refl w8.heap.size w8
  clear hT
  refine wpList_nil ?_
  refine hK5 _ _ ?_
  (try clear hK5 K5)
  refine wp_seq_k (fun K9 hK9 => ?_)
  refine reg_seq_tail 3 (N := 14) (bs := [(7, .pointer (some ⟨g0, 4, none⟩)), (0, .pointer (some ⟨g0, 0, none⟩))]) (I := fun x => Below w8.heap.size w8 x) (ps := [VP g0 0, VP g0 0, VP g0 5]) (by kernel_rfl) ?_ ?_ rfl hS hBw8_w8 ?_ ?_
  · exact fun x y hI hb => below_step hI hb
  · exact .v (.v (.v (.nil)))
  · refine .ms 1 rfl rfl rfl ?_
    refine .on rfl (fun a w hS hI hp => does_val (x_nilck rfl (hp.V 0 rfl rfl)) rfl) ?_
    refine .on rfl (fun a w hS hI hp => does_val (x_fieldE (b := 0) rfl (hp.V 1 rfl rfl) Try.underlying30 rfl rfl (by kernel_rfl)) rfl) ?_
    exact .nil
  clear hS
  intro at10 w11 hS hI hp
  have hBw11_w8 := hI
  replace hS := (hS.nil).cons (hS.get 1 rfl)
  have hv10 : sl _ 10 = .pointer (some ⟨g0, 5, none⟩) := hp 2 (by decide)
  have hBw11_w11 := Below.refl w11.heap.size w11
  have hS := hS.cons hv10
  clear hp hI hv10
  show wpList _ _ _ [_] _ _
  refine list_step rfl (does_store (g := g0) (off := 5) (v := .int .i64 0) (new := (carillonref17_X_Clear.c0 a0_0 a0_1 a0_2 false false 0 a0_6)) rfl (hS.get 0 rfl) (rfl) ((hBw11_w8.block g0 (blk_lt hbxw8)).trans hbxw8) (by kernel_rfl) (by kernel_rfl) (by kernel_rfl) (by kernel_rfl)) ?_
  rintro vw12 w12 ⟨rfl, hbxw12, hT⟩
  have hTw12 := (Tch.more hTw8 hBw11_w8).trans hT
  have hBw12_w12 := Below.refl w12.heap.size w12
  clear hT
  refine wpList_nil ?_
  refine hK9 _ _ ?_
  (try clear hK9 K9)
  refine reg_seq_tail 3 (N := 14) (bs := [(10, .pointer (some ⟨g0, 5, none⟩)), (0, .pointer (some ⟨g0, 0, none⟩))]) (I := fun x => Below w12.heap.size w12 x) (ps := [VP g0 0, VP g0 0, VP g0 6]) (by kernel_rfl) ?_ ?_ rfl hS hBw12_w12 ?_ ?_
  · exact fun x y hI hb => below_step hI hb
  · exact .v (.v (.v (.nil)))
  · refine .ms 1 rfl rfl rfl ?_
    refine .on rfl (fun a w hS hI hp => does_val (x_nilck rfl (hp.V 0 rfl rfl)) rfl) ?_
    refine .on rfl (fun a w hS hI hp => does_val (x_fieldE (b := 0) rfl (hp.V 1 rfl rfl) Try.underlying30 rfl rfl (by kernel_rfl)) rfl) ?_
    exact .nil
  clear hS
  intro at13 w14 hS hI hp
  have hBw14_w12 := hI
  replace hS := hS.nil
  have hv13 : sl _ 13 = .pointer (some ⟨g0, 6, none⟩) := hp 2 (by decide)
  have hBw14_w14 := Below.refl w14.heap.size w14
  have hS := hS.cons hv13
  clear hp hI hv13
  show wpList _ _ _ [_] _ _
  refine list_step rfl (does_store (g := g0) (off := 6) (v := .int .i64 0) (new := (carillonref17_X_Clear.c0 a0_0 a0_1 a0_2 false false 0 0)) rfl (hS.get 0 rfl) (rfl) ((hBw14_w12.block g0 (blk_lt hbxw12)).trans hbxw12) (by kernel_rfl) (by kernel_rfl) (by kernel_rfl) (by kernel_rfl)) ?_
  rintro vw15 w15 ⟨rfl, hbxw15, hT⟩
  have hTw15 := (Tch.more hTw12 hBw14_w12).trans hT
  have hBw15_w15 := Below.refl w15.heap.size w15
  clear hT
  refine wpList_nil ?_
  (try simp only [Exit.then, Exit.inBlock, Exit.jump, Exit.noGoto])
  exact bodyPost_end (v := .tuple #[]) (results_list (rs := []) rfl (by simp) .nil) hS.nodef ⟨rfl, ((hBw15_w15.block g0 (blk_lt hbxw15)).trans hbxw15), (Tch.more hTw15 hBw15_w15)⟩
/-! ### stamp_Floor: function 24 -/
def stamp_Floor.f (a0 : Int) : Option (Int) := some (a0 / 65536)
set_option maxHeartbeats 8000000 in
set_option maxRecDepth 100000 in
theorem stamp_Floor.calls (a0 : Int) (r : Int) (w : World) (h : stamp_Floor.f a0 = some r) :
    Calls Try.prog 24 #[.int .i64 a0] w fun e w' => e = .returned (.int .i64 r) ∧ Drawn0 w w' := by
  have H : (some (a0 / 65536)) = some r := h
  clear h
  obtain rfl := Option.some.inj H
  go_enter Try.func24, Try.ntmps24
  go_wp2
  all_goals
    go_ret
    exact ⟨by first | rfl | (simp; done) | (simp [*]; done), by repeat (first | exact Drawn0.refl _ | apply Drawn0.step)⟩
/-! ### delay_Exchange_Response: function 18: by our own printer -/
def delay_Exchange_Response.f (a0_0 a0_1 a0_2 a0_3 a0_4 : Int) (a0_5 a0_6 : Bool) (a1_0 a1_1 a1_2 a1_3 a1_4 a1_5 a1_6 a1_7 a1_8 a1_9 a1_10 a1_11 a1_12 a1_13 a1_14 a1_15 a1_16 a1_17 a1_18 a1_19 a1_20 a1_21 a1_22 : Int) : Option (Int × Bool × Int × Int × Int × Int × Int × Bool × Bool) := if a1_0 = 9 then (if ((a1_9 == a0_0) && (a1_10 == a0_1)) = true then (if a0_6 = true then (if a1_6 = a0_3 then ((stamp_Floor.f a1_3).bind fun t11 => ((delay_Exchange_Clear.f a0_0 a0_1 a0_2 a0_3 a0_4 a0_5 a0_6).bind fun t18 => (some (wrap64 ((wrap64 (a1_8 - a0_4)) - t11), true, t18.1, t18.2.1, t18.2.2.1, t18.2.2.2.1, t18.2.2.2.2.1, t18.2.2.2.2.2.1, t18.2.2.2.2.2.2)))) else (some (0, false, a0_0, a0_1, a0_2, a0_3, a0_4, a0_5, a0_6))) else (some (0, false, a0_0, a0_1, a0_2, a0_3, a0_4, a0_5, a0_6))) else (some (0, false, a0_0, a0_1, a0_2, a0_3, a0_4, a0_5, a0_6))) else (some (0, false, a0_0, a0_1, a0_2, a0_3, a0_4, a0_5, a0_6))
open Go.Proofs.Ytpfjpfbhgeoadaa.E in
set_option maxRecDepth 100000 in
theorem delay_Exchange_Response.neq24 (x y : Operand) (w : World) (a0 a1 b0 b1 : Int) : (do eqGuard .neq 24 x y (.agg #[.int .u64 a0, .int .i64 a1]) (.agg #[.int .u64 b0, .int .i64 b1]); binOp .neq 24 (.agg #[.int .u64 a0, .int .i64 a1]) (.agg #[.int .u64 b0, .int .i64 b1]) : Sem Value).run Try.prog w = .ok (.bool (!((a0 == b0) && (a1 == b1)))) w := by
  have hu3 := Try.underlying3
  have hu22 := Try.underlying22
  have hu24 := Try.underlying24
  conv => lhs; simp [eqGuard, go_sem, hu3, hu22, hu24]
  exact ite_nand (ite_nlast)
abbrev delay_Exchange_Response.v0 (x0 x1 x2 x3 x4 x5 x6 x7 x8 x9 x10 x11 x12 x13 x14 x15 x16 x17 x18 x19 x20 x21 x22 : Int) : Value := .agg #[.int .i64 x0, .int .i64 x1, .int .i64 x2, .int .i64 x3, .int .u64 x4, .int .i64 x5, .int .i64 x6, .int .i64 x7, .int .i64 x8, .int .u64 x9, .int .i64 x10, .int .i64 x11, .int .i64 x12, .int .i64 x13, .int .i64 x14, .int .i64 x15, .int .i64 x16, .int .u64 x17, .int .i64 x18, .int .i64 x19, .int .i64 x20, .int .i64 x21, .int .i64 x22]
abbrev delay_Exchange_Response.c1 (x0 x1 x2 x3 x4 x5 x6 x7 x8 x9 x10 x11 x12 x13 x14 x15 x16 x17 x18 x19 x20 x21 x22 : Int) : Array Value := #[.int .i64 x0, .int .i64 x1, .int .i64 x2, .int .i64 x3, .int .u64 x4, .int .i64 x5, .int .i64 x6, .int .i64 x7, .int .i64 x8, .int .u64 x9, .int .i64 x10, .int .i64 x11, .int .i64 x12, .int .i64 x13, .int .i64 x14, .int .i64 x15, .int .i64 x16, .int .u64 x17, .int .i64 x18, .int .i64 x19, .int .i64 x20, .int .i64 x21, .int .i64 x22]
abbrev delay_Exchange_Response.c2 (x0 x1 x2 x3 x4 : Int) (x5 x6 : Bool) : Array Value := #[.int .u64 x0, .int .i64 x1, .int .i64 x2, .int .i64 x3, .int .i64 x4, .bool x5, .bool x6]
open Go.Proofs.Ytpfjpfbhgeoadaa.E in
set_option maxHeartbeats 60000000 in
set_option maxRecDepth 100000 in
theorem delay_Exchange_Response.calls (g0 : Nat) (a0_0 a0_1 a0_2 a0_3 a0_4 : Int) (a0_5 a0_6 : Bool) (a1_0 a1_1 a1_2 a1_3 a1_4 a1_5 a1_6 a1_7 a1_8 a1_9 a1_10 a1_11 a1_12 a1_13 a1_14 a1_15 a1_16 a1_17 a1_18 a1_19 a1_20 a1_21 a1_22 r1 : Int) (r2 : Bool) (r3 r4 r5 r6 r7 : Int) (r8 r9 : Bool) (w : World) (HP0 : w.heap[g0]? = some (.cells #[.int .u64 a0_0, .int .i64 a0_1, .int .i64 a0_2, .int .i64 a0_3, .int .i64 a0_4, .bool a0_5, .bool a0_6] 54 (0, 0))) (h : delay_Exchange_Response.f a0_0 a0_1 a0_2 a0_3 a0_4 a0_5 a0_6 a1_0 a1_1 a1_2 a1_3 a1_4 a1_5 a1_6 a1_7 a1_8 a1_9 a1_10 a1_11 a1_12 a1_13 a1_14 a1_15 a1_16 a1_17 a1_18 a1_19 a1_20 a1_21 a1_22 = some (r1, r2, r3, r4, r5, r6, r7, r8, r9)) :
    Calls Try.prog 18 #[.pointer (some ⟨g0, 0, none⟩), .agg #[.int .i64 a1_0, .int .i64 a1_1, .int .i64 a1_2, .int .i64 a1_3, .int .u64 a1_4, .int .i64 a1_5, .int .i64 a1_6, .int .i64 a1_7, .int .i64 a1_8, .int .u64 a1_9, .int .i64 a1_10, .int .i64 a1_11, .int .i64 a1_12, .int .i64 a1_13, .int .i64 a1_14, .int .i64 a1_15, .int .i64 a1_16, .int .u64 a1_17, .int .i64 a1_18, .int .i64 a1_19, .int .i64 a1_20, .int .i64 a1_21, .int .i64 a1_22]] w fun e w' => e = .returned (.tuple #[.int .i64 r1, .bool r2]) ∧ w'.heap[g0]? = some (.cells #[.int .u64 r3, .int .i64 r4, .int .i64 r5, .int .i64 r6, .int .i64 r7, .bool r8, .bool r9] 54 (0, 0)) ∧ Tch g0 w w' := by
  have H := h
  clear h
  unfold delay_Exchange_Response.f at H
  by_cases c1 : a1_0 = 9
  rotate_left
  · rw [if_neg c1] at H
    simp only [Option.some.injEq, Prod.mk.injEq] at H
    obtain ⟨rfl, rfl, rfl, rfl, rfl, rfl, rfl, rfl, rfl⟩ := H
    refine calls_of_wp (fn := Try.f18) (by kernel_rfl) rfl ?_
    have hS := St.enter #[.pointer (some ⟨g0, 0, none⟩), (delay_Exchange_Response.v0 a1_0 a1_1 a1_2 a1_3 a1_4 a1_5 a1_6 a1_7 a1_8 a1_9 a1_10 a1_11 a1_12 a1_13 a1_14 a1_15 a1_16 a1_17 a1_18 a1_19 a1_20 a1_21 a1_22)] 52 (by simp) [(0, .pointer (some ⟨g0, 0, none⟩)), (1, (delay_Exchange_Response.v0 a1_0 a1_1 a1_2 a1_3 a1_4 a1_5 a1_6 a1_7 a1_8 a1_9 a1_10 a1_11 a1_12 a1_13 a1_14 a1_15 a1_16 a1_17 a1_18 a1_19 a1_20 a1_21 a1_22))] (by simp)
    have HB0 := Below.refl w.heap.size w
    refine wp_seq_k (fun K1 hK1 => ?_)
    refine reg_seq (N := 52) (bs := [(0, .pointer (some ⟨g0, 0, none⟩)), (1, (delay_Exchange_Response.v0 a1_0 a1_1 a1_2 a1_3 a1_4 a1_5 a1_6 a1_7 a1_8 a1_9 a1_10 a1_11 a1_12 a1_13 a1_14 a1_15 a1_16 a1_17 a1_18 a1_19 a1_20 a1_21 a1_22))]) (I := fun x => Below w.heap.size w x) (ps := [IsB (delay_Exchange_Response.c1 a1_0 a1_1 a1_2 a1_3 a1_4 a1_5 a1_6 a1_7 a1_8 a1_9 a1_10 a1_11 a1_12 a1_13 a1_14 a1_15 a1_16 a1_17 a1_18 a1_19 a1_20 a1_21 a1_22) 34 w.heap.size, VI 0, VB false]) (by kernel_rfl) ?_ ?_ rfl hS HB0 ?_ ?_
    · exact fun x y hI hb => below_step hI hb
    · exact .cons (Stays.b _ _ _) (.v (.v (.nil)))
    · refine .on rfl (fun a w hS hI hp => does_var (x_box rfl (congrArg Value.cells (hS.get 1 rfl))) (hI).size) ?_
      iterate 2 refine .on rfl (fun a w hS hI hp => does_val (x_assign rfl (rfl)) rfl) ?_
      exact .nil
    clear hS
    intro at2 w3 hS hI hp
    have hBw3_w := hI
    replace hS := (hS.nil).cons (hS.get 0 rfl)
    obtain ⟨g4, hv3, hgeg4, hbxg4⟩ := (show IsB _ 34 _ (sl _ 3) _ from hp 0 (by decide))
    have hne5 : g4 ≠ g0 := Nat.ne_of_gt (Nat.lt_of_lt_of_le (blk_lt ((HB0.block g0 (blk_lt HP0)).trans HP0)) hgeg4)
    have hBw3_w3 := Below.refl w3.heap.size w3
    have hS := hS.cons hv3
    clear hp hI hv3
    refine hK1 _ _ ?_
    (try clear hK1 K1)
    refine wp_seq_k (fun K6 hK6 => ?_)
    refine wp_seq_k (fun K7 hK7 => ?_)
    refine reg_any (N := 52) (bs := [(3, .pointer (some ⟨g4, 0, none⟩)), (0, .pointer (some ⟨g0, 0, none⟩))]) (I := fun x => Below w.heap.size w x ∧ Below w3.heap.size w3 x) (ps := [VP g4 0, VI a1_0, VB (!decide (a1_0 = 9)), VB (!decide (a1_0 = 9)), VU, VU, VU, VU, VU, VU, VU, VB true, VB true, VU, VU, VU, VU, VU, VU, VB true, VB true, VU, VU, VU, VU, VU, VU, VU, VU, VB true]) (by kernel_rfl) (by kernel_rfl) ?_ ?_ rfl hS ⟨hBw3_w, hBw3_w3⟩ ?_ ?_
    · exact fun x y hI hb => ⟨below_step hI.1 hb, below_step hI.2 hb⟩
    · exact .v (.v (.v (.v (.v (.v (.v (.v (.v (.v (.v (.v (.v (.v (.v (.v (.v (.v (.v (.v (.v (.v (.v (.v (.v (.v (.v (.v (.v (.v (.nil))))))))))))))))))))))))))))))
    · refine .on rfl (fun a w hS hI hp => does_val (x_fieldE (b := 0) rfl (hS.get 0 rfl) Try.underlying34 rfl rfl (by kernel_rfl)) rfl) ?_
      refine .on rfl (fun a w hS hI hp => does_val (x_load1 (d := .int .i64) rfl (hp.V 0 rfl rfl) (by kernel_rfl) rfl ((blk_cell (((hI.2).block g4 (blk_lt hbxg4)).trans hbxg4) 0).trans rfl)) rfl) ?_
      refine .on rfl (fun a w hS hI hp => does_val (x_bin rfl (hp.V 1 rfl rfl) (rfl) (b_neq _ _ _ _ _ _)) rfl) ?_
      refine .mv 2 rfl rfl rfl rfl ?_
      iterate 7 refine .sn 3 10 rfl rfl rfl rfl rfl ((congrArg (!·) (decide_eq_false c1))) ?_
      refine .on rfl (fun a w hS hI hp => does_val (x_pickT rfl ((hp.V 3 rfl rfl).trans (bT (congrArg (!·) (decide_eq_false c1)))) (rfl)) rfl) ?_
      refine .mv 11 rfl rfl rfl rfl ?_
      iterate 6 refine .sn 12 19 rfl rfl rfl rfl rfl rfl ?_
      refine .on rfl (fun a w hS hI hp => does_val (x_pickT rfl ((hp.V 12 rfl rfl).trans (bT rfl)) (rfl)) rfl) ?_
      refine .mv 19 rfl rfl rfl rfl ?_
      iterate 8 refine .sn 20 27 rfl rfl rfl rfl rfl rfl ?_
      refine .on rfl (fun a w hS hI hp => does_val (x_pickT rfl ((hp.V 20 rfl rfl).trans (bT rfl)) (rfl)) rfl) ?_
      exact .nil
    clear hS
    intro at8 w9 hS hI hp
    have hBw9_w := hI.1
    have hBw9_w3 := hI.2
    have hv36 : sl _ 36 = .bool true := hp 29 (by decide)
    have hBw9_w9 := Below.refl w9.heap.size w9
    have hS := hS.cons hv36
    clear hp hI hv36
    refine hK7 _ _ ?_
    (try clear hK7 K7)
    refine wp_cond_true ((hS.get 0 rfl).trans (bT rfl)) ?_
    refine wp_seq_k (fun K10 hK10 => ?_)
    refine reg_seq (N := 52) (bs := [(36, .bool true), (3, .pointer (some ⟨g4, 0, none⟩)), (0, .pointer (some ⟨g0, 0, none⟩))]) (I := fun x => Below w.heap.size w x ∧ Below w3.heap.size w3 x ∧ Below w9.heap.size w9 x) (ps := [VI 0, VB false]) (by kernel_rfl) ?_ ?_ rfl hS ⟨hBw9_w, hBw9_w3, hBw9_w9⟩ ?_ ?_
    · exact fun x y hI hb => ⟨below_step hI.1 hb, below_step hI.2.1 hb, below_step hI.2.2 hb⟩
    · exact .v (.v (.nil))
    · refine .on rfl (fun a w hS hI hp => does_val (x_assign rfl (rfl)) rfl) ?_
      refine .on rfl (fun a w hS hI hp => does_val (x_assign rfl (rfl)) rfl) ?_
      exact .nil
    clear hS
    intro at11 w12 hS hI hp
    have hBw12_w := hI.1
    have hBw12_w3 := hI.2.1
    have hBw12_w9 := hI.2.2
    replace hS := hS.nil
    have hv4 : sl _ 4 = .int .i64 0 := hp 0 (by decide)
    have hv5 : sl _ 5 = .bool false := hp 1 (by decide)
    have hBw12_w12 := Below.refl w12.heap.size w12
    have hS := hS.cons hv4
    have hS := hS.cons hv5
    clear hp hI hv4 hv5
    refine hK10 _ _ ?_
    (try clear hK10 K10)
    refine wp_ret ?_
    (try simp only [Exit.then, Exit.inBlock, Exit.jump, Exit.noGoto])
    exact bodyPost_ret (v := .tuple #[.int .i64 0, .bool false]) (results_list (rs := [.tmp 4, .tmp 5]) rfl (by simp) (Vals.at (hS.get 1 rfl) (Vals.at (hS.get 0 rfl) .nil))) hS.nodef ⟨rfl, ((hBw12_w.block g0 (blk_lt HP0)).trans HP0), (Tch.more (Tch.refl _ _) hBw12_w)⟩
  rw [if_pos c1] at H
  by_cases c2 : ((a1_9 == a0_0) && (a1_10 == a0_1)) = true
  rotate_left
  · rw [if_neg c2] at H
    simp only [Option.some.injEq, Prod.mk.injEq] at H
    obtain ⟨rfl, rfl, rfl, rfl, rfl, rfl, rfl, rfl, rfl⟩ := H
    refine calls_of_wp (fn := Try.f18) (by kernel_rfl) rfl ?_
    have hS := St.enter #[.pointer (some ⟨g0, 0, none⟩), (delay_Exchange_Response.v0 a1_0 a1_1 a1_2 a1_3 a1_4 a1_5 a1_6 a1_7 a1_8 a1_9 a1_10 a1_11 a1_12 a1_13 a1_14 a1_15 a1_16 a1_17 a1_18 a1_19 a1_20 a1_21 a1_22)] 52 (by simp) [(0, .pointer (some ⟨g0, 0, none⟩)), (1, (delay_Exchange_Response.v0 a1_0 a1_1 a1_2 a1_3 a1_4 a1_5 a1_6 a1_7 a1_8 a1_9 a1_10 a1_11 a1_12 a1_13 a1_14 a1_15 a1_16 a1_17 a1_18 a1_19 a1_20 a1_21 a1_22))] (by simp)
    have HB0 := Below.refl w.heap.size w
    refine wp_seq_k (fun K1 hK1 => ?_)
    refine reg_seq (N := 52) (bs := [(0, .pointer (some ⟨g0, 0, none⟩)), (1, (delay_Exchange_Response.v0 a1_0 a1_1 a1_2 a1_3 a1_4 a1_5 a1_6 a1_7 a1_8 a1_9 a1_10 a1_11 a1_12 a1_13 a1_14 a1_15 a1_16 a1_17 a1_18 a1_19 a1_20 a1_21 a1_22))]) (I := fun x => Below w.heap.size w x) (ps := [IsB (delay_Exchange_Response.c1 a1_0 a1_1 a1_2 a1_3 a1_4 a1_5 a1_6 a1_7 a1_8 a1_9 a1_10 a1_11 a1_12 a1_13 a1_14 a1_15 a1_16 a1_17 a1_18 a1_19 a1_20 a1_21 a1_22) 34 w.heap.size, VI 0, VB false]) (by kernel_rfl) ?_ ?_ rfl hS HB0 ?_ ?_
    · exact fun x y hI hb => below_step hI hb
    · exact .cons (Stays.b _ _ _) (.v (.v (.nil)))
    · refine .on rfl (fun a w hS hI hp => does_var (x_box rfl (congrArg Value.cells (hS.get 1 rfl))) (hI).size) ?_
      iterate 2 refine .on rfl (fun a w hS hI hp => does_val (x_assign rfl (rfl)) rfl) ?_
      exact .nil
    clear hS
    intro at2 w3 hS hI hp
    have hBw3_w := hI
    replace hS := (hS.nil).cons (hS.get 0 rfl)
    obtain ⟨g4, hv3, hgeg4, hbxg4⟩ := (show IsB _ 34 _ (sl _ 3) _ from hp 0 (by decide))
    have hne5 : g4 ≠ g0 := Nat.ne_of_gt (Nat.lt_of_lt_of_le (blk_lt ((HB0.block g0 (blk_lt HP0)).trans HP0)) hgeg4)
    have hBw3_w3 := Below.refl w3.heap.size w3
    have hS := hS.cons hv3
    clear hp hI hv3
    refine hK1 _ _ ?_
    (try clear hK1 K1)
    refine wp_seq_k (fun K6 hK6 => ?_)
    refine wp_seq_k (fun K7 hK7 => ?_)
    refine reg_any (N := 52) (bs := [(3, .pointer (some ⟨g4, 0, none⟩)), (0, .pointer (some ⟨g0, 0, none⟩))]) (I := fun x => Below w.heap.size w x ∧ Below w3.heap.size w3 x) (ps := [VP g4 0, VI a1_0, VB (!decide (a1_0 = 9)), VB (!decide (a1_0 = 9)), VP g4 9, IsV (.agg #[.int .u64 a1_9, .int .i64 a1_10]), VP g0 0, VP g0 0, VP g0 0, IsV (.agg #[.int .u64 a0_0, .int .i64 a0_1]), VB (!((a1_9 == a0_0) && (a1_10 == a0_1))), VB (!((a1_9 == a0_0) && (a1_10 == a0_1))), VB (!((a1_9 == a0_0) && (a1_10 == a0_1))), VU, VU, VU, VU, VU, VU, VB true, VB true, VU, VU, VU, VU, VU, VU, VU, VU, VB true]) (by kernel_rfl) (by kernel_rfl) ?_ ?_ rfl hS ⟨hBw3_w, hBw3_w3⟩ ?_ ?_
    · exact fun x y hI hb => ⟨below_step hI.1 hb, below_step hI.2 hb⟩
    · exact .v (.v (.v (.v (.v (.v (.v (.v (.v (.v (.v (.v (.v (.v (.v (.v (.v (.v (.v (.v (.v (.v (.v (.v (.v (.v (.v (.v (.v (.v (.nil))))))))))))))))))))))))))))))
    · refine .on rfl (fun a w hS hI hp => does_val (x_fieldE (b := 0) rfl (hS.get 0 rfl) Try.underlying34 rfl rfl (by kernel_rfl)) rfl) ?_
      refine .on rfl (fun a w hS hI hp => does_val (x_load1 (d := .int .i64) rfl (hp.V 0 rfl rfl) (by kernel_rfl) rfl ((blk_cell (((hI.2).block g4 (blk_lt hbxg4)).trans hbxg4) 0).trans rfl)) rfl) ?_
      refine .on rfl (fun a w hS hI hp => does_val (x_bin rfl (hp.V 1 rfl rfl) (rfl) (b_neq _ _ _ _ _ _)) rfl) ?_
      refine .mv 2 rfl rfl rfl rfl ?_
      refine .oy 3 10 rfl rfl rfl rfl rfl ((congrArg (!·) (decide_eq_true c1))) (fun a w hS hI hp => does_val (x_fieldE (b := 0) rfl (hS.get 0 rfl) Try.underlying34 rfl rfl (by kernel_rfl)) rfl) ?_
      refine .oy 3 10 rfl rfl rfl rfl rfl ((congrArg (!·) (decide_eq_true c1))) (fun a w hS hI hp => does_loadmid (cs := [.int .u64 a1_9, .int .i64 a1_10]) rfl (hp.V 4 rfl rfl) (((hI.2).block g4 (blk_lt hbxg4)).trans hbxg4) (by kernel_rfl) Try.underlying24 rfl (by kernel_rfl) rfl) ?_
      refine .oy 3 10 rfl rfl rfl rfl rfl ((congrArg (!·) (decide_eq_true c1))) (fun a w hS hI hp => does_val (x_move rfl (hS.get 1 rfl)) rfl) ?_
      refine .oy 3 10 rfl rfl rfl rfl rfl ((congrArg (!·) (decide_eq_true c1))) (fun a w hS hI hp => does_val (x_nilck rfl (hp.V 6 rfl rfl)) rfl) ?_
      refine .oy 3 10 rfl rfl rfl rfl rfl ((congrArg (!·) (decide_eq_true c1))) (fun a w hS hI hp => does_val (x_fieldE (b := 0) rfl (hp.V 7 rfl rfl) Try.underlying54 rfl rfl (by kernel_rfl)) rfl) ?_
      refine .oy 3 10 rfl rfl rfl rfl rfl ((congrArg (!·) (decide_eq_true c1))) (fun a w hS hI hp => does_loadmid (cs := [.int .u64 a0_0, .int .i64 a0_1]) rfl (hp.V 8 rfl rfl) (((hI.1).block g0 (blk_lt HP0)).trans HP0) (by kernel_rfl) Try.underlying24 rfl (by kernel_rfl) rfl) ?_
      refine .oy 3 10 rfl rfl rfl rfl rfl ((congrArg (!·) (decide_eq_true c1))) (fun a w hS hI hp => does_val (x_bin rfl (hp.V 5 rfl rfl) (hp.V 9 rfl rfl) (delay_Exchange_Response.neq24 _ _ _ a1_9 a1_10 a0_0 a0_1)) rfl) ?_
      refine .on rfl (fun a w hS hI hp => does_val (x_pickF rfl ((hp.V 3 rfl rfl).trans (bF (congrArg (!·) (decide_eq_true c1)))) (hp.V 10 rfl rfl)) rfl) ?_
      refine .mv 11 rfl rfl rfl rfl ?_
      iterate 6 refine .sn 12 19 rfl rfl rfl rfl rfl ((congrArg (!·) (Bool.eq_false_iff.2 c2))) ?_
      refine .on rfl (fun a w hS hI hp => does_val (x_pickT rfl ((hp.V 12 rfl rfl).trans (bT (congrArg (!·) (Bool.eq_false_iff.2 c2)))) (rfl)) rfl) ?_
      refine .mv 19 rfl rfl rfl rfl ?_
      iterate 8 refine .sn 20 27 rfl rfl rfl rfl rfl rfl ?_
      refine .on rfl (fun a w hS hI hp => does_val (x_pickT rfl ((hp.V 20 rfl rfl).trans (bT rfl)) (rfl)) rfl) ?_
      exact .nil
    clear hS
    intro at8 w9 hS hI hp
    have hBw9_w := hI.1
    have hBw9_w3 := hI.2
    have hv36 : sl _ 36 = .bool true := hp 29 (by decide)
    have hBw9_w9 := Below.refl w9.heap.size w9
    have hS := hS.cons hv36
    clear hp hI hv36
    refine hK7 _ _ ?_
    (try clear hK7 K7)
    refine wp_cond_true ((hS.get 0 rfl).trans (bT rfl)) ?_
    refine wp_seq_k (fun K10 hK10 => ?_)
    refine reg_seq (N := 52) (bs := [(36, .bool true), (3, .pointer (some ⟨g4, 0, none⟩)), (0, .pointer (some ⟨g0, 0, none⟩))]) (I := fun x => Below w.heap.size w x ∧ Below w3.heap.size w3 x ∧ Below w9.heap.size w9 x) (ps := [VI 0, VB false]) (by kernel_rfl) ?_ ?_ rfl hS ⟨hBw9_w, hBw9_w3, hBw9_w9⟩ ?_ ?_
    · exact fun x y hI hb => ⟨below_step hI.1 hb, below_step hI.2.1 hb, below_step hI.2.2 hb⟩
    · exact .v (.v (.nil))
    · refine .on rfl (fun a w hS hI hp => does_val (x_assign rfl (rfl)) rfl) ?_
      refine .on rfl (fun a w hS hI hp => does_val (x_assign rfl (rfl)) rfl) ?_
      exact .nil
    clear hS
    intro at11 w12 hS hI hp
    have hBw12_w := hI.1
    have hBw12_w3 := hI.2.1
    have hBw12_w9 := hI.2.2
    replace hS := hS.nil
    have hv4 : sl _ 4 = .int .i64 0 := hp 0 (by decide)
    have hv5 : sl _ 5 = .bool false := hp 1 (by decide)
    have hBw12_w12 := Below.refl w12.heap.size w12
    have hS := hS.cons hv4
    have hS := hS.cons hv5
    clear hp hI hv4 hv5
    refine hK10 _ _ ?_
    (try clear hK10 K10)
    refine wp_ret ?_
    (try simp only [Exit.then, Exit.inBlock, Exit.jump, Exit.noGoto])
    exact bodyPost_ret (v := .tuple #[.int .i64 0, .bool false]) (results_list (rs := [.tmp 4, .tmp 5]) rfl (by simp) (Vals.at (hS.get 1 rfl) (Vals.at (hS.get 0 rfl) .nil))) hS.nodef ⟨rfl, ((hBw12_w.block g0 (blk_lt HP0)).trans HP0), (Tch.more (Tch.refl _ _) hBw12_w)⟩
  rw [if_pos c2] at H
  by_cases c3 : a0_6 = true
  rotate_left
  · rw [if_neg c3] at H
    simp only [Option.some.injEq, Prod.mk.injEq] at H
    obtain ⟨rfl, rfl, rfl, rfl, rfl, rfl, rfl, rfl, rfl⟩ := H
    refine calls_of_wp (fn := Try.f18) (by kernel_rfl) rfl ?_
    have hS := St.enter #[.pointer (some ⟨g0, 0, none⟩), (delay_Exchange_Response.v0 a1_0 a1_1 a1_2 a1_3 a1_4 a1_5 a1_6 a1_7 a1_8 a1_9 a1_10 a1_11 a1_12 a1_13 a1_14 a1_15 a1_16 a1_17 a1_18 a1_19 a1_20 a1_21 a1_22)] 52 (by simp) [(0, .pointer (some ⟨g0, 0, none⟩)), (1, (delay_Exchange_Response.v0 a1_0 a1_1 a1_2 a1_3 a1_4 a1_5 a1_6 a1_7 a1_8 a1_9 a1_10 a1_11 a1_12 a1_13 a1_14 a1_15 a1_16 a1_17 a1_18 a1_19 a1_20 a1_21 a1_22))] (by simp)
    have HB0 := Below.refl w.heap.size w
    refine wp_seq_k (fun K1 hK1 => ?_)
    refine reg_seq (N := 52) (bs := [(0, .pointer (some ⟨g0, 0, none⟩)), (1, (delay_Exchange_Response.v0 a1_0 a1_1 a1_2 a1_3 a1_4 a1_5 a1_6 a1_7 a1_8 a1_9 a1_10 a1_11 a1_12 a1_13 a1_14 a1_15 a1_16 a1_17 a1_18 a1_19 a1_20 a1_21 a1_22))]) (I := fun x => Below w.heap.size w x) (ps := [IsB (delay_Exchange_Response.c1 a1_0 a1_1 a1_2 a1_3 a1_4 a1_5 a1_6 a1_7 a1_8 a1_9 a1_10 a1_11 a1_12 a1_13 a1_14 a1_15 a1_16 a1_17 a1_18 a1_19 a1_20 a1_21 a1_22) 34 w.heap.size, VI 0, VB false]) (by kernel_rfl) ?_ ?_ rfl hS HB0 ?_ ?_
    · exact fun x y hI hb => below_step hI hb
    · exact .cons (Stays.b _ _ _) (.v (.v (.nil)))
    · refine .on rfl (fun a w hS hI hp => does_var (x_box rfl (congrArg Value.cells (hS.get 1 rfl))) (hI).size) ?_
      iterate 2 refine .on rfl (fun a w hS hI hp => does_val (x_assign rfl (rfl)) rfl) ?_
      exact .nil
    clear hS
    intro at2 w3 hS hI hp
    have hBw3_w := hI
    replace hS := (hS.nil).cons (hS.get 0 rfl)
    obtain ⟨g4, hv3, hgeg4, hbxg4⟩ := (show IsB _ 34 _ (sl _ 3) _ from hp 0 (by decide))
    have hne5 : g4 ≠ g0 := Nat.ne_of_gt (Nat.lt_of_lt_of_le (blk_lt ((HB0.block g0 (blk_lt HP0)).trans HP0)) hgeg4)
    have hBw3_w3 := Below.refl w3.heap.size w3
    have hS := hS.cons hv3
    clear hp hI hv3
    refine hK1 _ _ ?_
    (try clear hK1 K1)
    refine wp_seq_k (fun K6 hK6 => ?_)
    refine wp_seq_k (fun K7 hK7 => ?_)
    refine reg_any (N := 52) (bs := [(3, .pointer (some ⟨g4, 0, none⟩)), (0, .pointer (some ⟨g0, 0, none⟩))]) (I := fun x => Below w.heap.size w x ∧ Below w3.heap.size w3 x) (ps := [VP g4 0, VI a1_0, VB (!decide (a1_0 = 9)), VB (!decide (a1_0 = 9)), VP g4 9, IsV (.agg #[.int .u64 a1_9, .int .i64 a1_10]), VP g0 0, VP g0 0, VP g0 0, IsV (.agg #[.int .u64 a0_0, .int .i64 a0_1]), VB (!((a1_9 == a0_0) && (a1_10 == a0_1))), VB (!((a1_9 == a0_0) && (a1_10 == a0_1))), VB (!((a1_9 == a0_0) && (a1_10 == a0_1))), VP g0 0, VP g0 0, VP g0 3, VP g0 6, VB a0_6, VB (!a0_6), VB (!a0_6), VB (!a0_6), VU, VU, VU, VU, VU, VU, VU, VU, VB true]) (by kernel_rfl) (by kernel_rfl) ?_ ?_ rfl hS ⟨hBw3_w, hBw3_w3⟩ ?_ ?_
    · exact fun x y hI hb => ⟨below_step hI.1 hb, below_step hI.2 hb⟩
    · exact .v (.v (.v (.v (.v (.v (.v (.v (.v (.v (.v (.v (.v (.v (.v (.v (.v (.v (.v (.v (.v (.v (.v (.v (.v (.v (.v (.v (.v (.v (.nil))))))))))))))))))))))))))))))
    · refine .on rfl (fun a w hS hI hp => does_val (x_fieldE (b := 0) rfl (hS.get 0 rfl) Try.underlying34 rfl rfl (by kernel_rfl)) rfl) ?_
      refine .on rfl (fun a w hS hI hp => does_val (x_load1 (d := .int .i64) rfl (hp.V 0 rfl rfl) (by kernel_rfl) rfl ((blk_cell (((hI.2).block g4 (blk_lt hbxg4)).trans hbxg4) 0).trans rfl)) rfl) ?_
      refine .on rfl (fun a w hS hI hp => does_val (x_bin rfl (hp.V 1 rfl rfl) (rfl) (b_neq _ _ _ _ _ _)) rfl) ?_
      refine .mv 2 rfl rfl rfl rfl ?_
      refine .oy 3 10 rfl rfl rfl rfl rfl ((congrArg (!·) (decide_eq_true c1))) (fun a w hS hI hp => does_val (x_fieldE (b := 0) rfl (hS.get 0 rfl) Try.underlying34 rfl rfl (by kernel_rfl)) rfl) ?_
      refine .oy 3 10 rfl rfl rfl rfl rfl ((congrArg (!·) (decide_eq_true c1))) (fun a w hS hI hp => does_loadmid (cs := [.int .u64 a1_9, .int .i64 a1_10]) rfl (hp.V 4 rfl rfl) (((hI.2).block g4 (blk_lt hbxg4)).trans hbxg4) (by kernel_rfl) Try.underlying24 rfl (by kernel_rfl) rfl) ?_
      refine .oy 3 10 rfl rfl rfl rfl rfl ((congrArg (!·) (decide_eq_true c1))) (fun a w hS hI hp => does_val (x_move rfl (hS.get 1 rfl)) rfl) ?_
      refine .oy 3 10 rfl rfl rfl rfl rfl ((congrArg (!·) (decide_eq_true c1))) (fun a w hS hI hp => does_val (x_nilck rfl (hp.V 6 rfl rfl)) rfl) ?_
      refine .oy 3 10 rfl rfl rfl rfl rfl ((congrArg (!·) (decide_eq_true c1))) (fun a w hS hI hp => does_val (x_fieldE (b := 0) rfl (hp.V 7 rfl rfl) Try.underlying54 rfl rfl (by kernel_rfl)) rfl) ?_
      refine .oy 3 10 rfl rfl rfl rfl rfl ((congrArg (!·) (decide_eq_true c1))) (fun a w hS hI hp => does_loadmid (cs := [.int .u64 a0_0, .int .i64 a0_1]) rfl (hp.V 8 rfl rfl) (((hI.1).block g0 (blk_lt HP0)).trans HP0) (by kernel_rfl) Try.underlying24 rfl (by kernel_rfl) rfl) ?_
      refine .oy 3 10 rfl rfl rfl rfl rfl ((congrArg (!·) (decide_eq_true c1))) (fun a w hS hI hp => does_val (x_bin rfl (hp.V 5 rfl rfl) (hp.V 9 rfl rfl) (delay_Exchange_Response.neq24 _ _ _ a1_9 a1_10 a0_0 a0_1)) rfl) ?_
      refine .on rfl (fun a w hS hI hp => does_val (x_pickF rfl ((hp.V 3 rfl rfl).trans (bF (congrArg (!·) (decide_eq_true c1)))) (hp.V 10 rfl rfl)) rfl) ?_
      refine .mv 11 rfl rfl rfl rfl ?_
      refine .oy 12 19 rfl rfl rfl rfl rfl ((congrArg (!·) c2)) (fun a w hS hI hp => does_val (x_move rfl (hS.get 1 rfl)) rfl) ?_
      refine .oy 12 19 rfl rfl rfl rfl rfl ((congrArg (!·) c2)) (fun a w hS hI hp => does_val (x_nilck rfl (hp.V 13 rfl rfl)) rfl) ?_
      refine .oy 12 19 rfl rfl rfl rfl rfl ((congrArg (!·) c2)) (fun a w hS hI hp => does_val (x_fieldE (b := 0) rfl (hp.V 14 rfl rfl) Try.underlying54 rfl rfl (by kernel_rfl)) rfl) ?_
      refine .oy 12 19 rfl rfl rfl rfl rfl ((congrArg (!·) c2)) (fun a w hS hI hp => does_val (x_fieldE (b := 3) rfl (hp.V 15 rfl rfl) Try.underlying52 rfl rfl (by kernel_rfl)) rfl) ?_
      refine .oy 12 19 rfl rfl rfl rfl rfl ((congrArg (!·) c2)) (fun a w hS hI hp => does_val (x_load1 (d := .bool) rfl (hp.V 16 rfl rfl) (by kernel_rfl) rfl ((blk_cell (((hI.1).block g0 (blk_lt HP0)).trans HP0) 6).trans rfl)) rfl) ?_
      refine .oy 12 19 rfl rfl rfl rfl rfl ((congrArg (!·) c2)) (fun a w hS hI hp => does_val (x_not rfl (hp.V 17 rfl rfl)) rfl) ?_
      refine .on rfl (fun a w hS hI hp => does_val (x_pickF rfl ((hp.V 12 rfl rfl).trans (bF (congrArg (!·) c2))) (hp.V 18 rfl rfl)) rfl) ?_
      refine .mv 19 rfl rfl rfl rfl ?_
      iterate 8 refine .sn 20 27 rfl rfl rfl rfl rfl ((congrArg (!·) (Bool.eq_false_iff.2 c3))) ?_
      refine .on rfl (fun a w hS hI hp => does_val (x_pickT rfl ((hp.V 20 rfl rfl).trans (bT (congrArg (!·) (Bool.eq_false_iff.2 c3)))) (rfl)) rfl) ?_
      exact .nil
    clear hS
    intro at8 w9 hS hI hp
    have hBw9_w := hI.1
    have hBw9_w3 := hI.2
    have hv36 : sl _ 36 = .bool true := hp 29 (by decide)
    have hBw9_w9 := Below.refl w9.heap.size w9
    have hS := hS.cons hv36
    clear hp hI hv36
    refine hK7 _ _ ?_
    (try clear hK7 K7)
    refine wp_cond_true ((hS.get 0 rfl).trans (bT rfl)) ?_
    refine wp_seq_k (fun K10 hK10 => ?_)
    refine reg_seq (N := 52) (bs := [(36, .bool true), (3, .pointer (some ⟨g4, 0, none⟩)), (0, .pointer (some ⟨g0, 0, none⟩))]) (I := fun x => Below w.heap.size w x ∧ Below w3.heap.size w3 x ∧ Below w9.heap.size w9 x) (ps := [VI 0, VB false]) (by kernel_rfl) ?_ ?_ rfl hS ⟨hBw9_w, hBw9_w3, hBw9_w9⟩ ?_ ?_
    · exact fun x y hI hb => ⟨below_step hI.1 hb, below_step hI.2.1 hb, below_step hI.2.2 hb⟩
    · exact .v (.v (.nil))
    · refine .on rfl (fun a w hS hI hp => does_val (x_assign rfl (rfl)) rfl) ?_
      refine .on rfl (fun a w hS hI hp => does_val (x_assign rfl (rfl)) rfl) ?_
      exact .nil
    clear hS
    intro at11 w12 hS hI hp
    have hBw12_w := hI.1
    have hBw12_w3 := hI.2.1
    have hBw12_w9 := hI.2.2
    replace hS := hS.nil
    have hv4 : sl _ 4 = .int .i64 0 := hp 0 (by decide)
    have hv5 : sl _ 5 = .bool false := hp 1 (by decide)
    have hBw12_w12 := Below.refl w12.heap.size w12
    have hS := hS.cons hv4
    have hS := hS.cons hv5
    clear hp hI hv4 hv5
    refine hK10 _ _ ?_
    (try clear hK10 K10)
    refine wp_ret ?_
    (try simp only [Exit.then, Exit.inBlock, Exit.jump, Exit.noGoto])
    exact bodyPost_ret (v := .tuple #[.int .i64 0, .bool false]) (results_list (rs := [.tmp 4, .tmp 5]) rfl (by simp) (Vals.at (hS.get 1 rfl) (Vals.at (hS.get 0 rfl) .nil))) hS.nodef ⟨rfl, ((hBw12_w.block g0 (blk_lt HP0)).trans HP0), (Tch.more (Tch.refl _ _) hBw12_w)⟩
  rw [if_pos c3] at H
  by_cases c4 : a1_6 = a0_3
  rotate_left
  · rw [if_neg c4] at H
    simp only [Option.some.injEq, Prod.mk.injEq] at H
    obtain ⟨rfl, rfl, rfl, rfl, rfl, rfl, rfl, rfl, rfl⟩ := H
    refine calls_of_wp (fn := Try.f18) (by kernel_rfl) rfl ?_
    have hS := St.enter #[.pointer (some ⟨g0, 0, none⟩), (delay_Exchange_Response.v0 a1_0 a1_1 a1_2 a1_3 a1_4 a1_5 a1_6 a1_7 a1_8 a1_9 a1_10 a1_11 a1_12 a1_13 a1_14 a1_15 a1_16 a1_17 a1_18 a1_19 a1_20 a1_21 a1_22)] 52 (by simp) [(0, .pointer (some ⟨g0, 0, none⟩)), (1, (delay_Exchange_Response.v0 a1_0 a1_1 a1_2 a1_3 a1_4 a1_5 a1_6 a1_7 a1_8 a1_9 a1_10 a1_11 a1_12 a1_13 a1_14 a1_15 a1_16 a1_17 a1_18 a1_19 a1_20 a1_21 a1_22))] (by simp)
    have HB0 := Below.refl w.heap.size w
    refine wp_seq_k (fun K1 hK1 => ?_)
    refine reg_seq (N := 52) (bs := [(0, .pointer (some ⟨g0, 0, none⟩)), (1, (delay_Exchange_Response.v0 a1_0 a1_1 a1_2 a1_3 a1_4 a1_5 a1_6 a1_7 a1_8 a1_9 a1_10 a1_11 a1_12 a1_13 a1_14 a1_15 a1_16 a1_17 a1_18 a1_19 a1_20 a1_21 a1_22))]) (I := fun x => Below w.heap.size w x) (ps := [IsB (delay_Exchange_Response.c1 a1_0 a1_1 a1_2 a1_3 a1_4 a1_5 a1_6 a1_7 a1_8 a1_9 a1_10 a1_11 a1_12 a1_13 a1_14 a1_15 a1_16 a1_17 a1_18 a1_19 a1_20 a1_21 a1_22) 34 w.heap.size, VI 0, VB false]) (by kernel_rfl) ?_ ?_ rfl hS HB0 ?_ ?_
    · exact fun x y hI hb => below_step hI hb
    · exact .cons (Stays.b _ _ _) (.v (.v (.nil)))
    · refine .on rfl (fun a w hS hI hp => does_var (x_box rfl (congrArg Value.cells (hS.get 1 rfl))) (hI).size) ?_
      iterate 2 refine .on rfl (fun a w hS hI hp => does_val (x_assign rfl (rfl)) rfl) ?_
      exact .nil
    clear hS
    intro at2 w3 hS hI hp
    have hBw3_w := hI
    replace hS := (hS.nil).cons (hS.get 0 rfl)
    obtain ⟨g4, hv3, hgeg4, hbxg4⟩ := (show IsB _ 34 _ (sl _ 3) _ from hp 0 (by decide))
    have hne5 : g4 ≠ g0 := Nat.ne_of_gt (Nat.lt_of_lt_of_le (blk_lt ((HB0.block g0 (blk_lt HP0)).trans HP0)) hgeg4)
    have hBw3_w3 := Below.refl w3.heap.size w3
    have hS := hS.cons hv3
    clear hp hI hv3
    refine hK1 _ _ ?_
    (try clear hK1 K1)
    refine wp_seq_k (fun K6 hK6 => ?_)
    refine wp_seq_k (fun K7 hK7 => ?_)
    refine reg_any (N := 52) (bs := [(3, .pointer (some ⟨g4, 0, none⟩)), (0, .pointer (some ⟨g0, 0, none⟩))]) (I := fun x => Below w.heap.size w x ∧ Below w3.heap.size w3 x) (ps := [VP g4 0, VI a1_0, VB (!decide (a1_0 = 9)), VB (!decide (a1_0 = 9)), VP g4 9, IsV (.agg #[.int .u64 a1_9, .int .i64 a1_10]), VP g0 0, VP g0 0, VP g0 0, IsV (.agg #[.int .u64 a0_0, .int .i64 a0_1]), VB (!((a1_9 == a0_0) && (a1_10 == a0_1))), VB (!((a1_9 == a0_0) && (a1_10 == a0_1))), VB (!((a1_9 == a0_0) && (a1_10 == a0_1))), VP g0 0, VP g0 0, VP g0 3, VP g0 6, VB a0_6, VB (!a0_6), VB (!a0_6), VB (!a0_6), VP g4 6, VI a1_6, VP g0 0, VP g0 0, VP g0 3, VP g0 3, VI a0_3, VB (!decide (a1_6 = a0_3)), VB (!decide (a1_6 = a0_3))]) (by kernel_rfl) (by kernel_rfl) ?_ ?_ rfl hS ⟨hBw3_w, hBw3_w3⟩ ?_ ?_
    · exact fun x y hI hb => ⟨below_step hI.1 hb, below_step hI.2 hb⟩
    · exact .v (.v (.v (.v (.v (.v (.v (.v (.v (.v (.v (.v (.v (.v (.v (.v (.v (.v (.v (.v (.v (.v (.v (.v (.v (.v (.v (.v (.v (.v (.nil))))))))))))))))))))))))))))))
    · refine .on rfl (fun a w hS hI hp => does_val (x_fieldE (b := 0) rfl (hS.get 0 rfl) Try.underlying34 rfl rfl (by kernel_rfl)) rfl) ?_
      refine .on rfl (fun a w hS hI hp => does_val (x_load1 (d := .int .i64) rfl (hp.V 0 rfl rfl) (by kernel_rfl) rfl ((blk_cell (((hI.2).block g4 (blk_lt hbxg4)).trans hbxg4) 0).trans rfl)) rfl) ?_
      refine .on rfl (fun a w hS hI hp => does_val (x_bin rfl (hp.V 1 rfl rfl) (rfl) (b_neq _ _ _ _ _ _)) rfl) ?_
      refine .mv 2 rfl rfl rfl rfl ?_
      refine .oy 3 10 rfl rfl rfl rfl rfl ((congrArg (!·) (decide_eq_true c1))) (fun a w hS hI hp => does_val (x_fieldE (b := 0) rfl (hS.get 0 rfl) Try.underlying34 rfl rfl (by kernel_rfl)) rfl) ?_
      refine .oy 3 10 rfl rfl rfl rfl rfl ((congrArg (!·) (decide_eq_true c1))) (fun a w hS hI hp => does_loadmid (cs := [.int .u64 a1_9, .int .i64 a1_10]) rfl (hp.V 4 rfl rfl) (((hI.2).block g4 (blk_lt hbxg4)).trans hbxg4) (by kernel_rfl) Try.underlying24 rfl (by kernel_rfl) rfl) ?_
      refine .oy 3 10 rfl rfl rfl rfl rfl ((congrArg (!·) (decide_eq_true c1))) (fun a w hS hI hp => does_val (x_move rfl (hS.get 1 rfl)) rfl) ?_
      refine .oy 3 10 rfl rfl rfl rfl rfl ((congrArg (!·) (decide_eq_true c1))) (fun a w hS hI hp => does_val (x_nilck rfl (hp.V 6 rfl rfl)) rfl) ?_
      refine .oy 3 10 rfl rfl rfl rfl rfl ((congrArg (!·) (decide_eq_true c1))) (fun a w hS hI hp => does_val (x_fieldE (b := 0) rfl (hp.V 7 rfl rfl) Try.underlying54 rfl rfl (by kernel_rfl)) rfl) ?_
      refine .oy 3 10 rfl rfl rfl rfl rfl ((congrArg (!·) (decide_eq_true c1))) (fun a w hS hI hp => does_loadmid (cs := [.int .u64 a0_0, .int .i64 a0_1]) rfl (hp.V 8 rfl rfl) (((hI.1).block g0 (blk_lt HP0)).trans HP0) (by kernel_rfl) Try.underlying24 rfl (by kernel_rfl) rfl) ?_
      refine .oy 3 10 rfl rfl rfl rfl rfl ((congrArg (!·) (decide_eq_true c1))) (fun a w hS hI hp => does_val (x_bin rfl (hp.V 5 rfl rfl) (hp.V 9 rfl rfl) (delay_Exchange_Response.neq24 _ _ _ a1_9 a1_10 a0_0 a0_1)) rfl) ?_
      refine .on rfl (fun a w hS hI hp => does_val (x_pickF rfl ((hp.V 3 rfl rfl).trans (bF (congrArg (!·) (decide_eq_true c1)))) (hp.V 10 rfl rfl)) rfl) ?_
      refine .mv 11 rfl rfl rfl rfl ?_
      refine .oy 12 19 rfl rfl rfl rfl rfl ((congrArg (!·) c2)) (fun a w hS hI hp => does_val (x_move rfl (hS.get 1 rfl)) rfl) ?_
      refine .oy 12 19 rfl rfl rfl rfl rfl ((congrArg (!·) c2)) (fun a w hS hI hp => does_val (x_nilck rfl (hp.V 13 rfl rfl)) rfl) ?_
      refine .oy 12 19 rfl rfl rfl rfl rfl ((congrArg (!·) c2)) (fun a w hS hI hp => does_val (x_fieldE (b := 0) rfl (hp.V 14 rfl rfl) Try.underlying54 rfl rfl (by kernel_rfl)) rfl) ?_
      refine .oy 12 19 rfl rfl rfl rfl rfl ((congrArg (!·) c2)) (fun a w hS hI hp => does_val (x_fieldE (b := 3) rfl (hp.V 15 rfl rfl) Try.underlying52 rfl rfl (by kernel_rfl)) rfl) ?_
      refine .oy 12 19 rfl rfl rfl rfl rfl ((congrArg (!·) c2)) (fun a w hS hI hp => does_val (x_load1 (d := .bool) rfl (hp.V 16 rfl rfl) (by kernel_rfl) rfl ((blk_cell (((hI.1).block g0 (blk_lt HP0)).trans HP0) 6).trans rfl)) rfl) ?_
      refine .oy 12 19 rfl rfl rfl rfl rfl ((congrArg (!·) c2)) (fun a w hS hI hp => does_val (x_not rfl (hp.V 17 rfl rfl)) rfl) ?_
      refine .on rfl (fun a w hS hI hp => does_val (x_pickF rfl ((hp.V 12 rfl rfl).trans (bF (congrArg (!·) c2))) (hp.V 18 rfl rfl)) rfl) ?_
      refine .mv 19 rfl rfl rfl rfl ?_
      refine .oy 20 27 rfl rfl rfl rfl rfl ((congrArg (!·) c3)) (fun a w hS hI hp => does_val (x_fieldE (b := 0) rfl (hS.get 0 rfl) Try.underlying34 rfl rfl (by kernel_rfl)) rfl) ?_
      refine .oy 20 27 rfl rfl rfl rfl rfl ((congrArg (!·) c3)) (fun a w hS hI hp => does_val (x_load1 (d := .int .i64) rfl (hp.V 21 rfl rfl) (by kernel_rfl) rfl ((blk_cell (((hI.2).block g4 (blk_lt hbxg4)).trans hbxg4) 6).trans rfl)) rfl) ?_
      refine .oy 20 27 rfl rfl rfl rfl rfl ((congrArg (!·) c3)) (fun a w hS hI hp => does_val (x_move rfl (hS.get 1 rfl)) rfl) ?_
      refine .oy 20 27 rfl rfl rfl rfl rfl ((congrArg (!·) c3)) (fun a w hS hI hp => does_val (x_nilck rfl (hp.V 23 rfl rfl)) rfl) ?_
      refine .oy 20 27 rfl rfl rfl rfl rfl ((congrArg (!·) c3)) (fun a w hS hI hp => does_val (x_fieldE (b := 0) rfl (hp.V 24 rfl rfl) Try.underlying54 rfl rfl (by kernel_rfl)) rfl) ?_
      refine .oy 20 27 rfl rfl rfl rfl rfl ((congrArg (!·) c3)) (fun a w hS hI hp => does_val (x_fieldE (b := 3) rfl (hp.V 25 rfl rfl) Try.underlying52 rfl rfl (by kernel_rfl)) rfl) ?_
      refine .oy 20 27 rfl rfl rfl rfl rfl ((congrArg (!·) c3)) (fun a w hS hI hp => does_val (x_load1 (d := .int .i64) rfl (hp.V 26 rfl rfl) (by kernel_rfl) rfl ((blk_cell (((hI.1).block g0 (blk_lt HP0)).trans HP0) 3).trans rfl)) rfl) ?_
      refine .oy 20 27 rfl rfl rfl rfl rfl ((congrArg (!·) c3)) (fun a w hS hI hp => does_val (x_bin rfl (hp.V 22 rfl rfl) (hp.V 27 rfl rfl) (b_neq _ _ _ _ _ _)) rfl) ?_
      refine .on rfl (fun a w hS hI hp => does_val (x_pickF rfl ((hp.V 20 rfl rfl).trans (bF (congrArg (!·) c3))) (hp.V 28 rfl rfl)) rfl) ?_
      exact .nil
    clear hS
    intro at8 w9 hS hI hp
    have hBw9_w := hI.1
    have hBw9_w3 := hI.2
    have hv36 : sl _ 36 = .bool (!decide (a1_6 = a0_3)) := hp 29 (by decide)
    have hBw9_w9 := Below.refl w9.heap.size w9
    have hS := hS.cons hv36
    clear hp hI hv36
    refine hK7 _ _ ?_
    (try clear hK7 K7)
    refine wp_cond_true ((hS.get 0 rfl).trans (bT (congrArg (!·) (decide_eq_false c4)))) ?_
    refine wp_seq_k (fun K10 hK10 => ?_)
    refine reg_seq (N := 52) (bs := [(36, .bool (!decide (a1_6 = a0_3))), (3, .pointer (some ⟨g4, 0, none⟩)), (0, .pointer (some ⟨g0, 0, none⟩))]) (I := fun x => Below w.heap.size w x ∧ Below w3.heap.size w3 x ∧ Below w9.heap.size w9 x) (ps := [VI 0, VB false]) (by kernel_rfl) ?_ ?_ rfl hS ⟨hBw9_w, hBw9_w3, hBw9_w9⟩ ?_ ?_
    · exact fun x y hI hb => ⟨below_step hI.1 hb, below_step hI.2.1 hb, below_step hI.2.2 hb⟩
    · exact .v (.v (.nil))
    · refine .on rfl (fun a w hS hI hp => does_val (x_assign rfl (rfl)) rfl) ?_
      refine .on rfl (fun a w hS hI hp => does_val (x_assign rfl (rfl)) rfl) ?_
      exact .nil
    clear hS
    intro at11 w12 hS hI hp
    have hBw12_w := hI.1
    have hBw12_w3 := hI.2.1
    have hBw12_w9 := hI.2.2
    replace hS := hS.nil
    have hv4 : sl _ 4 = .int .i64 0 := hp 0 (by decide)
    have hv5 : sl _ 5 = .bool false := hp 1 (by decide)
    have hBw12_w12 := Below.refl w12.heap.size w12
    have hS := hS.cons hv4
    have hS := hS.cons hv5
    clear hp hI hv4 hv5
    refine hK10 _ _ ?_
    (try clear hK10 K10)
    refine wp_ret ?_
    (try simp only [Exit.then, Exit.inBlock, Exit.jump, Exit.noGoto])
    exact bodyPost_ret (v := .tuple #[.int .i64 0, .bool false]) (results_list (rs := [.tmp 4, .tmp 5]) rfl (by simp) (Vals.at (hS.get 1 rfl) (Vals.at (hS.get 0 rfl) .nil))) hS.nodef ⟨rfl, ((hBw12_w.block g0 (blk_lt HP0)).trans HP0), (Tch.more (Tch.refl _ _) hBw12_w)⟩
  rw [if_pos c4] at H
  obtain ⟨t11, At11, H⟩ := Option.bind_eq_some_iff.mp H
  obtain ⟨t18, At18, H⟩ := Option.bind_eq_some_iff.mp H
  obtain ⟨t18_1, t18_2, t18_3, t18_4, t18_5, t18_6, t18_7⟩ := t18
  (try dsimp only at H)
  simp only [Option.some.injEq, Prod.mk.injEq] at H
  obtain ⟨rfl, rfl, rfl, rfl, rfl, rfl, rfl, rfl, rfl⟩ := H
  refine calls_of_wp (fn := Try.f18) (by kernel_rfl) rfl ?_
  have hS := St.enter #[.pointer (some ⟨g0, 0, none⟩), (delay_Exchange_Response.v0 a1_0 a1_1 a1_2 a1_3 a1_4 a1_5 a1_6 a1_7 a1_8 a1_9 a1_10 a1_11 a1_12 a1_13 a1_14 a1_15 a1_16 a1_17 a1_18 a1_19 a1_20 a1_21 a1_22)] 52 (by simp) [(0, .pointer (some ⟨g0, 0, none⟩)), (1, (delay_Exchange_Response.v0 a1_0 a1_1 a1_2 a1_3 a1_4 a1_5 a1_6 a1_7 a1_8 a1_9 a1_10 a1_11 a1_12 a1_13 a1_14 a1_15 a1_16 a1_17 a1_18 a1_19 a1_20 a1_21 a1_22))] (by simp)
  have HB0 := Below.refl w.heap.size w
  refine wp_seq_k (fun K1 hK1 => ?_)
  refine reg_seq (N := 52) (bs := [(0, .pointer (some ⟨g0, 0, none⟩)), (1, (delay_Exchange_Response.v0 a1_0 a1_1 a1_2 a1_3 a1_4 a1_5 a1_6 a1_7 a1_8 a1_9 a1_10 a1_11 a1_12 a1_13 a1_14 a1_15 a1_16 a1_17 a1_18 a1_19 a1_20 a1_21 a1_22))]) (I := fun x => Below w.heap.size w x) (ps := [IsB (delay_Exchange_Response.c1 a1_0 a1_1 a1_2 a1_3 a1_4 a1_5 a1_6 a1_7 a1_8 a1_9 a1_10 a1_11 a1_12 a1_13 a1_14 a1_15 a1_16 a1_17 a1_18 a1_19 a1_20 a1_21 a1_22) 34 w.heap.size, VI 0, VB false]) (by kernel_rfl) ?_ ?_ rfl hS HB0 ?_ ?_
  · exact fun x y hI hb => below_step hI hb
  · exact .cons (Stays.b _ _ _) (.v (.v (.nil)))
  · refine .on rfl (fun a w hS hI hp => does_var (x_box rfl (congrArg Value.cells (hS.get 1 rfl))) (hI).size) ?_
    iterate 2 refine .on rfl (fun a w hS hI hp => does_val (x_assign rfl (rfl)) rfl) ?_
    exact .nil
  clear hS
  intro at2 w3 hS hI hp
  have hBw3_w := hI
  replace hS := (hS.nil).cons (hS.get 0 rfl)
  obtain ⟨g4, hv3, hgeg4, hbxg4⟩ := (show IsB _ 34 _ (sl _ 3) _ from hp 0 (by decide))
  have hne5 : g4 ≠ g0 := Nat.ne_of_gt (Nat.lt_of_lt_of_le (blk_lt ((HB0.block g0 (blk_lt HP0)).trans HP0)) hgeg4)
  have hBw3_w3 := Below.refl w3.heap.size w3
  have hS := hS.cons hv3
  clear hp hI hv3
  refine hK1 _ _ ?_
  (try clear hK1 K1)
  refine wp_seq_k (fun K6 hK6 => ?_)
  refine wp_seq_k (fun K7 hK7 => ?_)
  refine reg_any (N := 52) (bs := [(3, .pointer (some ⟨g4, 0, none⟩)), (0, .pointer (some ⟨g0, 0, none⟩))]) (I := fun x => Below w.heap.size w x ∧ Below w3.heap.size w3 x) (ps := [VP g4 0, VI a1_0, VB (!decide (a1_0 = 9)), VB (!decide (a1_0 = 9)), VP g4 9, IsV (.agg #[.int .u64 a1_9, .int .i64 a1_10]), VP g0 0, VP g0 0, VP g0 0, IsV (.agg #[.int .u64 a0_0, .int .i64 a0_1]), VB (!((a1_9 == a0_0) && (a1_10 == a0_1))), VB (!((a1_9 == a0_0) && (a1_10 == a0_1))), VB (!((a1_9 == a0_0) && (a1_10 == a0_1))), VP g0 0, VP g0 0, VP g0 3, VP g0 6, VB a0_6, VB (!a0_6), VB (!a0_6), VB (!a0_6), VP g4 6, VI a1_6, VP g0 0, VP g0 0, VP g0 3, VP g0 3, VI a0_3, VB (!decide (a1_6 = a0_3)), VB (!decide (a1_6 = a0_3))]) (by kernel_rfl) (by kernel_rfl) ?_ ?_ rfl hS ⟨hBw3_w, hBw3_w3⟩ ?_ ?_
  · exact fun x y hI hb => ⟨below_step hI.1 hb, below_step hI.2 hb⟩
  · exact .v (.v (.v (.v (.v (.v (.v (.v (.v (.v (.v (.v (.v (.v (.v (.v (.v (.v (.v (.v (.v (.v (.v (.v (.v (.v (.v (.v (.v (.v (.nil))))))))))))))))))))))))))))))
  · refine .on rfl (fun a w hS hI hp => does_val (x_fieldE (b := 0) rfl (hS.get 0 rfl) Try.underlying34 rfl rfl (by kernel_rfl)) rfl) ?_
    refine .on rfl (fun a w hS hI hp => does_val (x_load1 (d := .int .i64) rfl (hp.V 0 rfl rfl) (by kernel_rfl) rfl ((blk_cell (((hI.2).block g4 (blk_lt hbxg4)).trans hbxg4) 0).trans rfl)) rfl) ?_
    refine .on rfl (fun a w hS hI hp => does_val (x_bin rfl (hp.V 1 rfl rfl) (rfl) (b_neq _ _ _ _ _ _)) rfl) ?_
    refine .mv 2 rfl rfl rfl rfl ?_
    refine .oy 3 10 rfl rfl rfl rfl rfl ((congrArg (!·) (decide_eq_true c1))) (fun a w hS hI hp => does_val (x_fieldE (b := 0) rfl (hS.get 0 rfl) Try.underlying34 rfl rfl (by kernel_rfl)) rfl) ?_
    refine .oy 3 10 rfl rfl rfl rfl rfl ((congrArg (!·) (decide_eq_true c1))) (fun a w hS hI hp => does_loadmid (cs := [.int .u64 a1_9, .int .i64 a1_10]) rfl (hp.V 4 rfl rfl) (((hI.2).block g4 (blk_lt hbxg4)).trans hbxg4) (by kernel_rfl) Try.underlying24 rfl (by kernel_rfl) rfl) ?_
    refine .oy 3 10 rfl rfl rfl rfl rfl ((congrArg (!·) (decide_eq_true c1))) (fun a w hS hI hp => does_val (x_move rfl (hS.get 1 rfl)) rfl) ?_
    refine .oy 3 10 rfl rfl rfl rfl rfl ((congrArg (!·) (decide_eq_true c1))) (fun a w hS hI hp => does_val (x_nilck rfl (hp.V 6 rfl rfl)) rfl) ?_
    refine .oy 3 10 rfl rfl rfl rfl rfl ((congrArg (!·) (decide_eq_true c1))) (fun a w hS hI hp => does_val (x_fieldE (b := 0) rfl (hp.V 7 rfl rfl) Try.underlying54 rfl rfl (by kernel_rfl)) rfl) ?_
    refine .oy 3 10 rfl rfl rfl rfl rfl ((congrArg (!·) (decide_eq_true c1))) (fun a w hS hI hp => does_loadmid (cs := [.int .u64 a0_0, .int .i64 a0_1]) rfl (hp.V 8 rfl rfl) (((hI.1).block g0 (blk_lt HP0)).trans HP0) (by kernel_rfl) Try.underlying24 rfl (by kernel_rfl) rfl) ?_
    refine .oy 3 10 rfl rfl rfl rfl rfl ((congrArg (!·) (decide_eq_true c1))) (fun a w hS hI hp => does_val (x_bin rfl (hp.V 5 rfl rfl) (hp.V 9 rfl rfl) (delay_Exchange_Response.neq24 _ _ _ a1_9 a1_10 a0_0 a0_1)) rfl) ?_
    refine .on rfl (fun a w hS hI hp => does_val (x_pickF rfl ((hp.V 3 rfl rfl).trans (bF (congrArg (!·) (decide_eq_true c1)))) (hp.V 10 rfl rfl)) rfl) ?_
    refine .mv 11 rfl rfl rfl rfl ?_
    refine .oy 12 19 rfl rfl rfl rfl rfl ((congrArg (!·) c2)) (fun a w hS hI hp => does_val (x_move rfl (hS.get 1 rfl)) rfl) ?_
    refine .oy 12 19 rfl rfl rfl rfl rfl ((congrArg (!·) c2)) (fun a w hS hI hp => does_val (x_nilck rfl (hp.V 13 rfl rfl)) rfl) ?_
    refine .oy 12 19 rfl rfl rfl rfl rfl ((congrArg (!·) c2)) (fun a w hS hI hp => does_val (x_fieldE (b := 0) rfl (hp.V 14 rfl rfl) Try.underlying54 rfl rfl (by kernel_rfl)) rfl) ?_
    refine .oy 12 19 rfl rfl rfl rfl rfl ((congrArg (!·) c2)) (fun a w hS hI hp => does_val (x_fieldE (b := 3) rfl (hp.V 15 rfl rfl) Try.underlying52 rfl rfl (by kernel_rfl)) rfl) ?_
    refine .oy 12 19 rfl rfl rfl rfl rfl ((congrArg (!·) c2)) (fun a w hS hI hp => does_val (x_load1 (d := .bool) rfl (hp.V 16 rfl rfl) (by kernel_rfl) rfl ((blk_cell (((hI.1).block g0 (blk_lt HP0)).trans HP0) 6).trans rfl)) rfl) ?_
    refine .oy 12 19 rfl rfl rfl rfl rfl ((congrArg (!·) c2)) (fun a w hS hI hp => does_val (x_not rfl (hp.V 17 rfl rfl)) rfl) ?_
    refine .on rfl (fun a w hS hI hp => does_val (x_pickF rfl ((hp.V 12 rfl rfl).trans (bF (congrArg (!·) c2))) (hp.V 18 rfl rfl)) rfl) ?_
    refine .mv 19 rfl rfl rfl rfl ?_
    refine .oy 20 27 rfl rfl rfl rfl rfl ((congrArg (!·) c3)) (fun a w hS hI hp => does_val (x_fieldE (b := 0) rfl (hS.get 0 rfl) Try.underlying34 rfl rfl (by kernel_rfl)) rfl) ?_
    refine .oy 20 27 rfl rfl rfl rfl rfl ((congrArg (!·) c3)) (fun a w hS hI hp => does_val (x_load1 (d := .int .i64) rfl (hp.V 21 rfl rfl) (by kernel_rfl) rfl ((blk_cell (((hI.2).block g4 (blk_lt hbxg4)).trans hbxg4) 6).trans rfl)) rfl) ?_
    refine .oy 20 27 rfl rfl rfl rfl rfl ((congrArg (!·) c3)) (fun a w hS hI hp => does_val (x_move rfl (hS.get 1 rfl)) rfl) ?_
    refine .oy 20 27 rfl rfl rfl rfl rfl ((congrArg (!·) c3)) (fun a w hS hI hp => does_val (x_nilck rfl (hp.V 23 rfl rfl)) rfl) ?_
    refine .oy 20 27 rfl rfl rfl rfl rfl ((congrArg (!·) c3)) (fun a w hS hI hp => does_val (x_fieldE (b := 0) rfl (hp.V 24 rfl rfl) Try.underlying54 rfl rfl (by kernel_rfl)) rfl) ?_
    refine .oy 20 27 rfl rfl rfl rfl rfl ((congrArg (!·) c3)) (fun a w hS hI hp => does_val (x_fieldE (b := 3) rfl (hp.V 25 rfl rfl) Try.underlying52 rfl rfl (by kernel_rfl)) rfl) ?_
    refine .oy 20 27 rfl rfl rfl rfl rfl ((congrArg (!·) c3)) (fun a w hS hI hp => does_val (x_load1 (d := .int .i64) rfl (hp.V 26 rfl rfl) (by kernel_rfl) rfl ((blk_cell (((hI.1).block g0 (blk_lt HP0)).trans HP0) 3).trans rfl)) rfl) ?_
    refine .oy 20 27 rfl rfl rfl rfl rfl ((congrArg (!·) c3)) (fun a w hS hI hp => does_val (x_bin rfl (hp.V 22 rfl rfl) (hp.V 27 rfl rfl) (b_neq _ _ _ _ _ _)) rfl) ?_
    refine .on rfl (fun a w hS hI hp => does_val (x_pickF rfl ((hp.V 20 rfl rfl).trans (bF (congrArg (!·) c3))) (hp.V 28 rfl rfl)) rfl) ?_
    exact .nil
  clear hS
  intro at8 w9 hS hI hp
  have hBw9_w := hI.1
  have hBw9_w3 := hI.2
  have hv36 : sl _ 36 = .bool (!decide (a1_6 = a0_3)) := hp 29 (by decide)
  have hBw9_w9 := Below.refl w9.heap.size w9
  have hS := hS.cons hv36
  clear hp hI hv36
  refine hK7 _ _ ?_
  (try clear hK7 K7)
  refine wp_cond_false ((hS.get 0 rfl).trans (bF (congrArg (!·) (decide_eq_true c4)))) ?_
  refine wp_skip ?_
  refine hK6 _ _ ?_
  (try clear hK6 K6)
  refine wp_seq_k (fun K10 hK10 => ?_)
  refine reg_any (N := 52) (bs := [(36, .bool (!decide (a1_6 = a0_3))), (3, .pointer (some ⟨g4, 0, none⟩)), (0, .pointer (some ⟨g0, 0, none⟩))]) (I := fun x => Below w.heap.size w x ∧ Below w3.heap.size w3 x ∧ Below w9.heap.size w9 x) (ps := [VP g4 8, VI a1_8, VP g0 0, VP g0 0, VP g0 3, VP g0 4, VI a0_4, VI (wrap64 (a1_8 - a0_4)), VP g4 3, VI a1_3, VI t11, VI (wrap64 ((wrap64 (a1_8 - a0_4)) - t11)), VI (wrap64 ((wrap64 (a1_8 - a0_4)) - t11))]) (by kernel_rfl) (by kernel_rfl) ?_ ?_ rfl hS ⟨hBw9_w, hBw9_w3, hBw9_w9⟩ ?_ ?_
  · exact fun x y hI hb => ⟨below_step hI.1 hb, below_step hI.2.1 hb, below_step hI.2.2 hb⟩
  · exact .v (.v (.v (.v (.v (.v (.v (.v (.v (.v (.v (.v (.v (.nil)))))))))))))
  · refine .on rfl (fun a w hS hI hp => does_val (x_fieldE (b := 0) rfl (hS.get 1 rfl) Try.underlying34 rfl rfl (by kernel_rfl)) rfl) ?_
    refine .on rfl (fun a w hS hI hp => does_val (x_load1 (d := .int .i64) rfl (hp.V 0 rfl rfl) (by kernel_rfl) rfl ((blk_cell (((hI.2.1).block g4 (blk_lt hbxg4)).trans hbxg4) 8).trans rfl)) rfl) ?_
    refine .ms 2 rfl rfl rfl ?_
    refine .on rfl (fun a w hS hI hp => does_val (x_nilck rfl (hp.V 2 rfl rfl)) rfl) ?_
    refine .on rfl (fun a w hS hI hp => does_val (x_fieldE (b := 0) rfl (hp.V 3 rfl rfl) Try.underlying54 rfl rfl (by kernel_rfl)) rfl) ?_
    refine .on rfl (fun a w hS hI hp => does_val (x_fieldE (b := 3) rfl (hp.V 4 rfl rfl) Try.underlying52 rfl rfl (by kernel_rfl)) rfl) ?_
    refine .on rfl (fun a w hS hI hp => does_val (x_load1 (d := .int .i64) rfl (hp.V 5 rfl rfl) (by kernel_rfl) rfl ((blk_cell (((hI.1).block g0 (blk_lt HP0)).trans HP0) 4).trans rfl)) rfl) ?_
    refine .on rfl (fun a w hS hI hp => does_val (x_bin rfl (hp.V 1 rfl rfl) (hp.V 6 rfl rfl) (b_sub _ _ _ _ _)) rfl) ?_
    refine .on rfl (fun a w hS hI hp => does_val (x_fieldE (b := 0) rfl (hS.get 1 rfl) Try.underlying34 rfl rfl (by kernel_rfl)) rfl) ?_
    refine .on rfl (fun a w hS hI hp => does_val (x_load1 (d := .int .i64) rfl (hp.V 8 rfl rfl) (by kernel_rfl) rfl ((blk_cell (((hI.2.1).block g4 (blk_lt hbxg4)).trans hbxg4) 3).trans rfl)) rfl) ?_
    refine .on rfl (fun a w hS hI hp => does_call (by kernel_rfl) (ar1 (hp.V 9 rfl rfl)) ((stamp_Floor.calls a1_3 t11 _  At11).mono fun _ _ h => ⟨_, h.1, h.2.below, rfl⟩)) ?_
    refine .on rfl (fun a w hS hI hp => does_val (x_bin rfl (hp.V 7 rfl rfl) (hp.V 10 rfl rfl) (b_sub _ _ _ _ _)) rfl) ?_
    refine .asg 11 rfl rfl rfl rfl ?_
    exact .nil
  clear hS
  intro at12 w13 hS hI hp
  have hBw13_w := hI.1
  have hBw13_w3 := hI.2.1
  have hBw13_w9 := hI.2.2
  replace hS := (hS.nil).cons (hS.get 2 rfl)
  have hv6 : sl _ 6 = .int .i64 (wrap64 ((wrap64 (a1_8 - a0_4)) - t11)) := hp 12 (by decide)
  have hBw13_w13 := Below.refl w13.heap.size w13
  have hS := hS.cons hv6
  clear hp hI hv6
  refine hK10 _ _ ?_
  (try clear hK10 K10)
  refine wp_seq_k (fun K14 hK14 => ?_)
  refine reg_seq_tail 1 (N := 52) (bs := [(6, .int .i64 (wrap64 ((wrap64 (a1_8 - a0_4)) - t11))), (0, .pointer (some ⟨g0, 0, none⟩))]) (I := fun x => Below w.heap.size w x ∧ Below w3.heap.size w3 x ∧ Below w13.heap.size w13 x) (ps := [VP g0 0]) (by kernel_rfl) ?_ ?_ rfl hS ⟨hBw13_w, hBw13_w3, hBw13_w13⟩ ?_ ?_
  · exact fun x y hI hb => ⟨below_step hI.1 hb, below_step hI.2.1 hb, below_step hI.2.2 hb⟩
  · exact .v (.nil)
  · refine .ms 1 rfl rfl rfl ?_
    exact .nil
  clear hS
  intro at15 w16 hS hI hp
  have hBw16_w := hI.1
  have hBw16_w3 := hI.2.1
  have hBw16_w13 := hI.2.2
  replace hS := (hS.nil).cons (hS.get 0 rfl)
  have hv49 : sl _ 49 = .pointer (some ⟨g0, 0, none⟩) := hp 0 (by decide)
  have hBw16_w16 := Below.refl w16.heap.size w16
  have hS := hS.cons hv49
  clear hp hI hv49
  show wpList _ _ _ [_] _ _
  refine list_step rfl (R := fun v w' => v = .tuple #[] ∧ w'.heap[g0]? = some (.cells (delay_Exchange_Response.c2 t18_1 t18_2 t18_3 t18_4 t18_5 t18_6 t18_7) 54 (0, 0)) ∧ Tch g0 _ w') (does_call (by kernel_rfl) (ar1 (hS.get 0 rfl)) ((delay_Exchange_Clear.calls g0 a0_0 a0_1 a0_2 a0_3 a0_4 a0_5 a0_6 t18_1 t18_2 t18_3 t18_4 t18_5 t18_6 t18_7 _ ((hBw16_w.block g0 (blk_lt HP0)).trans HP0) At18).mono fun _ _ h => ⟨_, h.1, rfl, h.2⟩)) ?_
  rintro vw17 w17 ⟨rfl, hbxw17, hT⟩
  have hn19 := hT.blk ((hBw16_w3.block g4 (blk_lt hbxg4)).trans hbxg4) hne5
  have hTw17 := (Tch.more (Tch.refl _ _) hBw16_w).trans hT
  have hBw17_w17 := Below.refl w17.heap.size w17
  clear hT
  refine hS.next (v := .tuple #[]) (d := 50) rfl (by decide) (by rfl) ?_
  clear hS
  intro at20 hS
  refine wpList_nil ?_
  refine hK14 _ _ ?_
  (try clear hK14 K14)
  refine wp_seq_k (fun K21 hK21 => ?_)
  refine reg_seq (N := 52) (bs := [(50, .tuple #[]), (49, .pointer (some ⟨g0, 0, none⟩)), (6, .int .i64 (wrap64 ((wrap64 (a1_8 - a0_4)) - t11)))]) (I := fun x => Below w17.heap.size w17 x) (ps := [VI (wrap64 ((wrap64 (a1_8 - a0_4)) - t11)), VI (wrap64 ((wrap64 (a1_8 - a0_4)) - t11)), VB true]) (by kernel_rfl) ?_ ?_ rfl hS hBw17_w17 ?_ ?_
  · exact fun x y hI hb => below_step hI hb
  · exact .v (.v (.v (.nil)))
  · refine .ms 2 rfl rfl rfl ?_
    refine .asg 0 rfl rfl rfl rfl ?_
    refine .on rfl (fun a w hS hI hp => does_val (x_assign rfl (rfl)) rfl) ?_
    exact .nil
  clear hS
  intro at22 w23 hS hI hp
  have hBw23_w17 := hI
  replace hS := hS.nil
  have hv4 : sl _ 4 = .int .i64 (wrap64 ((wrap64 (a1_8 - a0_4)) - t11)) := hp 1 (by decide)
  have hv5 : sl _ 5 = .bool true := hp 2 (by decide)
  have hBw23_w23 := Below.refl w23.heap.size w23
  have hS := hS.cons hv4
  have hS := hS.cons hv5
  clear hp hI hv4 hv5
  refine hK21 _ _ ?_
  (try clear hK21 K21)
  refine wp_ret ?_
  (try simp only [Exit.then, Exit.inBlock, Exit.jump, Exit.noGoto])
  exact bodyPost_ret (v := .tuple #[.int .i64 (wrap64 ((wrap64 (a1_8 - a0_4)) - t11)), .bool true]) (results_list (rs := [.tmp 4, .tmp 5]) rfl (by simp) (Vals.at (hS.get 1 rfl) (Vals.at (hS.get 0 rfl) .nil))) hS.nodef ⟨rfl, ((hBw23_w17.block g0 (blk_lt hbxw17)).trans hbxw17), (Tch.more hTw17 hBw23_w17)⟩
/-! ### carillonref02_Floor: function 25 -/
def carillonref02_Floor.f (a0 : Int) : Option (Int) := if (Int.tmod a0 65536) < 0 then (some (wrap64 ((wrap64 (Int.tdiv a0 65536)) - 1))) else (some (wrap64 (Int.tdiv a0 65536)))
set_option maxHeartbeats 8000000 in
set_option maxRecDepth 100000 in
theorem carillonref02_Floor.calls (a0 : Int) (r : Int) (w : World) (h : carillonref02_Floor.f a0 = some r) :
    Calls Try.prog 25 #[.int .i64 a0] w fun e w' => e = .returned (.int .i64 r) ∧ Drawn0 w w' := by
  have H : (if (Int.tmod a0 65536) < 0 then (some (wrap64 ((wrap64 (Int.tdiv a0 65536)) - 1))) else (some (wrap64 (Int.tdiv a0 65536)))) = some r := h
  clear h
  by_cases c2 : (Int.tmod a0 65536) < 0
  · rw [if_pos c2] at H
    have c2b0 : decide ((Int.tmod a0 65536) < 0) = true := decide_eq_true c2
    clear c2
    obtain rfl := Option.some.inj H
    go_enter Try.func25, Try.ntmps25
    go_wp2
    all_goals
      go_ret
      exact ⟨by first | rfl | (simp; done) | (simp [*]; done), by repeat (first | exact Drawn0.refl _ | apply Drawn0.step)⟩
  · rw [if_neg c2] at H
    have c2b0 : decide ((Int.tmod a0 65536) < 0) = false := decide_eq_false c2
    clear c2
    obtain rfl := Option.some.inj H
    go_enter Try.func25, Try.ntmps25
    go_wp2
    all_goals
      go_ret
      exact ⟨by first | rfl | (simp; done) | (simp [*]; done), by repeat (first | exact Drawn0.refl _ | apply Drawn0.step)⟩
end Go.Proofs.Ytpfjpfbhgeoadaa.P
