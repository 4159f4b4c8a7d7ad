/- Functions and loops of the given program as Lean functions, and that the code comes to what they say: written by this session's own program; Lean checks it. -/
import Derived.Test.YtiomlbkakiienaaZzPx0
import Derived.Test.YtiomlbkakiienaaZzPx6
import Derived.Test.YtiomlbkakiienaaZzPx7
import Derived.Test.YtiomlbkakiienaaZzPx9
namespace Go.Proofs.Ytiomlbkakiienaa.P
open Go.RowKit Go.Proofs.YtiomlbkakiienaaW.PrintWords Go.Proofs.YtiomlbkakiienaaW.PrintLast Go.Proofs.YtiomlbkakiienaaW.PrintMore
attribute [local go_sem] max2_int min2_int max_two min_two max_three min_three max_four min_four   -- for this text's walks alone
set_option linter.unusedVariables false
set_option linter.unusedSimpArgs false
def carillonref06_Put.f (k : Nat) (a0_0 a0_1 a0_2 a0_3 a0_4 a0_5 a0_6 a0_7 a0_8 a0_9 a0_10 a0_11 a0_12 a0_13 a0_14 a0_15 a0_16 a0_17 a0_18 a0_19 a0_20 a0_21 a0_22 a1 : Int) : Option (List Int) := (carillonref06_Check.f a0_0 a0_1 a0_2 a0_3 a0_4 a0_5 a0_6 a0_7 a0_8 a0_9 a0_10 a0_11 a0_12 a0_13 a0_14 a0_15 a0_16 a0_17 a0_18 a0_19 a0_20 a0_21 a0_22).bind fun t7 => (if t7 = true then (if a1 < 34 then (some []) else (if a1 > 400 then (some []) else ((carillonref01_Put.f k a1 2).bind fun t15 => (if ([IntKind.u8.wrap a0_0, 18].length + t15.length) * 1 ≤ 140737488355328 then (if (([IntKind.u8.wrap a0_0, 18] ++ t15 : List Int).length + [IntKind.u8.wrap a0_1, 0].length) * 1 ≤ 140737488355328 then ((carillonref01_Put.f k a0_2 2).bind fun t34 => (if ((([IntKind.u8.wrap a0_0, 18] ++ t15 : List Int) ++ [IntKind.u8.wrap a0_1, 0] : List Int).length + t34.length) * 1 ≤ 140737488355328 then ((carillonref01_Put.f k a0_3 8).bind fun t44 => (if (((([IntKind.u8.wrap a0_0, 18] ++ t15 : List Int) ++ [IntKind.u8.wrap a0_1, 0] : List Int) ++ t34 : List Int).length + t44.length) * 1 ≤ 140737488355328 then (if ((((([IntKind.u8.wrap a0_0, 18] ++ t15 : List Int) ++ [IntKind.u8.wrap a0_1, 0] : List Int) ++ t34 : List Int) ++ t44 : List Int).length + [0, 0, 0, 0].length) * 1 ≤ 140737488355328 then ((carillonref04_Put.f k a0_4 a0_5).bind fun t63 => (if (((((([IntKind.u8.wrap a0_0, 18] ++ t15 : List Int) ++ [IntKind.u8.wrap a0_1, 0] : List Int) ++ t34 : List Int) ++ t44 : List Int) ++ [0, 0, 0, 0] : List Int).length + t63.length) * 1 ≤ 140737488355328 then ((carillonref01_Put.f k a0_6 2).bind fun t73 => (if ((((((([IntKind.u8.wrap a0_0, 18] ++ t15 : List Int) ++ [IntKind.u8.wrap a0_1, 0] : List Int) ++ t34 : List Int) ++ t44 : List Int) ++ [0, 0, 0, 0] : List Int) ++ t63 : List Int).length + t73.length) * 1 ≤ 140737488355328 then (if (((((((([IntKind.u8.wrap a0_0, 18] ++ t15 : List Int) ++ [IntKind.u8.wrap a0_1, 0] : List Int) ++ t34 : List Int) ++ t44 : List Int) ++ [0, 0, 0, 0] : List Int) ++ t63 : List Int) ++ t73 : List Int).length + [(if a0_0 = 0 then 0 else (if a0_0 = 1 then 1 else (if a0_0 = 8 then 2 else (if a0_0 = 9 then 3 else (if a0_0 = 13 then 4 else 5))))), IntKind.u8.wrap a0_7].length) * 1 ≤ 140737488355328 then (some (((((((([IntKind.u8.wrap a0_0, 18] ++ t15 : List Int) ++ [IntKind.u8.wrap a0_1, 0] : List Int) ++ t34 : List Int) ++ t44 : List Int) ++ [0, 0, 0, 0] : List Int) ++ t63 : List Int) ++ t73 : List Int) ++ [(if a0_0 = 0 then 0 else (if a0_0 = 1 then 1 else (if a0_0 = 8 then 2 else (if a0_0 = 9 then 3 else (if a0_0 = 13 then 4 else 5))))), IntKind.u8.wrap a0_7] : List Int)) else (none)) else (none))) else (none))) else (none)) else (none))) else (none))) else (none)) else (none))))) else (some []))
abbrev carillonref06_Put.v0 (x0 x1 x2 x3 x4 x5 x6 x7 x8 x9 x10 x11 x12 x13 x14 x15 x16 x17 x18 x19 x20 x21 x22 : Int) : Value := .agg #[.int .i64 x0, .int .i64 x1, .int .i64 x2, .int .i64 x3, .int .u64 x4, .int .i64 x5, .int .i64 x6, .int .i64 x7, .int .i64 x8, .int .u64 x9, .int .i64 x10, .int .i64 x11, .int .i64 x12, .int .i64 x13, .int .i64 x14, .int .i64 x15, .int .i64 x16, .int .u64 x17, .int .i64 x18, .int .i64 x19, .int .i64 x20, .int .i64 x21, .int .i64 x22]
abbrev carillonref06_Put.c1 (x0 x1 x2 x3 x4 x5 x6 x7 x8 x9 x10 x11 x12 x13 x14 x15 x16 x17 x18 x19 x20 x21 x22 : Int) : Array Value := #[.int .i64 x0, .int .i64 x1, .int .i64 x2, .int .i64 x3, .int .u64 x4, .int .i64 x5, .int .i64 x6, .int .i64 x7, .int .i64 x8, .int .u64 x9, .int .i64 x10, .int .i64 x11, .int .i64 x12, .int .i64 x13, .int .i64 x14, .int .i64 x15, .int .i64 x16, .int .u64 x17, .int .i64 x18, .int .i64 x19, .int .i64 x20, .int .i64 x21, .int .i64 x22]
open Go.Proofs.Ytiomlbkakiienaa.E in
set_option maxHeartbeats 60000000 in
set_option maxRecDepth 100000 in
theorem carillonref06_Put.calls (k : Nat) (aa ab aD aE aB aC aF ag aK aL am an ao ap aq ar au av aw ax ay az aA a1 : Int) (r : List Int) (w : World) (h : carillonref06_Put.f k aa ab aD aE aB aC aF ag aK aL am an ao ap aq ar au av aw ax ay az aA a1 = some r) :
    Calls Try.prog 26 #[.agg #[.int .i64 aa, .int .i64 ab, .int .i64 aD, .int .i64 aE, .int .u64 aB, .int .i64 aC, .int .i64 aF, .int .i64 ag, .int .i64 aK, .int .u64 aL, .int .i64 am, .int .i64 an, .int .i64 ao, .int .i64 ap, .int .i64 aq, .int .i64 ar, .int .i64 au, .int .u64 av, .int .i64 aw, .int .i64 ax, .int .i64 ay, .int .i64 az, .int .i64 aA], .int .i64 a1] w fun e w' => ∃ v0_ : Value, e = .returned v0_ ∧ Kd.R (Kd.int .u8) 5 w' w.heap.size (fun _ => True) v0_ r ∧ Below w.heap.size w w' := by
 have H := h
 clear h
 unfold carillonref06_Put.f at H
 obtain ⟨t7, cW, H⟩ := Option.bind_eq_some_iff.mp H
 by_cases c1 : t7 = true
 rotate_left
 ·rw [if_neg c1] at H
  obtain rfl := Option.some.inj H
  refine calls_of_wp (fn := Try.f26) (by kernel_rfl) rfl ?_
  have hS := St.enter #[(carillonref06_Put.v0 aa ab aD aE aB aC aF ag aK aL am an ao ap aq ar au av aw ax ay az aA), .int .i64 a1] 74 (by simp) [(0, (carillonref06_Put.v0 aa ab aD aE aB aC aF ag aK aL am an ao ap aq ar au av aw ax ay az aA)), (1, .int .i64 a1)] (by simp)
  have bA := Below.refl w.heap.size w
  refine wp_seq_k (fun K1 bB => ?_)
  refine reg_seq (I := I1_ w) (ps := [IsB (carillonref06_Put.c1 aa ab aD aE aB aC aF ag aK aL am an ao ap aq ar au av aw ax ay az aA) 28 w.heap.size, IsV (.slice none 0 0)]) (by kernel_rfl) ?_ ?_ rfl hS bA ?_ ?_
  ·exact bs1
  ·exact .cons (Stays.b _ _ _) (.v (.nil))
  ·refine .on rfl (fun a w hS hI hp => does_var (x_box rfl (congrArg Value.cells (hS.get 0 rfl))) (hI).size) ?_
   refine .on rfl (fun a w hS hI hp => does_val (x_assign rfl (rfl)) rfl) ?_
   exact .nil
  clear hS
  intro dq w3 hS bE hp
  replace hS := (hS.nil).cons (hS.get 1 rfl)
  obtain ⟨g4, aT, b0, ad⟩ := (show IsB _ 28 _ (sl _ 2) _ from hp 0 (by decide))
  have hS := hS.cons aT
  clear hp aT
  refine bB _ _ ?_
  refine wp_seq_k (fun K5 cX => ?_)
  refine wp_seq_k (fun K6 bC => ?_)
  refine reg_seq (I := I2_ w w3) (ps := [IsV ((carillonref06_Put.v0 aa ab aD aE aB aC aF ag aK aL am an ao ap aq ar au av aw ax ay az aA)), VB t7, VB (!t7), VB (!t7), VU, VU, VB true, VB true, VU, VU, VB true]) (by kernel_rfl) ?_ ?_ rfl hS ⟨bE, (bR w3)⟩ ?_ ?_
  ·exact bs2
  ·exact .v (.v (.v (.v (.v (.v (.v (.v (.v (.v (.v (.nil)))))))))))
  ·refine .on rfl (fun a w hS hI hp => does_loadrow rfl (hS.get 0 rfl) (((hI.2).block g4 (blk_lt ad)).trans ad) Try.underlying28 rfl (by kernel_rfl) rfl) ?_
   refine .on rfl (fun a w hS hI hp => does_call (by kernel_rfl) (ar1 (hp.V 0 rfl rfl)) ((carillonref06_Check.calls (w := _) (h := cW)).mono fun _ _ h => ⟨_, h.1, h.2, rfl⟩)) ?_
   refine .on rfl (fun a w hS hI hp => does_val (x_not rfl (hp.V 1 rfl rfl)) rfl) ?_
   refine .mv 2 rfl rfl rfl ?_
   iterate 2 refine .sn 3 10 rfl rfl ((congrArg (!·) (Bool.eq_false_iff.2 c1))) ?_
   refine .on rfl (fun a w hS hI hp => does_val (x_pickT rfl ((hp.V 3 rfl rfl).trans (bT (congrArg (!·) (Bool.eq_false_iff.2 c1)))) (rfl)) rfl) ?_
   refine .mv 6 rfl rfl rfl ?_
   iterate 2 refine .sn 7 14 rfl rfl rfl ?_
   refine .on rfl (fun a w hS hI hp => does_val (x_pickT rfl ((hp.V 7 rfl rfl).trans (bT rfl)) (rfl)) rfl) ?_
   exact .nil
  clear hS
  intro dr w9 hS al hp
  have aP : sl _ 17 = .bool true := hp 10 (by decide)
  have hS := hS.cons aP
  clear hp aP
  refine bC _ _ ?_
  refine wp_cond_true ((hS.get 0 rfl).trans (bT rfl)) ?_
  refine wp_seq_k (fun dp aX => ?_)
  refine reg_seq (I := I3_ w w3 w9) (ps := [IsV (.slice none 0 0)]) (by kernel_rfl) ?_ ?_ rfl hS ⟨al.1, al.2, (bR w9)⟩ ?_ ?_
  ·exact bs3
  ·exact .v (.nil)
  ·refine .on rfl (fun a w hS hI hp => does_val (x_assign rfl (rfl)) rfl) ?_
   exact .nil
  clear hS
  intro cg aW hS aS hp
  replace hS := hS.nil
  have bv : sl _ 4 = .slice none 0 0 := hp 0 (by decide)
  have hS := hS.cons bv
  clear hp bv
  refine aX _ _ ?_
  refine wp_ret ?_
  (try simp only [Exit.then, Exit.inBlock, Exit.jump, Exit.noGoto])
  exact bodyPost_ret (v := .slice none 0 0) (results_single rfl (Vals.at (hS.get 0 rfl) .nil)) hS.nodef ⟨.slice none 0 0, rfl, Kd.R_nil _ _ _ _ _, aS.1⟩
 rw [if_pos c1] at H
 by_cases c2 : a1 < 34
 ·rw [if_pos c2] at H
  obtain rfl := Option.some.inj H
  refine calls_of_wp (fn := Try.f26) (by kernel_rfl) rfl ?_
  have hS := St.enter #[(carillonref06_Put.v0 aa ab aD aE aB aC aF ag aK aL am an ao ap aq ar au av aw ax ay az aA), .int .i64 a1] 74 (by simp) [(0, (carillonref06_Put.v0 aa ab aD aE aB aC aF ag aK aL am an ao ap aq ar au av aw ax ay az aA)), (1, .int .i64 a1)] (by simp)
  have bA := Below.refl w.heap.size w
  refine wp_seq_k (fun K1 bB => ?_)
  refine reg_seq (I := I1_ w) (ps := [IsB (carillonref06_Put.c1 aa ab aD aE aB aC aF ag aK aL am an ao ap aq ar au av aw ax ay az aA) 28 w.heap.size, IsV (.slice none 0 0)]) (by kernel_rfl) ?_ ?_ rfl hS bA ?_ ?_
  ·exact bs1
  ·exact .cons (Stays.b _ _ _) (.v (.nil))
  ·refine .on rfl (fun a w hS hI hp => does_var (x_box rfl (congrArg Value.cells (hS.get 0 rfl))) (hI).size) ?_
   refine .on rfl (fun a w hS hI hp => does_val (x_assign rfl (rfl)) rfl) ?_
   exact .nil
  clear hS
  intro dq w3 hS bE hp
  replace hS := (hS.nil).cons (hS.get 1 rfl)
  obtain ⟨g4, aT, b0, ad⟩ := (show IsB _ 28 _ (sl _ 2) _ from hp 0 (by decide))
  have hS := hS.cons aT
  clear hp aT
  refine bB _ _ ?_
  refine wp_seq_k (fun K5 cX => ?_)
  refine wp_seq_k (fun K6 bC => ?_)
  refine reg_seq (I := I2_ w w3) (ps := [IsV ((carillonref06_Put.v0 aa ab aD aE aB aC aF ag aK aL am an ao ap aq ar au av aw ax ay az aA)), VB t7, VB (!t7), VB (!t7), VI a1, VB (decide (a1 < 34)), VB (decide (a1 < 34)), VB (decide (a1 < 34)), VU, VU, VB true]) (by kernel_rfl) ?_ ?_ rfl hS ⟨bE, (bR w3)⟩ ?_ ?_
  ·exact bs2
  ·exact .v (.v (.v (.v (.v (.v (.v (.v (.v (.v (.v (.nil)))))))))))
  ·refine .on rfl (fun a w hS hI hp => does_loadrow rfl (hS.get 0 rfl) (((hI.2).block g4 (blk_lt ad)).trans ad) Try.underlying28 rfl (by kernel_rfl) rfl) ?_
   refine .on rfl (fun a w hS hI hp => does_call (by kernel_rfl) (ar1 (hp.V 0 rfl rfl)) ((carillonref06_Check.calls (w := _) (h := cW)).mono fun _ _ h => ⟨_, h.1, h.2, rfl⟩)) ?_
   refine .on rfl (fun a w hS hI hp => does_val (x_not rfl (hp.V 1 rfl rfl)) rfl) ?_
   refine .mv 2 rfl rfl rfl ?_
   refine .oy 3 10 rfl rfl ((congrArg (!·) c1)) (fun a w hS hI hp => does_val (x_move rfl (hS.get 1 rfl)) rfl) ?_
   refine .oy 3 10 rfl rfl ((congrArg (!·) c1)) (fun a w hS hI hp => does_val (x_bin rfl (hp.V 4 rfl rfl) (rfl) (b_lss _ _ _ _ _ _)) rfl) ?_
   refine .on rfl (fun a w hS hI hp => does_val (x_pickF rfl ((hp.V 3 rfl rfl).trans (bF (congrArg (!·) c1))) (hp.V 5 rfl rfl)) rfl) ?_
   refine .mv 6 rfl rfl rfl ?_
   iterate 2 refine .sn 7 14 rfl rfl ((decide_eq_true c2)) ?_
   refine .on rfl (fun a w hS hI hp => does_val (x_pickT rfl ((hp.V 7 rfl rfl).trans (bT (decide_eq_true c2))) (rfl)) rfl) ?_
   exact .nil
  clear hS
  intro dr w9 hS al hp
  have aP : sl _ 17 = .bool true := hp 10 (by decide)
  have hS := hS.cons aP
  clear hp aP
  refine bC _ _ ?_
  refine wp_cond_true ((hS.get 0 rfl).trans (bT rfl)) ?_
  refine wp_seq_k (fun dp aX => ?_)
  refine reg_seq (I := I3_ w w3 w9) (ps := [IsV (.slice none 0 0)]) (by kernel_rfl) ?_ ?_ rfl hS ⟨al.1, al.2, (bR w9)⟩ ?_ ?_
  ·exact bs3
  ·exact .v (.nil)
  ·refine .on rfl (fun a w hS hI hp => does_val (x_assign rfl (rfl)) rfl) ?_
   exact .nil
  clear hS
  intro cg aW hS aS hp
  replace hS := hS.nil
  have bv : sl _ 4 = .slice none 0 0 := hp 0 (by decide)
  have hS := hS.cons bv
  clear hp bv
  refine aX _ _ ?_
  refine wp_ret ?_
  (try simp only [Exit.then, Exit.inBlock, Exit.jump, Exit.noGoto])
  exact bodyPost_ret (v := .slice none 0 0) (results_single rfl (Vals.at (hS.get 0 rfl) .nil)) hS.nodef ⟨.slice none 0 0, rfl, Kd.R_nil _ _ _ _ _, aS.1⟩
 rw [if_neg c2] at H
 by_cases c3 : a1 > 400
 ·rw [if_pos c3] at H
  obtain rfl := Option.some.inj H
  refine calls_of_wp (fn := Try.f26) (by kernel_rfl) rfl ?_
  have hS := St.enter #[(carillonref06_Put.v0 aa ab aD aE aB aC aF ag aK aL am an ao ap aq ar au av aw ax ay az aA), .int .i64 a1] 74 (by simp) [(0, (carillonref06_Put.v0 aa ab aD aE aB aC aF ag aK aL am an ao ap aq ar au av aw ax ay az aA)), (1, .int .i64 a1)] (by simp)
  have bA := Below.refl w.heap.size w
  refine wp_seq_k (fun K1 bB => ?_)
  refine reg_seq (I := I1_ w) (ps := [IsB (carillonref06_Put.c1 aa ab aD aE aB aC aF ag aK aL am an ao ap aq ar au av aw ax ay az aA) 28 w.heap.size, IsV (.slice none 0 0)]) (by kernel_rfl) ?_ ?_ rfl hS bA ?_ ?_
  ·exact bs1
  ·exact .cons (Stays.b _ _ _) (.v (.nil))
  ·refine .on rfl (fun a w hS hI hp => does_var (x_box rfl (congrArg Value.cells (hS.get 0 rfl))) (hI).size) ?_
   refine .on rfl (fun a w hS hI hp => does_val (x_assign rfl (rfl)) rfl) ?_
   exact .nil
  clear hS
  intro dq w3 hS bE hp
  replace hS := (hS.nil).cons (hS.get 1 rfl)
  obtain ⟨g4, aT, b0, ad⟩ := (show IsB _ 28 _ (sl _ 2) _ from hp 0 (by decide))
  have hS := hS.cons aT
  clear hp aT
  refine bB _ _ ?_
  refine wp_seq_k (fun K5 cX => ?_)
  refine wp_seq_k (fun K6 bC => ?_)
  refine reg_seq (I := I2_ w w3) (ps := [IsV ((carillonref06_Put.v0 aa ab aD aE aB aC aF ag aK aL am an ao ap aq ar au av aw ax ay az aA)), VB t7, VB (!t7), VB (!t7), VI a1, VB (decide (a1 < 34)), VB (decide (a1 < 34)), VB (decide (a1 < 34)), VI a1, VB (decide (a1 > 400)), VB (decide (a1 > 400))]) (by kernel_rfl) ?_ ?_ rfl hS ⟨bE, (bR w3)⟩ ?_ ?_
  ·exact bs2
  ·exact .v (.v (.v (.v (.v (.v (.v (.v (.v (.v (.v (.nil)))))))))))
  ·refine .on rfl (fun a w hS hI hp => does_loadrow rfl (hS.get 0 rfl) (((hI.2).block g4 (blk_lt ad)).trans ad) Try.underlying28 rfl (by kernel_rfl) rfl) ?_
   refine .on rfl (fun a w hS hI hp => does_call (by kernel_rfl) (ar1 (hp.V 0 rfl rfl)) ((carillonref06_Check.calls (w := _) (h := cW)).mono fun _ _ h => ⟨_, h.1, h.2, rfl⟩)) ?_
   refine .on rfl (fun a w hS hI hp => does_val (x_not rfl (hp.V 1 rfl rfl)) rfl) ?_
   refine .mv 2 rfl rfl rfl ?_
   refine .oy 3 10 rfl rfl ((congrArg (!·) c1)) (fun a w hS hI hp => does_val (x_move rfl (hS.get 1 rfl)) rfl) ?_
   refine .oy 3 10 rfl rfl ((congrArg (!·) c1)) (fun a w hS hI hp => does_val (x_bin rfl (hp.V 4 rfl rfl) (rfl) (b_lss _ _ _ _ _ _)) rfl) ?_
   refine .on rfl (fun a w hS hI hp => does_val (x_pickF rfl ((hp.V 3 rfl rfl).trans (bF (congrArg (!·) c1))) (hp.V 5 rfl rfl)) rfl) ?_
   refine .mv 6 rfl rfl rfl ?_
   refine .oy 7 14 rfl rfl ((decide_eq_false c2)) (fun a w hS hI hp => does_val (x_move rfl (hS.get 1 rfl)) rfl) ?_
   refine .oy 7 14 rfl rfl ((decide_eq_false c2)) (fun a w hS hI hp => does_val (x_bin rfl (hp.V 8 rfl rfl) (rfl) (b_gtr _ _ _ _ _ _)) rfl) ?_
   refine .on rfl (fun a w hS hI hp => does_val (x_pickF rfl ((hp.V 7 rfl rfl).trans (bF (decide_eq_false c2))) (hp.V 9 rfl rfl)) rfl) ?_
   exact .nil
  clear hS
  intro dr w9 hS al hp
  have aP : sl _ 17 = .bool (decide (a1 > 400)) := hp 10 (by decide)
  have hS := hS.cons aP
  clear hp aP
  refine bC _ _ ?_
  refine wp_cond_true ((hS.get 0 rfl).trans (bT (decide_eq_true c3))) ?_
  refine wp_seq_k (fun dp aX => ?_)
  refine reg_seq (I := I3_ w w3 w9) (ps := [IsV (.slice none 0 0)]) (by kernel_rfl) ?_ ?_ rfl hS ⟨al.1, al.2, (bR w9)⟩ ?_ ?_
  ·exact bs3
  ·exact .v (.nil)
  ·refine .on rfl (fun a w hS hI hp => does_val (x_assign rfl (rfl)) rfl) ?_
   exact .nil
  clear hS
  intro cg aW hS aS hp
  replace hS := hS.nil
  have bv : sl _ 4 = .slice none 0 0 := hp 0 (by decide)
  have hS := hS.cons bv
  clear hp bv
  refine aX _ _ ?_
  refine wp_ret ?_
  (try simp only [Exit.then, Exit.inBlock, Exit.jump, Exit.noGoto])
  exact bodyPost_ret (v := .slice none 0 0) (results_single rfl (Vals.at (hS.get 0 rfl) .nil)) hS.nodef ⟨.slice none 0 0, rfl, Kd.R_nil _ _ _ _ _, aS.1⟩
 rw [if_neg c3] at H
 obtain ⟨ac, eT, H⟩ := Option.bind_eq_some_iff.mp H
 by_cases c4 : ([IntKind.u8.wrap aa, 18].length + ac.length) * 1 ≤ 140737488355328
 rotate_left
 ·rw [if_neg c4] at H
  exact absurd H (by simp)
 rw [if_pos c4] at H
 by_cases c5 : (([IntKind.u8.wrap aa, 18] ++ ac : List Int).length + [IntKind.u8.wrap ab, 0].length) * 1 ≤ 140737488355328
 rotate_left
 ·rw [if_neg c5] at H
  exact absurd H (by simp)
 rw [if_pos c5] at H
 obtain ⟨ae, eU, H⟩ := Option.bind_eq_some_iff.mp H
 by_cases c6 : ((([IntKind.u8.wrap aa, 18] ++ ac : List Int) ++ [IntKind.u8.wrap ab, 0] : List Int).length + ae.length) * 1 ≤ 140737488355328
 rotate_left
 ·rw [if_neg c6] at H
  exact absurd H (by simp)
 rw [if_pos c6] at H
 obtain ⟨af, eV, H⟩ := Option.bind_eq_some_iff.mp H
 by_cases c7 : (((([IntKind.u8.wrap aa, 18] ++ ac : List Int) ++ [IntKind.u8.wrap ab, 0] : List Int) ++ ae : List Int).length + af.length) * 1 ≤ 140737488355328
 rotate_left
 ·rw [if_neg c7] at H
  exact absurd H (by simp)
 rw [if_pos c7] at H
 by_cases c8 : ((((([IntKind.u8.wrap aa, 18] ++ ac : List Int) ++ [IntKind.u8.wrap ab, 0] : List Int) ++ ae : List Int) ++ af : List Int).length + [0, 0, 0, 0].length) * 1 ≤ 140737488355328
 rotate_left
 ·rw [if_neg c8] at H
  exact absurd H (by simp)
 rw [if_pos c8] at H
 obtain ⟨ak, eW, H⟩ := Option.bind_eq_some_iff.mp H
 by_cases c9 : (((((([IntKind.u8.wrap aa, 18] ++ ac : List Int) ++ [IntKind.u8.wrap ab, 0] : List Int) ++ ae : List Int) ++ af : List Int) ++ [0, 0, 0, 0] : List Int).length + ak.length) * 1 ≤ 140737488355328
 rotate_left
 ·rw [if_neg c9] at H
  exact absurd H (by simp)
 rw [if_pos c9] at H
 obtain ⟨aI, eX, H⟩ := Option.bind_eq_some_iff.mp H
 by_cases ds : ((((((([IntKind.u8.wrap aa, 18] ++ ac : List Int) ++ [IntKind.u8.wrap ab, 0] : List Int) ++ ae : List Int) ++ af : List Int) ++ [0, 0, 0, 0] : List Int) ++ ak : List Int).length + aI.length) * 1 ≤ 140737488355328
 rotate_left
 ·rw [if_neg ds] at H
  exact absurd H (by simp)
 rw [if_pos ds] at H
 by_cases dt : (((((((([IntKind.u8.wrap aa, 18] ++ ac : List Int) ++ [IntKind.u8.wrap ab, 0] : List Int) ++ ae : List Int) ++ af : List Int) ++ [0, 0, 0, 0] : List Int) ++ ak : List Int) ++ aI : List Int).length + [(if aa = 0 then 0 else (if aa = 1 then 1 else (if aa = 8 then 2 else (if aa = 9 then 3 else (if aa = 13 then 4 else 5))))), IntKind.u8.wrap ag].length) * 1 ≤ 140737488355328
 rotate_left
 ·rw [if_neg dt] at H
  exact absurd H (by simp)
 rw [if_pos dt] at H
 obtain rfl := Option.some.inj H
 refine calls_of_wp (fn := Try.f26) (by kernel_rfl) rfl ?_
 have hS := St.enter #[(carillonref06_Put.v0 aa ab aD aE aB aC aF ag aK aL am an ao ap aq ar au av aw ax ay az aA), .int .i64 a1] 74 (by simp) [(0, (carillonref06_Put.v0 aa ab aD aE aB aC aF ag aK aL am an ao ap aq ar au av aw ax ay az aA)), (1, .int .i64 a1)] (by simp)
 have bA := Below.refl w.heap.size w
 refine wp_seq_k (fun K1 bB => ?_)
 refine reg_seq (I := I1_ w) (ps := [IsB (carillonref06_Put.c1 aa ab aD aE aB aC aF ag aK aL am an ao ap aq ar au av aw ax ay az aA) 28 w.heap.size, IsV (.slice none 0 0)]) (by kernel_rfl) ?_ ?_ rfl hS bA ?_ ?_
 ·exact bs1
 ·exact .cons (Stays.b _ _ _) (.v (.nil))
 ·refine .on rfl (fun a w hS hI hp => does_var (x_box rfl (congrArg Value.cells (hS.get 0 rfl))) (hI).size) ?_
  refine .on rfl (fun a w hS hI hp => does_val (x_assign rfl (rfl)) rfl) ?_
  exact .nil
 clear hS
 intro dq w3 hS bE hp
 replace hS := (hS.nil).cons (hS.get 1 rfl)
 obtain ⟨g4, aT, b0, ad⟩ := (show IsB _ 28 _ (sl _ 2) _ from hp 0 (by decide))
 have hS := hS.cons aT
 clear hp aT
 refine bB _ _ ?_
 refine wp_seq_k (fun K5 cX => ?_)
 refine wp_seq_k (fun K6 bC => ?_)
 refine reg_seq (I := I2_ w w3) (ps := [IsV ((carillonref06_Put.v0 aa ab aD aE aB aC aF ag aK aL am an ao ap aq ar au av aw ax ay az aA)), VB t7, VB (!t7), VB (!t7), VI a1, VB (decide (a1 < 34)), VB (decide (a1 < 34)), VB (decide (a1 < 34)), VI a1, VB (decide (a1 > 400)), VB (decide (a1 > 400))]) (by kernel_rfl) ?_ ?_ rfl hS ⟨bE, (bR w3)⟩ ?_ ?_
 ·exact bs2
 ·exact .v (.v (.v (.v (.v (.v (.v (.v (.v (.v (.v (.nil)))))))))))
 ·refine .on rfl (fun a w hS hI hp => does_loadrow rfl (hS.get 0 rfl) (((hI.2).block g4 (blk_lt ad)).trans ad) Try.underlying28 rfl (by kernel_rfl) rfl) ?_
  refine .on rfl (fun a w hS hI hp => does_call (by kernel_rfl) (ar1 (hp.V 0 rfl rfl)) ((carillonref06_Check.calls (w := _) (h := cW)).mono fun _ _ h => ⟨_, h.1, h.2, rfl⟩)) ?_
  refine .on rfl (fun a w hS hI hp => does_val (x_not rfl (hp.V 1 rfl rfl)) rfl) ?_
  refine .mv 2 rfl rfl rfl ?_
  refine .oy 3 10 rfl rfl ((congrArg (!·) c1)) (fun a w hS hI hp => does_val (x_move rfl (hS.get 1 rfl)) rfl) ?_
  refine .oy 3 10 rfl rfl ((congrArg (!·) c1)) (fun a w hS hI hp => does_val (x_bin rfl (hp.V 4 rfl rfl) (rfl) (b_lss _ _ _ _ _ _)) rfl) ?_
  refine .on rfl (fun a w hS hI hp => does_val (x_pickF rfl ((hp.V 3 rfl rfl).trans (bF (congrArg (!·) c1))) (hp.V 5 rfl rfl)) rfl) ?_
  refine .mv 6 rfl rfl rfl ?_
  refine .oy 7 14 rfl rfl ((decide_eq_false c2)) (fun a w hS hI hp => does_val (x_move rfl (hS.get 1 rfl)) rfl) ?_
  refine .oy 7 14 rfl rfl ((decide_eq_false c2)) (fun a w hS hI hp => does_val (x_bin rfl (hp.V 8 rfl rfl) (rfl) (b_gtr _ _ _ _ _ _)) rfl) ?_
  refine .on rfl (fun a w hS hI hp => does_val (x_pickF rfl ((hp.V 7 rfl rfl).trans (bF (decide_eq_false c2))) (hp.V 9 rfl rfl)) rfl) ?_
  exact .nil
 clear hS
 intro dr w9 hS al hp
 have aP : sl _ 17 = .bool (decide (a1 > 400)) := hp 10 (by decide)
 have hS := hS.cons aP
 clear hp aP
 refine bC _ _ ?_
 refine wp_cond_false ((hS.get 0 rfl).trans (bF (decide_eq_false c3))) ?_
 refine wp_skip ?_
 refine cX _ _ ?_
 refine wp_seq_k (fun dp aX => ?_)
 refine reg_seq (I := I3_ w w3 w9) (ps := [VP g4 0, VI aa, IsV (.int .u8 (IntKind.u8.wrap aa)), IsR (Kd.int .u8) 5 w9.heap.size [IntKind.u8.wrap aa, 18], IsR (Kd.int .u8) 5 w9.heap.size [IntKind.u8.wrap aa, 18]]) (by kernel_rfl) ?_ ?_ rfl hS ⟨al.1, al.2, (bR w9)⟩ ?_ ?_
 ·exact bs3
 ·exact .v (.v (.v (.cons (Stays.r _ _ _ _) (.cons (Stays.r _ _ _ _) (.nil)))))
 ·refine .on rfl (fun a w hS hI hp => does_val (x_fieldE (b := 0) rfl (hS.get 1 rfl) Try.underlying28 rfl rfl (by kernel_rfl)) rfl) ?_
  refine .on rfl (fun a w hS hI hp => does_val (x_load1 (d := .int .i64) rfl (hp.V 0 rfl rfl) (by kernel_rfl) rfl ((blk_cell (((hI.2.1).block g4 (blk_lt ad)).trans ad) 0).trans rfl)) rfl) ?_
  refine .on rfl (fun a w hS hI hp => does_val (x_convI rfl (by kernel_rfl) (by kernel_rfl) (hp.V 1 rfl rfl)) rfl) ?_
  refine .on rfl (fun a w hS hI hp => does_lit w9.heap.size 36 5 2 _ [(0, .int .u8 (IntKind.u8.wrap aa)), (1, .int .u8 18)] [IntKind.u8.wrap aa, 18] rfl (by kernel_rfl) (by rw [Array.toList_map]; exact (show [(0, a.eval (.tmp 20)), (1, a.eval (.const (.int .u8 18)))] = _ from (li_cons (hp.V 2 rfl rfl) (li_cons (rfl) rfl)))) (by kernel_rfl) rfl (hI.2.2).size (Nat.le_of_ble_eq_true rfl)) ?_
  refine .on rfl (fun a w hS hI hp => does_val (x_assign rfl rfl) (hp.V 3 rfl rfl)) ?_
  exact .nil
 clear hS
 intro cg aW hS aS hp
 replace hS := ((hS.nil).cons (hS.get 2 rfl)).cons (hS.get 1 rfl)
 obtain ⟨dm, dn, dA, hq, hg⟩ := Kd.R_reads (show Kd.R (Kd.int .u8) 5 aW w9.heap.size (fun _ => True) (sl _ 5) [IntKind.u8.wrap aa, 18] from hp 4 (by decide))
 have fh : Kd.R (Kd.int .u8) 5 aW w9.heap.size (fun _ => True) (.slice dm [IntKind.u8.wrap aa, 18].length dn) [IntKind.u8.wrap aa, 18] := dA ▸ (hp 4 (by decide))
 have hS := hS.cons dA
 clear hp dA
 refine aX _ _ ?_
 refine wp_seq_k (fun h4 eZ => ?_)
 refine reg_seq_tail 3 (I := I4_ w w3 w9 aW) (ps := [IsV (.slice dm ([IntKind.u8.wrap aa, 18].length) dn), VI a1, IsR (Kd.int .u8) 5 aW.heap.size ac]) (by kernel_rfl) ?_ ?_ rfl hS ⟨aS.1, aS.2.1, aS.2.2, (bR aW)⟩ ?_ ?_
 ·exact bs4
 ·exact .v (.v (.cons (Stays.r _ _ _ _) (.nil)))
 ·refine .ms 0 rfl rfl rfl ?_
  refine .ms 2 rfl rfl rfl ?_
  refine .on rfl (fun a w hS hI hp => does_call (by kernel_rfl) (ar2 (hp.V 1 rfl rfl) (rfl)) ((carillonref01_Put.calls k a1 2 ac _  eT).mono fun _ _ h => h.elim fun v0 h => ⟨v0, h.1, h.2.2, Kd.R_lower h.2.1 hI.2.2.2.size⟩)) ?_
  exact .nil
 clear hS
 intro gM dT hS dD hp
 replace hS := ((hS.nil).cons (hS.get 1 rfl)).cons (hS.get 0 rfl)
 have du : sl _ 22 = .slice dm ([IntKind.u8.wrap aa, 18].length) dn := hp 0 (by decide)
 obtain ⟨fy, fF, cN, hs, fa⟩ := Kd.R_reads (show Kd.R (Kd.int .u8) 5 dT aW.heap.size (fun _ => True) (sl _ 24) ac from hp 2 (by decide))
 have hH : Kd.R (Kd.int .u8) 5 dT aW.heap.size (fun _ => True) (.slice fy ac.length fF) ac := cN ▸ (hp 2 (by decide))
 have hS := hS.cons du
 have hS := hS.cons cN
 clear hp du cN
 show wpList _ _ _ [_, _] _ _
 refine list_step rfl (does_more (W := w9) (.tmp 22) (.tmp 24) 36 5 1 rfl (by kernel_rfl) (by kernel_rfl) (by decide) _ [IntKind.u8.wrap aa, 18] ac _ _ (hS.get 1 rfl) (hS.get 0 rfl) (Kd.R_below fh dD.2.2.2) (Kd.C_below fa (bR dT)) dD.2.2.1 c4) ?_
 rintro hP eJ ⟨hb, hr, hk⟩
 clear hk
 have cZ := below_step al.1 hb
 have ch := below_step al.2 hb
 have ci := hb
 replace hS := (hS.nil).cons (hS.get 3 rfl)
 obtain ⟨bJ, bP, rfl, ht, hh⟩ := Kd.R_reads hr
 have fi := hr
 clear hr
 refine hS.next (v := .slice bJ (([IntKind.u8.wrap aa, 18] ++ ac : List Int).length) bP) (d := 25) rfl (by decide) (by rfl) ?_
 clear hS
 intro gN hS
 refine list_step rfl (R := fun v w' => Below _ _ w' ∧ (IsV (.slice bJ (([IntKind.u8.wrap aa, 18] ++ ac : List Int).length) bP)) v w') (does_val (x_assign rfl (hS.get 0 rfl)) rfl) ?_
 rintro fq bX ⟨hb, he⟩
 have c0 := below_step cZ hb
 have cj := below_step ch hb
 have ck := below_step ci hb
 have b1 := below_step (bR eJ) hb
 obtain rfl : fq = .slice bJ (([IntKind.u8.wrap aa, 18] ++ ac : List Int).length) bP := he
 refine hS.next (v := .slice bJ (([IntKind.u8.wrap aa, 18] ++ ac : List Int).length) bP) (d := 5) rfl (by decide) (by rfl) ?_
 clear hS
 intro gO hS
 refine wpList_nil ?_
 refine eZ _ _ ?_
 refine wp_seq_k (fun h5 e0 => ?_)
 refine reg_seq_tail 5 (I := I5_ w w3 w9 eJ bX) (ps := [IsV (.slice bJ (([IntKind.u8.wrap aa, 18] ++ ac : List Int).length) bP), VP g4 1, VI ab, IsV (.int .u8 (IntKind.u8.wrap ab)), IsR (Kd.int .u8) 5 bX.heap.size [IntKind.u8.wrap ab, 0]]) (by kernel_rfl) ?_ ?_ rfl hS ⟨c0, cj, ck, b1, (bR bX)⟩ ?_ ?_
 ·exact bs5
 ·exact .v (.v (.v (.v (.cons (Stays.r _ _ _ _) (.nil)))))
 ·refine .ms 0 rfl rfl rfl ?_
  refine .on rfl (fun a w hS hI hp => does_val (x_fieldE (b := 0) rfl (hS.get 2 rfl) Try.underlying28 rfl rfl (by kernel_rfl)) rfl) ?_
  refine .on rfl (fun a w hS hI hp => does_val (x_load1 (d := .int .i64) rfl (hp.V 1 rfl rfl) (by kernel_rfl) rfl ((blk_cell (((hI.2.1).block g4 (blk_lt ad)).trans ad) 1).trans rfl)) rfl) ?_
  refine .on rfl (fun a w hS hI hp => does_val (x_convI rfl (by kernel_rfl) (by kernel_rfl) (hp.V 2 rfl rfl)) rfl) ?_
  refine .on rfl (fun a w hS hI hp => does_lit bX.heap.size 36 5 2 _ [(0, .int .u8 (IntKind.u8.wrap ab)), (1, .int .u8 0)] [IntKind.u8.wrap ab, 0] rfl (by kernel_rfl) (by rw [Array.toList_map]; exact (show [(0, a.eval (.tmp 29)), (1, a.eval (.const (.int .u8 0)))] = _ from (li_cons (hp.V 3 rfl rfl) (li_cons (rfl) rfl)))) (by kernel_rfl) rfl (hI.2.2.2.2).size (Nat.le_of_ble_eq_true rfl)) ?_
  exact .nil
 clear hS
 intro gP d8 hS dE hp
 replace hS := ((hS.nil).cons (hS.get 2 rfl)).cons (hS.get 0 rfl)
 have dv : sl _ 26 = .slice bJ (([IntKind.u8.wrap aa, 18] ++ ac : List Int).length) bP := hp 0 (by decide)
 obtain ⟨fz, fG, cO, hu, fb⟩ := Kd.R_reads (show Kd.R (Kd.int .u8) 5 d8 bX.heap.size (fun _ => True) (sl _ 30) [IntKind.u8.wrap ab, 0] from hp 4 (by decide))
 have hJ : Kd.R (Kd.int .u8) 5 d8 bX.heap.size (fun _ => True) (.slice fz [IntKind.u8.wrap ab, 0].length fG) [IntKind.u8.wrap ab, 0] := cO ▸ (hp 4 (by decide))
 have hS := hS.cons dv
 have hS := hS.cons cO
 clear hp dv cO
 show wpList _ _ _ [_, _] _ _
 refine list_step rfl (does_more (W := w9) (.tmp 26) (.tmp 30) 36 5 1 rfl (by kernel_rfl) (by kernel_rfl) (by decide) _ ([IntKind.u8.wrap aa, 18] ++ ac : List Int) [IntKind.u8.wrap ab, 0] _ _ (hS.get 1 rfl) (hS.get 0 rfl) (Kd.R_below fi dE.2.2.2.1) (Kd.C_below fb (bR d8)) dE.2.2.1 c5) ?_
 rintro hQ eK ⟨hb, hr, hk⟩
 clear hk
 have da := below_step al.1 hb
 have co := below_step al.2 hb
 have cp := hb
 replace hS := (hS.nil).cons (hS.get 3 rfl)
 obtain ⟨bK, bQ, rfl, hw, hi⟩ := Kd.R_reads hr
 have fj := hr
 clear hr
 refine hS.next (v := .slice bK ((([IntKind.u8.wrap aa, 18] ++ ac : List Int) ++ [IntKind.u8.wrap ab, 0] : List Int).length) bQ) (d := 31) rfl (by decide) (by rfl) ?_
 clear hS
 intro gQ hS
 refine list_step rfl (R := fun v w' => Below _ _ w' ∧ (IsV (.slice bK ((([IntKind.u8.wrap aa, 18] ++ ac : List Int) ++ [IntKind.u8.wrap ab, 0] : List Int).length) bQ)) v w') (does_val (x_assign rfl (hS.get 0 rfl)) rfl) ?_
 rintro fr cc ⟨hb, he⟩
 have db := below_step da hb
 have cq := below_step co hb
 have cr := below_step cp hb
 have b6 := below_step (bR eK) hb
 obtain rfl : fr = .slice bK ((([IntKind.u8.wrap aa, 18] ++ ac : List Int) ++ [IntKind.u8.wrap ab, 0] : List Int).length) bQ := he
 refine hS.next (v := .slice bK ((([IntKind.u8.wrap aa, 18] ++ ac : List Int) ++ [IntKind.u8.wrap ab, 0] : List Int).length) bQ) (d := 5) rfl (by decide) (by rfl) ?_
 clear hS
 intro gR hS
 refine wpList_nil ?_
 refine e0 _ _ ?_
 refine wp_seq_k (fun h6 e1 => ?_)
 refine reg_seq_tail 4 (I := I5_ w w3 w9 eK cc) (ps := [IsV (.slice bK ((([IntKind.u8.wrap aa, 18] ++ ac : List Int) ++ [IntKind.u8.wrap ab, 0] : List Int).length) bQ), VP g4 2, VI aD, IsR (Kd.int .u8) 5 cc.heap.size ae]) (by kernel_rfl) ?_ ?_ rfl hS ⟨db, cq, cr, b6, (bR cc)⟩ ?_ ?_
 ·exact bs5
 ·exact .v (.v (.v (.cons (Stays.r _ _ _ _) (.nil))))
 ·refine .ms 0 rfl rfl rfl ?_
  refine .on rfl (fun a w hS hI hp => does_val (x_fieldE (b := 0) rfl (hS.get 2 rfl) Try.underlying28 rfl rfl (by kernel_rfl)) rfl) ?_
  refine .on rfl (fun a w hS hI hp => does_val (x_load1 (d := .int .i64) rfl (hp.V 1 rfl rfl) (by kernel_rfl) rfl ((blk_cell (((hI.2.1).block g4 (blk_lt ad)).trans ad) 2).trans rfl)) rfl) ?_
  refine .on rfl (fun a w hS hI hp => does_call (by kernel_rfl) (ar2 (hp.V 2 rfl rfl) (rfl)) ((carillonref01_Put.calls k aD 2 ae _  eU).mono fun _ _ h => h.elim fun v0 h => ⟨v0, h.1, h.2.2, Kd.R_lower h.2.1 hI.2.2.2.2.size⟩)) ?_
  exact .nil
 clear hS
 intro gS d9 hS dF hp
 replace hS := ((hS.nil).cons (hS.get 2 rfl)).cons (hS.get 0 rfl)
 have dw : sl _ 32 = .slice bK ((([IntKind.u8.wrap aa, 18] ++ ac : List Int) ++ [IntKind.u8.wrap ab, 0] : List Int).length) bQ := hp 0 (by decide)
 obtain ⟨fA, fH, cP, hx, fc⟩ := Kd.R_reads (show Kd.R (Kd.int .u8) 5 d9 cc.heap.size (fun _ => True) (sl _ 35) ae from hp 3 (by decide))
 have hK : Kd.R (Kd.int .u8) 5 d9 cc.heap.size (fun _ => True) (.slice fA ae.length fH) ae := cP ▸ (hp 3 (by decide))
 have hS := hS.cons dw
 have hS := hS.cons cP
 clear hp dw cP
 show wpList _ _ _ [_, _] _ _
 refine list_step rfl (does_more (W := w9) (.tmp 32) (.tmp 35) 36 5 1 rfl (by kernel_rfl) (by kernel_rfl) (by decide) _ (([IntKind.u8.wrap aa, 18] ++ ac : List Int) ++ [IntKind.u8.wrap ab, 0] : List Int) ae _ _ (hS.get 1 rfl) (hS.get 0 rfl) (Kd.R_below fj dF.2.2.2.1) (Kd.C_below fc (bR d9)) dF.2.2.1 c6) ?_
 rintro hR eL ⟨hb, hr, hk⟩
 clear hk
 have dc := below_step al.1 hb
 have ct := below_step al.2 hb
 have cu := hb
 replace hS := (hS.nil).cons (hS.get 3 rfl)
 obtain ⟨bL, bS, rfl, hy, hj⟩ := Kd.R_reads hr
 have fk := hr
 clear hr
 refine hS.next (v := .slice bL (((([IntKind.u8.wrap aa, 18] ++ ac : List Int) ++ [IntKind.u8.wrap ab, 0] : List Int) ++ ae : List Int).length) bS) (d := 36) rfl (by decide) (by rfl) ?_
 clear hS
 intro gT hS
 refine list_step rfl (R := fun v w' => Below _ _ w' ∧ (IsV (.slice bL (((([IntKind.u8.wrap aa, 18] ++ ac : List Int) ++ [IntKind.u8.wrap ab, 0] : List Int) ++ ae : List Int).length) bS)) v w') (does_val (x_assign rfl (hS.get 0 rfl)) rfl) ?_
 rintro fs cd ⟨hb, he⟩
 have dd := below_step dc hb
 have cv := below_step ct hb
 have cw := below_step cu hb
 have b7 := below_step (bR eL) hb
 obtain rfl : fs = .slice bL (((([IntKind.u8.wrap aa, 18] ++ ac : List Int) ++ [IntKind.u8.wrap ab, 0] : List Int) ++ ae : List Int).length) bS := he
 refine hS.next (v := .slice bL (((([IntKind.u8.wrap aa, 18] ++ ac : List Int) ++ [IntKind.u8.wrap ab, 0] : List Int) ++ ae : List Int).length) bS) (d := 5) rfl (by decide) (by rfl) ?_
 clear hS
 intro gU hS
 refine wpList_nil ?_
 refine e1 _ _ ?_
 refine wp_seq_k (fun h7 e2 => ?_)
 refine reg_seq_tail 4 (I := I5_ w w3 w9 eL cd) (ps := [IsV (.slice bL (((([IntKind.u8.wrap aa, 18] ++ ac : List Int) ++ [IntKind.u8.wrap ab, 0] : List Int) ++ ae : List Int).length) bS), VP g4 3, VI aE, IsR (Kd.int .u8) 5 cd.heap.size af]) (by kernel_rfl) ?_ ?_ rfl hS ⟨dd, cv, cw, b7, (bR cd)⟩ ?_ ?_
 ·exact bs5
 ·exact .v (.v (.v (.cons (Stays.r _ _ _ _) (.nil))))
 ·refine .ms 0 rfl rfl rfl ?_
  refine .on rfl (fun a w hS hI hp => does_val (x_fieldE (b := 0) rfl (hS.get 2 rfl) Try.underlying28 rfl rfl (by kernel_rfl)) rfl) ?_
  refine .on rfl (fun a w hS hI hp => does_val (x_load1 (d := .int .i64) rfl (hp.V 1 rfl rfl) (by kernel_rfl) rfl ((blk_cell (((hI.2.1).block g4 (blk_lt ad)).trans ad) 3).trans rfl)) rfl) ?_
  refine .on rfl (fun a w hS hI hp => does_call (by kernel_rfl) (ar2 (hp.V 2 rfl rfl) (rfl)) ((carillonref01_Put.calls k aE 8 af _  eV).mono fun _ _ h => h.elim fun v0 h => ⟨v0, h.1, h.2.2, Kd.R_lower h.2.1 hI.2.2.2.2.size⟩)) ?_
  exact .nil
 clear hS
 intro gV ea hS dG hp
 replace hS := ((hS.nil).cons (hS.get 2 rfl)).cons (hS.get 0 rfl)
 have dx : sl _ 37 = .slice bL (((([IntKind.u8.wrap aa, 18] ++ ac : List Int) ++ [IntKind.u8.wrap ab, 0] : List Int) ++ ae : List Int).length) bS := hp 0 (by decide)
 obtain ⟨fB, fI, cQ, hz, fd⟩ := Kd.R_reads (show Kd.R (Kd.int .u8) 5 ea cd.heap.size (fun _ => True) (sl _ 40) af from hp 3 (by decide))
 have hL : Kd.R (Kd.int .u8) 5 ea cd.heap.size (fun _ => True) (.slice fB af.length fI) af := cQ ▸ (hp 3 (by decide))
 have hS := hS.cons dx
 have hS := hS.cons cQ
 clear hp dx cQ
 show wpList _ _ _ [_, _] _ _
 refine list_step rfl (does_more (W := w9) (.tmp 37) (.tmp 40) 36 5 1 rfl (by kernel_rfl) (by kernel_rfl) (by decide) _ ((([IntKind.u8.wrap aa, 18] ++ ac : List Int) ++ [IntKind.u8.wrap ab, 0] : List Int) ++ ae : List Int) af _ _ (hS.get 1 rfl) (hS.get 0 rfl) (Kd.R_below fk dG.2.2.2.1) (Kd.C_below fd (bR ea)) dG.2.2.1 c7) ?_
 rintro hT eM ⟨hb, hr, hk⟩
 clear hk
 have de := below_step al.1 hb
 have cx := below_step al.2 hb
 have cy := hb
 replace hS := (hS.nil).cons (hS.get 3 rfl)
 obtain ⟨bM, bU, rfl, hA, hl⟩ := Kd.R_reads hr
 have fl := hr
 clear hr
 refine hS.next (v := .slice bM ((((([IntKind.u8.wrap aa, 18] ++ ac : List Int) ++ [IntKind.u8.wrap ab, 0] : List Int) ++ ae : List Int) ++ af : List Int).length) bU) (d := 41) rfl (by decide) (by rfl) ?_
 clear hS
 intro gW hS
 refine list_step rfl (R := fun v w' => Below _ _ w' ∧ (IsV (.slice bM ((((([IntKind.u8.wrap aa, 18] ++ ac : List Int) ++ [IntKind.u8.wrap ab, 0] : List Int) ++ ae : List Int) ++ af : List Int).length) bU)) v w') (does_val (x_assign rfl (hS.get 0 rfl)) rfl) ?_
 rintro ft bY ⟨hb, he⟩
 have df := below_step de hb
 have cz := below_step cx hb
 have cA := below_step cy hb
 have b8 := below_step (bR eM) hb
 obtain rfl : ft = .slice bM ((((([IntKind.u8.wrap aa, 18] ++ ac : List Int) ++ [IntKind.u8.wrap ab, 0] : List Int) ++ ae : List Int) ++ af : List Int).length) bU := he
 refine hS.next (v := .slice bM ((((([IntKind.u8.wrap aa, 18] ++ ac : List Int) ++ [IntKind.u8.wrap ab, 0] : List Int) ++ ae : List Int) ++ af : List Int).length) bU) (d := 5) rfl (by decide) (by rfl) ?_
 clear hS
 intro gX hS
 refine wpList_nil ?_
 refine e2 _ _ ?_
 refine wp_seq_k (fun h8 e3 => ?_)
 refine reg_seq_tail 2 (I := I5_ w w3 w9 eM bY) (ps := [IsV (.slice bM ((((([IntKind.u8.wrap aa, 18] ++ ac : List Int) ++ [IntKind.u8.wrap ab, 0] : List Int) ++ ae : List Int) ++ af : List Int).length) bU), IsR (Kd.int .u8) 5 bY.heap.size [0, 0, 0, 0]]) (by kernel_rfl) ?_ ?_ rfl hS ⟨df, cz, cA, b8, (bR bY)⟩ ?_ ?_
 ·exact bs5
 ·exact .v (.cons (Stays.r _ _ _ _) (.nil))
 ·refine .ms 0 rfl rfl rfl ?_
  refine .on rfl (fun a w hS hI hp => does_lit bY.heap.size 36 5 4 _ [(0, .int .u8 0), (1, .int .u8 0), (2, .int .u8 0), (3, .int .u8 0)] [0, 0, 0, 0] rfl (by kernel_rfl) (by rw [Array.toList_map]; exact (show [(0, a.eval (.const (.int .u8 0))), (1, a.eval (.const (.int .u8 0))), (2, a.eval (.const (.int .u8 0))), (3, a.eval (.const (.int .u8 0)))] = _ from (li_cons (rfl) (li_cons (rfl) (li_cons (rfl) (li_cons (rfl) rfl)))))) (by kernel_rfl) rfl (hI.2.2.2.2).size (Nat.le_of_ble_eq_true rfl)) ?_
  exact .nil
 clear hS
 intro gY eb hS dH hp
 replace hS := ((hS.nil).cons (hS.get 2 rfl)).cons (hS.get 0 rfl)
 have dy : sl _ 42 = .slice bM ((((([IntKind.u8.wrap aa, 18] ++ ac : List Int) ++ [IntKind.u8.wrap ab, 0] : List Int) ++ ae : List Int) ++ af : List Int).length) bU := hp 0 (by decide)
 obtain ⟨fC, fJ, cR, hB, fe⟩ := Kd.R_reads (show Kd.R (Kd.int .u8) 5 eb bY.heap.size (fun _ => True) (sl _ 43) [0, 0, 0, 0] from hp 1 (by decide))
 have hM : Kd.R (Kd.int .u8) 5 eb bY.heap.size (fun _ => True) (.slice fC [0, 0, 0, 0].length fJ) [0, 0, 0, 0] := cR ▸ (hp 1 (by decide))
 have hS := hS.cons dy
 have hS := hS.cons cR
 clear hp dy cR
 show wpList _ _ _ [_, _] _ _
 refine list_step rfl (does_more (W := w9) (.tmp 42) (.tmp 43) 36 5 1 rfl (by kernel_rfl) (by kernel_rfl) (by decide) _ (((([IntKind.u8.wrap aa, 18] ++ ac : List Int) ++ [IntKind.u8.wrap ab, 0] : List Int) ++ ae : List Int) ++ af : List Int) [0, 0, 0, 0] _ _ (hS.get 1 rfl) (hS.get 0 rfl) (Kd.R_below fl dH.2.2.2.1) (Kd.C_below fe (bR eb)) dH.2.2.1 c8) ?_
 rintro hU eN ⟨hb, hr, hk⟩
 clear hk
 have dg := below_step al.1 hb
 have cB := below_step al.2 hb
 have cC := hb
 replace hS := (hS.nil).cons (hS.get 3 rfl)
 obtain ⟨bN, bV, rfl, hC, hm⟩ := Kd.R_reads hr
 have fm := hr
 clear hr
 refine hS.next (v := .slice bN (((((([IntKind.u8.wrap aa, 18] ++ ac : List Int) ++ [IntKind.u8.wrap ab, 0] : List Int) ++ ae : List Int) ++ af : List Int) ++ [0, 0, 0, 0] : List Int).length) bV) (d := 44) rfl (by decide) (by rfl) ?_
 clear hS
 intro gZ hS
 refine list_step rfl (R := fun v w' => Below _ _ w' ∧ (IsV (.slice bN (((((([IntKind.u8.wrap aa, 18] ++ ac : List Int) ++ [IntKind.u8.wrap ab, 0] : List Int) ++ ae : List Int) ++ af : List Int) ++ [0, 0, 0, 0] : List Int).length) bV)) v w') (does_val (x_assign rfl (hS.get 0 rfl)) rfl) ?_
 rintro fu ce ⟨hb, he⟩
 have dh := below_step dg hb
 have cD := below_step cB hb
 have cE := below_step cC hb
 have b9 := below_step (bR eN) hb
 obtain rfl : fu = .slice bN (((((([IntKind.u8.wrap aa, 18] ++ ac : List Int) ++ [IntKind.u8.wrap ab, 0] : List Int) ++ ae : List Int) ++ af : List Int) ++ [0, 0, 0, 0] : List Int).length) bV := he
 refine hS.next (v := .slice bN (((((([IntKind.u8.wrap aa, 18] ++ ac : List Int) ++ [IntKind.u8.wrap ab, 0] : List Int) ++ ae : List Int) ++ af : List Int) ++ [0, 0, 0, 0] : List Int).length) bV) (d := 5) rfl (by decide) (by rfl) ?_
 clear hS
 intro g0 hS
 refine wpList_nil ?_
 refine e3 _ _ ?_
 refine wp_seq_k (fun h9 e4 => ?_)
 refine reg_seq_tail 4 (I := I5_ w w3 w9 eN ce) (ps := [IsV (.slice bN (((((([IntKind.u8.wrap aa, 18] ++ ac : List Int) ++ [IntKind.u8.wrap ab, 0] : List Int) ++ ae : List Int) ++ af : List Int) ++ [0, 0, 0, 0] : List Int).length) bV), VP g4 4, IsV (.agg #[.int .u64 aB, .int .i64 aC]), IsR (Kd.int .u8) 5 ce.heap.size ak]) (by kernel_rfl) ?_ ?_ rfl hS ⟨dh, cD, cE, b9, (bR ce)⟩ ?_ ?_
 ·exact bs5
 ·exact .v (.v (.v (.cons (Stays.r _ _ _ _) (.nil))))
 ·refine .ms 0 rfl rfl rfl ?_
  refine .on rfl (fun a w hS hI hp => does_val (x_fieldE (b := 0) rfl (hS.get 2 rfl) Try.underlying28 rfl rfl (by kernel_rfl)) rfl) ?_
  refine .on rfl (fun a w hS hI hp => does_loadmid (cs := [.int .u64 aB, .int .i64 aC]) rfl (hp.V 1 rfl rfl) (((hI.2.1).block g4 (blk_lt ad)).trans ad) (by kernel_rfl) Try.underlying24 rfl (by kernel_rfl) rfl) ?_
  refine .on rfl (fun a w hS hI hp => does_call (by kernel_rfl) (ar1 (hp.V 2 rfl rfl)) ((carillonref04_Put.calls k aB aC ak _  eW).mono fun _ _ h => h.elim fun v0 h => ⟨v0, h.1, h.2.2, Kd.R_lower h.2.1 hI.2.2.2.2.size⟩)) ?_
  exact .nil
 clear hS
 intro g1 ec hS dI hp
 replace hS := ((hS.nil).cons (hS.get 2 rfl)).cons (hS.get 0 rfl)
 have dz : sl _ 45 = .slice bN (((((([IntKind.u8.wrap aa, 18] ++ ac : List Int) ++ [IntKind.u8.wrap ab, 0] : List Int) ++ ae : List Int) ++ af : List Int) ++ [0, 0, 0, 0] : List Int).length) bV := hp 0 (by decide)
 obtain ⟨fD, fK, cS, hD, ff⟩ := Kd.R_reads (show Kd.R (Kd.int .u8) 5 ec ce.heap.size (fun _ => True) (sl _ 48) ak from hp 3 (by decide))
 have hN : Kd.R (Kd.int .u8) 5 ec ce.heap.size (fun _ => True) (.slice fD ak.length fK) ak := cS ▸ (hp 3 (by decide))
 have hS := hS.cons dz
 have hS := hS.cons cS
 clear hp dz cS
 show wpList _ _ _ [_, _] _ _
 refine list_step rfl (does_more (W := w9) (.tmp 45) (.tmp 48) 36 5 1 rfl (by kernel_rfl) (by kernel_rfl) (by decide) _ ((((([IntKind.u8.wrap aa, 18] ++ ac : List Int) ++ [IntKind.u8.wrap ab, 0] : List Int) ++ ae : List Int) ++ af : List Int) ++ [0, 0, 0, 0] : List Int) ak _ _ (hS.get 1 rfl) (hS.get 0 rfl) (Kd.R_below fm dI.2.2.2.1) (Kd.C_below ff (bR ec)) dI.2.2.1 c9) ?_
 rintro hV eO ⟨hb, hr, hk⟩
 clear hk
 have di := below_step al.1 hb
 have cF := below_step al.2 hb
 have cG := hb
 replace hS := (hS.nil).cons (hS.get 3 rfl)
 obtain ⟨bO, bW, rfl, hE, hn⟩ := Kd.R_reads hr
 have fo := hr
 clear hr
 refine hS.next (v := .slice bO ((((((([IntKind.u8.wrap aa, 18] ++ ac : List Int) ++ [IntKind.u8.wrap ab, 0] : List Int) ++ ae : List Int) ++ af : List Int) ++ [0, 0, 0, 0] : List Int) ++ ak : List Int).length) bW) (d := 49) rfl (by decide) (by rfl) ?_
 clear hS
 intro g2 hS
 refine list_step rfl (R := fun v w' => Below _ _ w' ∧ (IsV (.slice bO ((((((([IntKind.u8.wrap aa, 18] ++ ac : List Int) ++ [IntKind.u8.wrap ab, 0] : List Int) ++ ae : List Int) ++ af : List Int) ++ [0, 0, 0, 0] : List Int) ++ ak : List Int).length) bW)) v w') (does_val (x_assign rfl (hS.get 0 rfl)) rfl) ?_
 rintro fv cf ⟨hb, he⟩
 have dj := below_step di hb
 have cH := below_step cF hb
 have cI := below_step cG hb
 have ca := below_step (bR eO) hb
 obtain rfl : fv = .slice bO ((((((([IntKind.u8.wrap aa, 18] ++ ac : List Int) ++ [IntKind.u8.wrap ab, 0] : List Int) ++ ae : List Int) ++ af : List Int) ++ [0, 0, 0, 0] : List Int) ++ ak : List Int).length) bW := he
 refine hS.next (v := .slice bO ((((((([IntKind.u8.wrap aa, 18] ++ ac : List Int) ++ [IntKind.u8.wrap ab, 0] : List Int) ++ ae : List Int) ++ af : List Int) ++ [0, 0, 0, 0] : List Int) ++ ak : List Int).length) bW) (d := 5) rfl (by decide) (by rfl) ?_
 clear hS
 intro g3 hS
 refine wpList_nil ?_
 refine e4 _ _ ?_
 refine wp_seq_k (fun ia e5 => ?_)
 refine reg_seq_tail 4 (I := I5_ w w3 w9 eO cf) (ps := [IsV (.slice bO ((((((([IntKind.u8.wrap aa, 18] ++ ac : List Int) ++ [IntKind.u8.wrap ab, 0] : List Int) ++ ae : List Int) ++ af : List Int) ++ [0, 0, 0, 0] : List Int) ++ ak : List Int).length) bW), VP g4 6, VI aF, IsR (Kd.int .u8) 5 cf.heap.size aI]) (by kernel_rfl) ?_ ?_ rfl hS ⟨dj, cH, cI, ca, (bR cf)⟩ ?_ ?_
 ·exact bs5
 ·exact .v (.v (.v (.cons (Stays.r _ _ _ _) (.nil))))
 ·refine .ms 0 rfl rfl rfl ?_
  refine .on rfl (fun a w hS hI hp => does_val (x_fieldE (b := 0) rfl (hS.get 2 rfl) Try.underlying28 rfl rfl (by kernel_rfl)) rfl) ?_
  refine .on rfl (fun a w hS hI hp => does_val (x_load1 (d := .int .i64) rfl (hp.V 1 rfl rfl) (by kernel_rfl) rfl ((blk_cell (((hI.2.1).block g4 (blk_lt ad)).trans ad) 6).trans rfl)) rfl) ?_
  refine .on rfl (fun a w hS hI hp => does_call (by kernel_rfl) (ar2 (hp.V 2 rfl rfl) (rfl)) ((carillonref01_Put.calls k aF 2 aI _  eX).mono fun _ _ h => h.elim fun v0 h => ⟨v0, h.1, h.2.2, Kd.R_lower h.2.1 hI.2.2.2.2.size⟩)) ?_
  exact .nil
 clear hS
 intro g5 ed hS dJ hp
 replace hS := ((hS.nil).cons (hS.get 2 rfl)).cons (hS.get 0 rfl)
 have dB : sl _ 50 = .slice bO ((((((([IntKind.u8.wrap aa, 18] ++ ac : List Int) ++ [IntKind.u8.wrap ab, 0] : List Int) ++ ae : List Int) ++ af : List Int) ++ [0, 0, 0, 0] : List Int) ++ ak : List Int).length) bW := hp 0 (by decide)
 obtain ⟨fE, fL, cT, hF, fg⟩ := Kd.R_reads (show Kd.R (Kd.int .u8) 5 ed cf.heap.size (fun _ => True) (sl _ 53) aI from hp 3 (by decide))
 have hO : Kd.R (Kd.int .u8) 5 ed cf.heap.size (fun _ => True) (.slice fE aI.length fL) aI := cT ▸ (hp 3 (by decide))
 have hS := hS.cons dB
 have hS := hS.cons cT
 clear hp dB cT
 show wpList _ _ _ [_, _] _ _
 refine list_step rfl (does_more (W := w9) (.tmp 50) (.tmp 53) 36 5 1 rfl (by kernel_rfl) (by kernel_rfl) (by decide) _ (((((([IntKind.u8.wrap aa, 18] ++ ac : List Int) ++ [IntKind.u8.wrap ab, 0] : List Int) ++ ae : List Int) ++ af : List Int) ++ [0, 0, 0, 0] : List Int) ++ ak : List Int) aI _ _ (hS.get 1 rfl) (hS.get 0 rfl) (Kd.R_below fo dJ.2.2.2.1) (Kd.C_below fg (bR ed)) dJ.2.2.1 ds) ?_
 rintro hW ai ⟨hb, hr, hk⟩
 clear hk
 have dk := below_step al.1 hb
 have cJ := below_step al.2 hb
 have cK := hb
 replace hS := (hS.nil).cons (hS.get 3 rfl)
 obtain ⟨bx, bz, rfl, hG, ho⟩ := Kd.R_reads hr
 have fp := hr
 clear hr
 refine hS.next (v := .slice bx (((((((([IntKind.u8.wrap aa, 18] ++ ac : List Int) ++ [IntKind.u8.wrap ab, 0] : List Int) ++ ae : List Int) ++ af : List Int) ++ [0, 0, 0, 0] : List Int) ++ ak : List Int) ++ aI : List Int).length) bz) (d := 54) rfl (by decide) (by rfl) ?_
 clear hS
 intro g6 hS
 refine list_step rfl (R := fun v w' => Below _ _ w' ∧ (IsV (.slice bx (((((((([IntKind.u8.wrap aa, 18] ++ ac : List Int) ++ [IntKind.u8.wrap ab, 0] : List Int) ++ ae : List Int) ++ af : List Int) ++ [0, 0, 0, 0] : List Int) ++ ak : List Int) ++ aI : List Int).length) bz)) v w') (does_val (x_assign rfl (hS.get 0 rfl)) rfl) ?_
 rintro fw eP ⟨hb, he⟩
 have dl := below_step dk hb
 have cL := below_step cJ hb
 have cM := below_step cK hb
 have cb := below_step (bR ai) hb
 obtain rfl : fw = .slice bx (((((((([IntKind.u8.wrap aa, 18] ++ ac : List Int) ++ [IntKind.u8.wrap ab, 0] : List Int) ++ ae : List Int) ++ af : List Int) ++ [0, 0, 0, 0] : List Int) ++ ak : List Int) ++ aI : List Int).length) bz := he
 refine hS.next (v := .slice bx (((((((([IntKind.u8.wrap aa, 18] ++ ac : List Int) ++ [IntKind.u8.wrap ab, 0] : List Int) ++ ae : List Int) ++ af : List Int) ++ [0, 0, 0, 0] : List Int) ++ ak : List Int) ++ aI : List Int).length) bz) (d := 5) rfl (by decide) (by rfl) ?_
 clear hS
 intro g7 hS
 refine wpList_nil ?_
 refine e5 _ _ ?_
 refine wp_seq_k (fun ib e6 => ?_)
 refine reg_seq (I := I5_ w w3 w9 ai eP) (ps := [IsV (.int .u8 5)]) (by kernel_rfl) ?_ ?_ rfl hS ⟨dl, cL, cM, cb, (bR eP)⟩ ?_ ?_
 ·exact bs5
 ·exact .v (.nil)
 ·refine .on rfl (fun a w hS hI hp => does_val (x_assign rfl (rfl)) rfl) ?_
  exact .nil
 clear hS
 intro g8 ah hS aj hp
 replace hS := ((hS.nil).cons (hS.get 2 rfl)).cons (hS.get 0 rfl)
 have aO : sl _ 6 = .int .u8 5 := hp 0 (by decide)
 have hS := hS.cons aO
 clear hp aO
 refine e6 _ _ ?_
 refine wp_seq_k (fun ic e7 => ?_)
 refine wp_mono (Q := fun e a' w' => e = Exit.normal ∧ St 74 [(2, .pointer (some ⟨g4, 0, none⟩)), (5, .slice bx (((((((([IntKind.u8.wrap aa, 18] ++ ac : List Int) ++ [IntKind.u8.wrap ab, 0] : List Int) ++ ae : List Int) ++ af : List Int) ++ [0, 0, 0, 0] : List Int) ++ ak : List Int) ++ aI : List Int).length) bz), (6, .int .u8 (if aa = 0 then 0 else (if aa = 1 then 1 else (if aa = 8 then 2 else (if aa = 9 then 3 else (if aa = 13 then 4 else 5))))))] a' ∧ Below w.heap.size w w' ∧ Below w3.heap.size w3 w' ∧ Below w9.heap.size w9 w' ∧ Below ai.heap.size ai w' ∧ Below ah.heap.size ah w') ?_ ?_
 ·by_cases aJ : aa = 0
  ·refine wp_seq_k (fun ie e8 => ?_)
   refine reg_seq (I := I5_ w w3 w9 ai ah) (ps := [VP g4 0, VI aa]) (by kernel_rfl) ?_ ?_ rfl hS ⟨aj.1, aj.2.1, aj.2.2.1, aj.2.2.2.1, (bR ah)⟩ ?_ ?_
   ·exact bs5
   ·exact .v (.v (.nil))
   ·refine .on rfl (fun a w hS hI hp => does_val (x_fieldE (b := 0) rfl (hS.get 2 rfl) Try.underlying28 rfl rfl (by kernel_rfl)) rfl) ?_
    refine .on rfl (fun a w hS hI hp => does_val (x_load1 (d := .int .i64) rfl (hp.V 0 rfl rfl) (by kernel_rfl) rfl ((blk_cell (((hI.2.1).block g4 (blk_lt ad)).trans ad) 0).trans rfl)) rfl) ?_
    exact .nil
   clear hS
   intro g9 eQ hS bG hp
   have aG : sl _ 56 = .int .i64 aa := hp 1 (by decide)
   have hS := hS.cons aG
   clear hp aG
   refine e8 _ _ ?_
   refine wp_block ?_
   refine wp_seq_k (fun ig e9 => ?_)
   refine reg_seq (I := I6_ w w3 w9 ai ah eQ) (ps := [VB (decide (aa = 0)), VB (decide (aa = 0))]) (by kernel_rfl) ?_ ?_ rfl hS ⟨bG.1, bG.2.1, bG.2.2.1, bG.2.2.2.1, bG.2.2.2.2, (bR eQ)⟩ ?_ ?_
   ·exact bs6
   ·exact .v (.v (.nil))
   ·refine .on rfl (fun a w hS hI hp => does_val (x_bin rfl (hS.get 0 rfl) (rfl) (b_eql _ _ _ _ _ _)) rfl) ?_
    refine .asg 0 rfl rfl rfl ?_
    exact .nil
   clear hS
   intro ha eR hS bH hp
   have aH : sl _ 57 = .bool (decide (aa = 0)) := hp 1 (by decide)
   have hS := hS.cons aH
   clear hp aH
   refine e9 _ _ ?_
   refine wp_cond_true ((hS.get 0 rfl).trans (bT (decide_eq_true aJ))) ?_
   replace hS := ((((hS.nil).cons (hS.get 4 rfl)).cons (hS.get 3 rfl)).cons (hS.get 1 rfl)).cons (hS.get 0 rfl)
   refine reg_seq (I := I6_ w w3 w9 ai ah eR) (ps := [IsV (.int .u8 0)]) (by kernel_rfl) ?_ ?_ rfl hS ⟨bH.1, bH.2.1, bH.2.2.1, bH.2.2.2.1, bH.2.2.2.2.1, (bR eR)⟩ ?_ ?_
   ·exact bs6
   ·exact .v (.nil)
   ·refine .on rfl (fun a w hS hI hp => does_val (x_assign rfl (rfl)) rfl) ?_
    exact .nil
   clear hS
   intro hd hX hS aY hp
   replace hS := ((hS.nil).cons (hS.get 3 rfl)).cons (hS.get 2 rfl)
   have aO : sl _ 6 = .int .u8 0 := hp 0 (by decide)
   have hS := hS.cons aO
   clear hp aO
   (try simp only [Exit.then, Exit.inBlock, reduceIte])
   exact ⟨by trivial, (((hS.nil).cons ((hS.get 0 rfl).trans (congrArg (Value.int .u8) (by simp only [if_pos aJ])))).cons (hS.get 1 rfl)).cons (hS.get 2 rfl), aY.1, aY.2.1, aY.2.2.1, aY.2.2.2.1, aY.2.2.2.2.1⟩
  ·by_cases aN : aa = 1
   ·refine wp_seq_k (fun gn ef => ?_)
    refine reg_seq (I := I5_ w w3 w9 ai ah) (ps := [VP g4 0, VI aa]) (by kernel_rfl) ?_ ?_ rfl hS ⟨aj.1, aj.2.1, aj.2.2.1, aj.2.2.2.1, (bR ah)⟩ ?_ ?_
    ·exact bs5
    ·exact .v (.v (.nil))
    ·refine .on rfl (fun a w hS hI hp => does_val (x_fieldE (b := 0) rfl (hS.get 2 rfl) Try.underlying28 rfl rfl (by kernel_rfl)) rfl) ?_
     refine .on rfl (fun a w hS hI hp => does_val (x_load1 (d := .int .i64) rfl (hp.V 0 rfl rfl) (by kernel_rfl) rfl ((blk_cell (((hI.2.1).block g4 (blk_lt ad)).trans ad) 0).trans rfl)) rfl) ?_
     exact .nil
    clear hS
    intro fM dK hS aZ hp
    have aG : sl _ 56 = .int .i64 aa := hp 1 (by decide)
    have hS := hS.cons aG
    clear hp aG
    refine ef _ _ ?_
    refine wp_block ?_
    refine wp_seq_k (fun go eg => ?_)
    refine reg_seq (I := I6_ w w3 w9 ai ah dK) (ps := [VB (decide (aa = 0)), VB (decide (aa = 0))]) (by kernel_rfl) ?_ ?_ rfl hS ⟨aZ.1, aZ.2.1, aZ.2.2.1, aZ.2.2.2.1, aZ.2.2.2.2, (bR dK)⟩ ?_ ?_
    ·exact bs6
    ·exact .v (.v (.nil))
    ·refine .on rfl (fun a w hS hI hp => does_val (x_bin rfl (hS.get 0 rfl) (rfl) (b_eql _ _ _ _ _ _)) rfl) ?_
     refine .asg 0 rfl rfl rfl ?_
     exact .nil
    clear hS
    intro fN dL hS a0 hp
    have aH : sl _ 57 = .bool (decide (aa = 0)) := hp 1 (by decide)
    have hS := hS.cons aH
    clear hp aH
    refine eg _ _ ?_
    refine wp_cond_false ((hS.get 0 rfl).trans (bF (decide_eq_false aJ))) ?_
    refine wp_seq_k (fun gp eh => ?_)
    refine reg_seq (I := I6_ w w3 w9 ai ah dL) (ps := [VB (decide (aa = 1)), VB (decide (aa = 1))]) (by kernel_rfl) ?_ ?_ rfl hS ⟨a0.1, a0.2.1, a0.2.2.1, a0.2.2.2.1, a0.2.2.2.2.1, (bR dL)⟩ ?_ ?_
    ·exact bs6
    ·exact .v (.v (.nil))
    ·refine .on rfl (fun a w hS hI hp => does_val (x_bin rfl (hS.get 1 rfl) (rfl) (b_eql _ _ _ _ _ _)) rfl) ?_
     refine .asg 0 rfl rfl rfl ?_
     exact .nil
    clear hS
    intro fO dM hS a2 hp
    replace hS := ((((hS.nil).cons (hS.get 4 rfl)).cons (hS.get 3 rfl)).cons (hS.get 2 rfl)).cons (hS.get 1 rfl)
    have aM : sl _ 59 = .bool (decide (aa = 1)) := hp 1 (by decide)
    have hS := hS.cons aM
    clear hp aM
    refine eh _ _ ?_
    refine wp_cond_true ((hS.get 0 rfl).trans (bT (decide_eq_true aN))) ?_
    replace hS := ((((hS.nil).cons (hS.get 4 rfl)).cons (hS.get 3 rfl)).cons (hS.get 1 rfl)).cons (hS.get 0 rfl)
    refine reg_seq (I := I6_ w w3 w9 ai ah dM) (ps := [IsV (.int .u8 1)]) (by kernel_rfl) ?_ ?_ rfl hS ⟨a2.1, a2.2.1, a2.2.2.1, a2.2.2.2.1, a2.2.2.2.2.1, (bR dM)⟩ ?_ ?_
    ·exact bs6
    ·exact .v (.nil)
    ·refine .on rfl (fun a w hS hI hp => does_val (x_assign rfl (rfl)) rfl) ?_
     exact .nil
    clear hS
    intro fP hY hS a3 hp
    replace hS := ((hS.nil).cons (hS.get 3 rfl)).cons (hS.get 2 rfl)
    have aO : sl _ 6 = .int .u8 1 := hp 0 (by decide)
    have hS := hS.cons aO
    clear hp aO
    (try simp only [Exit.then, Exit.inBlock, reduceIte])
    exact ⟨by trivial, (((hS.nil).cons ((hS.get 0 rfl).trans (congrArg (Value.int .u8) (by simp only [if_neg aJ, if_pos aN])))).cons (hS.get 1 rfl)).cons (hS.get 2 rfl), a3.1, a3.2.1, a3.2.2.1, a3.2.2.2.1, a3.2.2.2.2.1⟩
   ·by_cases aR : aa = 8
    ·refine wp_seq_k (fun gq ei => ?_)
     refine reg_seq (I := I5_ w w3 w9 ai ah) (ps := [VP g4 0, VI aa]) (by kernel_rfl) ?_ ?_ rfl hS ⟨aj.1, aj.2.1, aj.2.2.1, aj.2.2.2.1, (bR ah)⟩ ?_ ?_
     ·exact bs5
     ·exact .v (.v (.nil))
     ·refine .on rfl (fun a w hS hI hp => does_val (x_fieldE (b := 0) rfl (hS.get 2 rfl) Try.underlying28 rfl rfl (by kernel_rfl)) rfl) ?_
      refine .on rfl (fun a w hS hI hp => does_val (x_load1 (d := .int .i64) rfl (hp.V 0 rfl rfl) (by kernel_rfl) rfl ((blk_cell (((hI.2.1).block g4 (blk_lt ad)).trans ad) 0).trans rfl)) rfl) ?_
      exact .nil
     clear hS
     intro fQ dN hS a4 hp
     have aG : sl _ 56 = .int .i64 aa := hp 1 (by decide)
     have hS := hS.cons aG
     clear hp aG
     refine ei _ _ ?_
     refine wp_block ?_
     refine wp_seq_k (fun gr ej => ?_)
     refine reg_seq (I := I6_ w w3 w9 ai ah dN) (ps := [VB (decide (aa = 0)), VB (decide (aa = 0))]) (by kernel_rfl) ?_ ?_ rfl hS ⟨a4.1, a4.2.1, a4.2.2.1, a4.2.2.2.1, a4.2.2.2.2, (bR dN)⟩ ?_ ?_
     ·exact bs6
     ·exact .v (.v (.nil))
     ·refine .on rfl (fun a w hS hI hp => does_val (x_bin rfl (hS.get 0 rfl) (rfl) (b_eql _ _ _ _ _ _)) rfl) ?_
      refine .asg 0 rfl rfl rfl ?_
      exact .nil
     clear hS
     intro fR dO hS a5 hp
     have aH : sl _ 57 = .bool (decide (aa = 0)) := hp 1 (by decide)
     have hS := hS.cons aH
     clear hp aH
     refine ej _ _ ?_
     refine wp_cond_false ((hS.get 0 rfl).trans (bF (decide_eq_false aJ))) ?_
     refine wp_seq_k (fun gs ek => ?_)
     refine reg_seq (I := I6_ w w3 w9 ai ah dO) (ps := [VB (decide (aa = 1)), VB (decide (aa = 1))]) (by kernel_rfl) ?_ ?_ rfl hS ⟨a5.1, a5.2.1, a5.2.2.1, a5.2.2.2.1, a5.2.2.2.2.1, (bR dO)⟩ ?_ ?_
     ·exact bs6
     ·exact .v (.v (.nil))
     ·refine .on rfl (fun a w hS hI hp => does_val (x_bin rfl (hS.get 1 rfl) (rfl) (b_eql _ _ _ _ _ _)) rfl) ?_
      refine .asg 0 rfl rfl rfl ?_
      exact .nil
     clear hS
     intro fS dP hS a6 hp
     replace hS := ((((hS.nil).cons (hS.get 4 rfl)).cons (hS.get 3 rfl)).cons (hS.get 2 rfl)).cons (hS.get 1 rfl)
     have aM : sl _ 59 = .bool (decide (aa = 1)) := hp 1 (by decide)
     have hS := hS.cons aM
     clear hp aM
     refine ek _ _ ?_
     refine wp_cond_false ((hS.get 0 rfl).trans (bF (decide_eq_false aN))) ?_
     refine wp_seq_k (fun gt el => ?_)
     refine reg_seq (I := I6_ w w3 w9 ai ah dP) (ps := [VB (decide (aa = 8)), VB (decide (aa = 8))]) (by kernel_rfl) ?_ ?_ rfl hS ⟨a6.1, a6.2.1, a6.2.2.1, a6.2.2.2.1, a6.2.2.2.2.1, (bR dP)⟩ ?_ ?_
     ·exact bs6
     ·exact .v (.v (.nil))
     ·refine .on rfl (fun a w hS hI hp => does_val (x_bin rfl (hS.get 1 rfl) (rfl) (b_eql _ _ _ _ _ _)) rfl) ?_
      refine .asg 0 rfl rfl rfl ?_
      exact .nil
     clear hS
     intro fT dQ hS a7 hp
     replace hS := ((((hS.nil).cons (hS.get 4 rfl)).cons (hS.get 3 rfl)).cons (hS.get 2 rfl)).cons (hS.get 1 rfl)
     have aQ : sl _ 61 = .bool (decide (aa = 8)) := hp 1 (by decide)
     have hS := hS.cons aQ
     clear hp aQ
     refine el _ _ ?_
     refine wp_cond_true ((hS.get 0 rfl).trans (bT (decide_eq_true aR))) ?_
     replace hS := ((((hS.nil).cons (hS.get 4 rfl)).cons (hS.get 3 rfl)).cons (hS.get 1 rfl)).cons (hS.get 0 rfl)
     refine reg_seq (I := I6_ w w3 w9 ai ah dQ) (ps := [IsV (.int .u8 2)]) (by kernel_rfl) ?_ ?_ rfl hS ⟨a7.1, a7.2.1, a7.2.2.1, a7.2.2.2.1, a7.2.2.2.2.1, (bR dQ)⟩ ?_ ?_
     ·exact bs6
     ·exact .v (.nil)
     ·refine .on rfl (fun a w hS hI hp => does_val (x_assign rfl (rfl)) rfl) ?_
      exact .nil
     clear hS
     intro fU hZ hS a8 hp
     replace hS := ((hS.nil).cons (hS.get 3 rfl)).cons (hS.get 2 rfl)
     have aO : sl _ 6 = .int .u8 2 := hp 0 (by decide)
     have hS := hS.cons aO
     clear hp aO
     (try simp only [Exit.then, Exit.inBlock, reduceIte])
     exact ⟨by trivial, (((hS.nil).cons ((hS.get 0 rfl).trans (congrArg (Value.int .u8) (by simp only [if_neg aJ, if_neg aN, if_pos aR])))).cons (hS.get 1 rfl)).cons (hS.get 2 rfl), a8.1, a8.2.1, a8.2.2.1, a8.2.2.2.1, a8.2.2.2.2.1⟩
    ·by_cases aV : aa = 9
     ·refine wp_seq_k (fun gu em => ?_)
      refine reg_seq (I := I5_ w w3 w9 ai ah) (ps := [VP g4 0, VI aa]) (by kernel_rfl) ?_ ?_ rfl hS ⟨aj.1, aj.2.1, aj.2.2.1, aj.2.2.2.1, (bR ah)⟩ ?_ ?_
      ·exact bs5
      ·exact .v (.v (.nil))
      ·refine .on rfl (fun a w hS hI hp => does_val (x_fieldE (b := 0) rfl (hS.get 2 rfl) Try.underlying28 rfl rfl (by kernel_rfl)) rfl) ?_
       refine .on rfl (fun a w hS hI hp => does_val (x_load1 (d := .int .i64) rfl (hp.V 0 rfl rfl) (by kernel_rfl) rfl ((blk_cell (((hI.2.1).block g4 (blk_lt ad)).trans ad) 0).trans rfl)) rfl) ?_
       exact .nil
      clear hS
      intro fV dR hS a9 hp
      have aG : sl _ 56 = .int .i64 aa := hp 1 (by decide)
      have hS := hS.cons aG
      clear hp aG
      refine em _ _ ?_
      refine wp_block ?_
      refine wp_seq_k (fun gv en => ?_)
      refine reg_seq (I := I6_ w w3 w9 ai ah dR) (ps := [VB (decide (aa = 0)), VB (decide (aa = 0))]) (by kernel_rfl) ?_ ?_ rfl hS ⟨a9.1, a9.2.1, a9.2.2.1, a9.2.2.2.1, a9.2.2.2.2, (bR dR)⟩ ?_ ?_
      ·exact bs6
      ·exact .v (.v (.nil))
      ·refine .on rfl (fun a w hS hI hp => does_val (x_bin rfl (hS.get 0 rfl) (rfl) (b_eql _ _ _ _ _ _)) rfl) ?_
       refine .asg 0 rfl rfl rfl ?_
       exact .nil
      clear hS
      intro fW dS hS ba hp
      have aH : sl _ 57 = .bool (decide (aa = 0)) := hp 1 (by decide)
      have hS := hS.cons aH
      clear hp aH
      refine en _ _ ?_
      refine wp_cond_false ((hS.get 0 rfl).trans (bF (decide_eq_false aJ))) ?_
      refine wp_seq_k (fun gw eo => ?_)
      refine reg_seq (I := I6_ w w3 w9 ai ah dS) (ps := [VB (decide (aa = 1)), VB (decide (aa = 1))]) (by kernel_rfl) ?_ ?_ rfl hS ⟨ba.1, ba.2.1, ba.2.2.1, ba.2.2.2.1, ba.2.2.2.2.1, (bR dS)⟩ ?_ ?_
      ·exact bs6
      ·exact .v (.v (.nil))
      ·refine .on rfl (fun a w hS hI hp => does_val (x_bin rfl (hS.get 1 rfl) (rfl) (b_eql _ _ _ _ _ _)) rfl) ?_
       refine .asg 0 rfl rfl rfl ?_
       exact .nil
      clear hS
      intro fX dU hS bb hp
      replace hS := ((((hS.nil).cons (hS.get 4 rfl)).cons (hS.get 3 rfl)).cons (hS.get 2 rfl)).cons (hS.get 1 rfl)
      have aM : sl _ 59 = .bool (decide (aa = 1)) := hp 1 (by decide)
      have hS := hS.cons aM
      clear hp aM
      refine eo _ _ ?_
      refine wp_cond_false ((hS.get 0 rfl).trans (bF (decide_eq_false aN))) ?_
      refine wp_seq_k (fun gx ep => ?_)
      refine reg_seq (I := I6_ w w3 w9 ai ah dU) (ps := [VB (decide (aa = 8)), VB (decide (aa = 8))]) (by kernel_rfl) ?_ ?_ rfl hS ⟨bb.1, bb.2.1, bb.2.2.1, bb.2.2.2.1, bb.2.2.2.2.1, (bR dU)⟩ ?_ ?_
      ·exact bs6
      ·exact .v (.v (.nil))
      ·refine .on rfl (fun a w hS hI hp => does_val (x_bin rfl (hS.get 1 rfl) (rfl) (b_eql _ _ _ _ _ _)) rfl) ?_
       refine .asg 0 rfl rfl rfl ?_
       exact .nil
      clear hS
      intro fY dV hS bc hp
      replace hS := ((((hS.nil).cons (hS.get 4 rfl)).cons (hS.get 3 rfl)).cons (hS.get 2 rfl)).cons (hS.get 1 rfl)
      have aQ : sl _ 61 = .bool (decide (aa = 8)) := hp 1 (by decide)
      have hS := hS.cons aQ
      clear hp aQ
      refine ep _ _ ?_
      refine wp_cond_false ((hS.get 0 rfl).trans (bF (decide_eq_false aR))) ?_
      refine wp_seq_k (fun gy eq => ?_)
      refine reg_seq (I := I6_ w w3 w9 ai ah dV) (ps := [VB (decide (aa = 9)), VB (decide (aa = 9))]) (by kernel_rfl) ?_ ?_ rfl hS ⟨bc.1, bc.2.1, bc.2.2.1, bc.2.2.2.1, bc.2.2.2.2.1, (bR dV)⟩ ?_ ?_
      ·exact bs6
      ·exact .v (.v (.nil))
      ·refine .on rfl (fun a w hS hI hp => does_val (x_bin rfl (hS.get 1 rfl) (rfl) (b_eql _ _ _ _ _ _)) rfl) ?_
       refine .asg 0 rfl rfl rfl ?_
       exact .nil
      clear hS
      intro fZ dW hS bd hp
      replace hS := ((((hS.nil).cons (hS.get 4 rfl)).cons (hS.get 3 rfl)).cons (hS.get 2 rfl)).cons (hS.get 1 rfl)
      have aU : sl _ 63 = .bool (decide (aa = 9)) := hp 1 (by decide)
      have hS := hS.cons aU
      clear hp aU
      refine eq _ _ ?_
      refine wp_cond_true ((hS.get 0 rfl).trans (bT (decide_eq_true aV))) ?_
      replace hS := ((((hS.nil).cons (hS.get 4 rfl)).cons (hS.get 3 rfl)).cons (hS.get 1 rfl)).cons (hS.get 0 rfl)
      refine reg_seq (I := I6_ w w3 w9 ai ah dW) (ps := [IsV (.int .u8 3)]) (by kernel_rfl) ?_ ?_ rfl hS ⟨bd.1, bd.2.1, bd.2.2.1, bd.2.2.2.1, bd.2.2.2.2.1, (bR dW)⟩ ?_ ?_
      ·exact bs6
      ·exact .v (.nil)
      ·refine .on rfl (fun a w hS hI hp => does_val (x_assign rfl (rfl)) rfl) ?_
       exact .nil
      clear hS
      intro f0 h0 hS be hp
      replace hS := ((hS.nil).cons (hS.get 3 rfl)).cons (hS.get 2 rfl)
      have aO : sl _ 6 = .int .u8 3 := hp 0 (by decide)
      have hS := hS.cons aO
      clear hp aO
      (try simp only [Exit.then, Exit.inBlock, reduceIte])
      exact ⟨by trivial, (((hS.nil).cons ((hS.get 0 rfl).trans (congrArg (Value.int .u8) (by simp only [if_neg aJ, if_neg aN, if_neg aR, if_pos aV])))).cons (hS.get 1 rfl)).cons (hS.get 2 rfl), be.1, be.2.1, be.2.2.1, be.2.2.2.1, be.2.2.2.2.1⟩
     ·by_cases bw : aa = 13
      ·refine wp_seq_k (fun gz er => ?_)
       refine reg_seq (I := I5_ w w3 w9 ai ah) (ps := [VP g4 0, VI aa]) (by kernel_rfl) ?_ ?_ rfl hS ⟨aj.1, aj.2.1, aj.2.2.1, aj.2.2.2.1, (bR ah)⟩ ?_ ?_
       ·exact bs5
       ·exact .v (.v (.nil))
       ·refine .on rfl (fun a w hS hI hp => does_val (x_fieldE (b := 0) rfl (hS.get 2 rfl) Try.underlying28 rfl rfl (by kernel_rfl)) rfl) ?_
        refine .on rfl (fun a w hS hI hp => does_val (x_load1 (d := .int .i64) rfl (hp.V 0 rfl rfl) (by kernel_rfl) rfl ((blk_cell (((hI.2.1).block g4 (blk_lt ad)).trans ad) 0).trans rfl)) rfl) ?_
        exact .nil
       clear hS
       intro f1 dX hS bf hp
       have aG : sl _ 56 = .int .i64 aa := hp 1 (by decide)
       have hS := hS.cons aG
       clear hp aG
       refine er _ _ ?_
       refine wp_block ?_
       refine wp_seq_k (fun gA es => ?_)
       refine reg_seq (I := I6_ w w3 w9 ai ah dX) (ps := [VB (decide (aa = 0)), VB (decide (aa = 0))]) (by kernel_rfl) ?_ ?_ rfl hS ⟨bf.1, bf.2.1, bf.2.2.1, bf.2.2.2.1, bf.2.2.2.2, (bR dX)⟩ ?_ ?_
       ·exact bs6
       ·exact .v (.v (.nil))
       ·refine .on rfl (fun a w hS hI hp => does_val (x_bin rfl (hS.get 0 rfl) (rfl) (b_eql _ _ _ _ _ _)) rfl) ?_
        refine .asg 0 rfl rfl rfl ?_
        exact .nil
       clear hS
       intro f2 dY hS bg hp
       have aH : sl _ 57 = .bool (decide (aa = 0)) := hp 1 (by decide)
       have hS := hS.cons aH
       clear hp aH
       refine es _ _ ?_
       refine wp_cond_false ((hS.get 0 rfl).trans (bF (decide_eq_false aJ))) ?_
       refine wp_seq_k (fun gB et => ?_)
       refine reg_seq (I := I6_ w w3 w9 ai ah dY) (ps := [VB (decide (aa = 1)), VB (decide (aa = 1))]) (by kernel_rfl) ?_ ?_ rfl hS ⟨bg.1, bg.2.1, bg.2.2.1, bg.2.2.2.1, bg.2.2.2.2.1, (bR dY)⟩ ?_ ?_
       ·exact bs6
       ·exact .v (.v (.nil))
       ·refine .on rfl (fun a w hS hI hp => does_val (x_bin rfl (hS.get 1 rfl) (rfl) (b_eql _ _ _ _ _ _)) rfl) ?_
        refine .asg 0 rfl rfl rfl ?_
        exact .nil
       clear hS
       intro f3 dZ hS bh hp
       replace hS := ((((hS.nil).cons (hS.get 4 rfl)).cons (hS.get 3 rfl)).cons (hS.get 2 rfl)).cons (hS.get 1 rfl)
       have aM : sl _ 59 = .bool (decide (aa = 1)) := hp 1 (by decide)
       have hS := hS.cons aM
       clear hp aM
       refine et _ _ ?_
       refine wp_cond_false ((hS.get 0 rfl).trans (bF (decide_eq_false aN))) ?_
       refine wp_seq_k (fun gC eu => ?_)
       refine reg_seq (I := I6_ w w3 w9 ai ah dZ) (ps := [VB (decide (aa = 8)), VB (decide (aa = 8))]) (by kernel_rfl) ?_ ?_ rfl hS ⟨bh.1, bh.2.1, bh.2.2.1, bh.2.2.2.1, bh.2.2.2.2.1, (bR dZ)⟩ ?_ ?_
       ·exact bs6
       ·exact .v (.v (.nil))
       ·refine .on rfl (fun a w hS hI hp => does_val (x_bin rfl (hS.get 1 rfl) (rfl) (b_eql _ _ _ _ _ _)) rfl) ?_
        refine .asg 0 rfl rfl rfl ?_
        exact .nil
       clear hS
       intro f4 d0 hS bi hp
       replace hS := ((((hS.nil).cons (hS.get 4 rfl)).cons (hS.get 3 rfl)).cons (hS.get 2 rfl)).cons (hS.get 1 rfl)
       have aQ : sl _ 61 = .bool (decide (aa = 8)) := hp 1 (by decide)
       have hS := hS.cons aQ
       clear hp aQ
       refine eu _ _ ?_
       refine wp_cond_false ((hS.get 0 rfl).trans (bF (decide_eq_false aR))) ?_
       refine wp_seq_k (fun gD ev => ?_)
       refine reg_seq (I := I6_ w w3 w9 ai ah d0) (ps := [VB (decide (aa = 9)), VB (decide (aa = 9))]) (by kernel_rfl) ?_ ?_ rfl hS ⟨bi.1, bi.2.1, bi.2.2.1, bi.2.2.2.1, bi.2.2.2.2.1, (bR d0)⟩ ?_ ?_
       ·exact bs6
       ·exact .v (.v (.nil))
       ·refine .on rfl (fun a w hS hI hp => does_val (x_bin rfl (hS.get 1 rfl) (rfl) (b_eql _ _ _ _ _ _)) rfl) ?_
        refine .asg 0 rfl rfl rfl ?_
        exact .nil
       clear hS
       intro f5 d1 hS bj hp
       replace hS := ((((hS.nil).cons (hS.get 4 rfl)).cons (hS.get 3 rfl)).cons (hS.get 2 rfl)).cons (hS.get 1 rfl)
       have aU : sl _ 63 = .bool (decide (aa = 9)) := hp 1 (by decide)
       have hS := hS.cons aU
       clear hp aU
       refine ev _ _ ?_
       refine wp_cond_false ((hS.get 0 rfl).trans (bF (decide_eq_false aV))) ?_
       refine wp_seq_k (fun gE ew => ?_)
       refine reg_seq (I := I6_ w w3 w9 ai ah d1) (ps := [VB (decide (aa = 13)), VB (decide (aa = 13))]) (by kernel_rfl) ?_ ?_ rfl hS ⟨bj.1, bj.2.1, bj.2.2.1, bj.2.2.2.1, bj.2.2.2.2.1, (bR d1)⟩ ?_ ?_
       ·exact bs6
       ·exact .v (.v (.nil))
       ·refine .on rfl (fun a w hS hI hp => does_val (x_bin rfl (hS.get 1 rfl) (rfl) (b_eql _ _ _ _ _ _)) rfl) ?_
        refine .asg 0 rfl rfl rfl ?_
        exact .nil
       clear hS
       intro f6 d2 hS bk hp
       replace hS := (((hS.nil).cons (hS.get 4 rfl)).cons (hS.get 3 rfl)).cons (hS.get 2 rfl)
       have bD : sl _ 65 = .bool (decide (aa = 13)) := hp 1 (by decide)
       have hS := hS.cons bD
       clear hp bD
       refine ew _ _ ?_
       refine wp_cond_true ((hS.get 0 rfl).trans (bT (decide_eq_true bw))) ?_
       replace hS := (((hS.nil).cons (hS.get 3 rfl)).cons (hS.get 2 rfl)).cons (hS.get 0 rfl)
       refine reg_seq (I := I6_ w w3 w9 ai ah d2) (ps := [IsV (.int .u8 4)]) (by kernel_rfl) ?_ ?_ rfl hS ⟨bk.1, bk.2.1, bk.2.2.1, bk.2.2.2.1, bk.2.2.2.2.1, (bR d2)⟩ ?_ ?_
       ·exact bs6
       ·exact .v (.nil)
       ·refine .on rfl (fun a w hS hI hp => does_val (x_assign rfl (rfl)) rfl) ?_
        exact .nil
       clear hS
       intro f7 h1 hS bl hp
       replace hS := ((hS.nil).cons (hS.get 2 rfl)).cons (hS.get 1 rfl)
       have aO : sl _ 6 = .int .u8 4 := hp 0 (by decide)
       have hS := hS.cons aO
       clear hp aO
       (try simp only [Exit.then, Exit.inBlock, reduceIte])
       exact ⟨by trivial, (((hS.nil).cons ((hS.get 0 rfl).trans (congrArg (Value.int .u8) (by simp only [if_neg aJ, if_neg aN, if_neg aR, if_neg aV, if_pos bw])))).cons (hS.get 1 rfl)).cons (hS.get 2 rfl), bl.1, bl.2.1, bl.2.2.1, bl.2.2.2.1, bl.2.2.2.2.1⟩
      ·refine wp_seq_k (fun gF ex => ?_)
       refine reg_seq (I := I5_ w w3 w9 ai ah) (ps := [VP g4 0, VI aa]) (by kernel_rfl) ?_ ?_ rfl hS ⟨aj.1, aj.2.1, aj.2.2.1, aj.2.2.2.1, (bR ah)⟩ ?_ ?_
       ·exact bs5
       ·exact .v (.v (.nil))
       ·refine .on rfl (fun a w hS hI hp => does_val (x_fieldE (b := 0) rfl (hS.get 2 rfl) Try.underlying28 rfl rfl (by kernel_rfl)) rfl) ?_
        refine .on rfl (fun a w hS hI hp => does_val (x_load1 (d := .int .i64) rfl (hp.V 0 rfl rfl) (by kernel_rfl) rfl ((blk_cell (((hI.2.1).block g4 (blk_lt ad)).trans ad) 0).trans rfl)) rfl) ?_
        exact .nil
       clear hS
       intro f8 d3 hS bm hp
       have aG : sl _ 56 = .int .i64 aa := hp 1 (by decide)
       have hS := hS.cons aG
       clear hp aG
       refine ex _ _ ?_
       refine wp_block ?_
       refine wp_seq_k (fun gG ey => ?_)
       refine reg_seq (I := I6_ w w3 w9 ai ah d3) (ps := [VB (decide (aa = 0)), VB (decide (aa = 0))]) (by kernel_rfl) ?_ ?_ rfl hS ⟨bm.1, bm.2.1, bm.2.2.1, bm.2.2.2.1, bm.2.2.2.2, (bR d3)⟩ ?_ ?_
       ·exact bs6
       ·exact .v (.v (.nil))
       ·refine .on rfl (fun a w hS hI hp => does_val (x_bin rfl (hS.get 0 rfl) (rfl) (b_eql _ _ _ _ _ _)) rfl) ?_
        refine .asg 0 rfl rfl rfl ?_
        exact .nil
       clear hS
       intro f9 d4 hS bn hp
       have aH : sl _ 57 = .bool (decide (aa = 0)) := hp 1 (by decide)
       have hS := hS.cons aH
       clear hp aH
       refine ey _ _ ?_
       refine wp_cond_false ((hS.get 0 rfl).trans (bF (decide_eq_false aJ))) ?_
       refine wp_seq_k (fun gH ez => ?_)
       refine reg_seq (I := I6_ w w3 w9 ai ah d4) (ps := [VB (decide (aa = 1)), VB (decide (aa = 1))]) (by kernel_rfl) ?_ ?_ rfl hS ⟨bn.1, bn.2.1, bn.2.2.1, bn.2.2.2.1, bn.2.2.2.2.1, (bR d4)⟩ ?_ ?_
       ·exact bs6
       ·exact .v (.v (.nil))
       ·refine .on rfl (fun a w hS hI hp => does_val (x_bin rfl (hS.get 1 rfl) (rfl) (b_eql _ _ _ _ _ _)) rfl) ?_
        refine .asg 0 rfl rfl rfl ?_
        exact .nil
       clear hS
       intro ga d5 hS bo hp
       replace hS := ((((hS.nil).cons (hS.get 4 rfl)).cons (hS.get 3 rfl)).cons (hS.get 2 rfl)).cons (hS.get 1 rfl)
       have aM : sl _ 59 = .bool (decide (aa = 1)) := hp 1 (by decide)
       have hS := hS.cons aM
       clear hp aM
       refine ez _ _ ?_
       refine wp_cond_false ((hS.get 0 rfl).trans (bF (decide_eq_false aN))) ?_
       refine wp_seq_k (fun gI eA => ?_)
       refine reg_seq (I := I6_ w w3 w9 ai ah d5) (ps := [VB (decide (aa = 8)), VB (decide (aa = 8))]) (by kernel_rfl) ?_ ?_ rfl hS ⟨bo.1, bo.2.1, bo.2.2.1, bo.2.2.2.1, bo.2.2.2.2.1, (bR d5)⟩ ?_ ?_
       ·exact bs6
       ·exact .v (.v (.nil))
       ·refine .on rfl (fun a w hS hI hp => does_val (x_bin rfl (hS.get 1 rfl) (rfl) (b_eql _ _ _ _ _ _)) rfl) ?_
        refine .asg 0 rfl rfl rfl ?_
        exact .nil
       clear hS
       intro gb d6 hS bp hp
       replace hS := ((((hS.nil).cons (hS.get 4 rfl)).cons (hS.get 3 rfl)).cons (hS.get 2 rfl)).cons (hS.get 1 rfl)
       have aQ : sl _ 61 = .bool (decide (aa = 8)) := hp 1 (by decide)
       have hS := hS.cons aQ
       clear hp aQ
       refine eA _ _ ?_
       refine wp_cond_false ((hS.get 0 rfl).trans (bF (decide_eq_false aR))) ?_
       refine wp_seq_k (fun gJ eB => ?_)
       refine reg_seq (I := I6_ w w3 w9 ai ah d6) (ps := [VB (decide (aa = 9)), VB (decide (aa = 9))]) (by kernel_rfl) ?_ ?_ rfl hS ⟨bp.1, bp.2.1, bp.2.2.1, bp.2.2.2.1, bp.2.2.2.2.1, (bR d6)⟩ ?_ ?_
       ·exact bs6
       ·exact .v (.v (.nil))
       ·refine .on rfl (fun a w hS hI hp => does_val (x_bin rfl (hS.get 1 rfl) (rfl) (b_eql _ _ _ _ _ _)) rfl) ?_
        refine .asg 0 rfl rfl rfl ?_
        exact .nil
       clear hS
       intro gc d7 hS bq hp
       replace hS := ((((hS.nil).cons (hS.get 4 rfl)).cons (hS.get 3 rfl)).cons (hS.get 2 rfl)).cons (hS.get 1 rfl)
       have aU : sl _ 63 = .bool (decide (aa = 9)) := hp 1 (by decide)
       have hS := hS.cons aU
       clear hp aU
       refine eB _ _ ?_
       refine wp_cond_false ((hS.get 0 rfl).trans (bF (decide_eq_false aV))) ?_
       refine wp_seq_k (fun gK eC => ?_)
       refine reg_seq (I := I6_ w w3 w9 ai ah d7) (ps := [VB (decide (aa = 13)), VB (decide (aa = 13))]) (by kernel_rfl) ?_ ?_ rfl hS ⟨bq.1, bq.2.1, bq.2.2.1, bq.2.2.2.1, bq.2.2.2.2.1, (bR d7)⟩ ?_ ?_
       ·exact bs6
       ·exact .v (.v (.nil))
       ·refine .on rfl (fun a w hS hI hp => does_val (x_bin rfl (hS.get 1 rfl) (rfl) (b_eql _ _ _ _ _ _)) rfl) ?_
        refine .asg 0 rfl rfl rfl ?_
        exact .nil
       clear hS
       intro gd h2 hS br hp
       replace hS := (((hS.nil).cons (hS.get 4 rfl)).cons (hS.get 3 rfl)).cons (hS.get 2 rfl)
       have bD : sl _ 65 = .bool (decide (aa = 13)) := hp 1 (by decide)
       have hS := hS.cons bD
       clear hp bD
       refine eC _ _ ?_
       refine wp_cond_false ((hS.get 0 rfl).trans (bF (decide_eq_false bw))) ?_
       refine wp_skip ?_
       (try simp only [Exit.then, Exit.inBlock, reduceIte])
       exact ⟨by trivial, (((hS.nil).cons ((hS.get 1 rfl).trans (congrArg (Value.int .u8) (by simp only [if_neg aJ, if_neg aN, if_neg aR, if_neg aV, if_neg bw])))).cons (hS.get 2 rfl)).cons (hS.get 3 rfl), br.1, br.2.1, br.2.2.1, br.2.2.2.1, br.2.2.2.2.1⟩
 rintro hf ge bu ⟨rfl, hS, cl, b2, b3, bZ, ee⟩
 (try simp only [Exit.then, Exit.inBlock, reduceIte])
 refine e7 _ _ ?_
 refine wp_seq_k (fun gL eD => ?_)
 refine reg_seq_tail 6 (I := I5_ w w3 w9 ai bu) (ps := [IsV (.slice bx (((((((([IntKind.u8.wrap aa, 18] ++ ac : List Int) ++ [IntKind.u8.wrap ab, 0] : List Int) ++ ae : List Int) ++ af : List Int) ++ [0, 0, 0, 0] : List Int) ++ ak : List Int) ++ aI : List Int).length) bz), IsV (.int .u8 (if aa = 0 then 0 else (if aa = 1 then 1 else (if aa = 8 then 2 else (if aa = 9 then 3 else (if aa = 13 then 4 else 5)))))), VP g4 7, VI ag, IsV (.int .u8 (IntKind.u8.wrap ag)), IsR (Kd.int .u8) 5 bu.heap.size [(if aa = 0 then 0 else (if aa = 1 then 1 else (if aa = 8 then 2 else (if aa = 9 then 3 else (if aa = 13 then 4 else 5))))), IntKind.u8.wrap ag]]) (by kernel_rfl) ?_ ?_ rfl hS ⟨cl, b2, b3, bZ, (bR bu)⟩ ?_ ?_
 ·exact bs5
 ·exact .v (.v (.v (.v (.v (.cons (Stays.r _ _ _ _) (.nil))))))
 ·refine .ms 1 rfl rfl rfl ?_
  refine .ms 2 rfl rfl rfl ?_
  refine .on rfl (fun a w hS hI hp => does_val (x_fieldE (b := 0) rfl (hS.get 0 rfl) Try.underlying28 rfl rfl (by kernel_rfl)) rfl) ?_
  refine .on rfl (fun a w hS hI hp => does_val (x_load1 (d := .int .i64) rfl (hp.V 2 rfl rfl) (by kernel_rfl) rfl ((blk_cell (((hI.2.1).block g4 (blk_lt ad)).trans ad) 7).trans rfl)) rfl) ?_
  refine .on rfl (fun a w hS hI hp => does_val (x_convI rfl (by kernel_rfl) (by kernel_rfl) (hp.V 3 rfl rfl)) rfl) ?_
  refine .on rfl (fun a w hS hI hp => does_lit bu.heap.size 36 5 2 _ [(0, .int .u8 (if aa = 0 then 0 else (if aa = 1 then 1 else (if aa = 8 then 2 else (if aa = 9 then 3 else (if aa = 13 then 4 else 5)))))), (1, .int .u8 (IntKind.u8.wrap ag))] [(if aa = 0 then 0 else (if aa = 1 then 1 else (if aa = 8 then 2 else (if aa = 9 then 3 else (if aa = 13 then 4 else 5))))), IntKind.u8.wrap ag] rfl (by kernel_rfl) (by rw [Array.toList_map]; exact (show [(0, a.eval (.tmp 68)), (1, a.eval (.tmp 71))] = _ from (li_cons (hp.V 1 rfl rfl) (li_cons (hp.V 4 rfl rfl) rfl)))) (by kernel_rfl) rfl (hI.2.2.2.2).size (Nat.le_of_ble_eq_true rfl)) ?_
  exact .nil
 clear hS
 intro gf cV hS cY hp
 replace hS := hS.nil
 have dC : sl _ 67 = .slice bx (((((((([IntKind.u8.wrap aa, 18] ++ ac : List Int) ++ [IntKind.u8.wrap ab, 0] : List Int) ++ ae : List Int) ++ af : List Int) ++ [0, 0, 0, 0] : List Int) ++ ak : List Int) ++ aI : List Int).length) bz := hp 0 (by decide)
 obtain ⟨eS, eY, cU, gj, eE⟩ := Kd.R_reads (show Kd.R (Kd.int .u8) 5 cV bu.heap.size (fun _ => True) (sl _ 72) [(if aa = 0 then 0 else (if aa = 1 then 1 else (if aa = 8 then 2 else (if aa = 9 then 3 else (if aa = 13 then 4 else 5))))), IntKind.u8.wrap ag] from hp 5 (by decide))
 have gl : Kd.R (Kd.int .u8) 5 cV bu.heap.size (fun _ => True) (.slice eS [(if aa = 0 then 0 else (if aa = 1 then 1 else (if aa = 8 then 2 else (if aa = 9 then 3 else (if aa = 13 then 4 else 5))))), IntKind.u8.wrap ag].length eY) [(if aa = 0 then 0 else (if aa = 1 then 1 else (if aa = 8 then 2 else (if aa = 9 then 3 else (if aa = 13 then 4 else 5))))), IntKind.u8.wrap ag] := cU ▸ (hp 5 (by decide))
 have hS := hS.cons dC
 have hS := hS.cons cU
 clear hp dC cU
 show wpList _ _ _ [_, _] _ _
 refine list_step rfl (does_more (W := w9) (.tmp 67) (.tmp 72) 36 5 1 rfl (by kernel_rfl) (by kernel_rfl) (by decide) _ ((((((([IntKind.u8.wrap aa, 18] ++ ac : List Int) ++ [IntKind.u8.wrap ab, 0] : List Int) ++ ae : List Int) ++ af : List Int) ++ [0, 0, 0, 0] : List Int) ++ ak : List Int) ++ aI : List Int) [(if aa = 0 then 0 else (if aa = 1 then 1 else (if aa = 8 then 2 else (if aa = 9 then 3 else (if aa = 13 then 4 else 5))))), IntKind.u8.wrap ag] _ _ (hS.get 1 rfl) (hS.get 0 rfl) (Kd.R_below fp cY.2.2.2.1) (Kd.C_below eE (bR cV)) cY.2.2.1 dt) ?_
 rintro gm fx ⟨hb, hr, hk⟩
 clear hk
 have cm := below_step al.1 hb
 have b4 := below_step al.2 hb
 have b5 := hb
 replace hS := hS.nil
 obtain ⟨bs, bt, rfl, gk, gi⟩ := Kd.R_reads hr
 have eF := hr
 clear hr
 refine hS.next (v := .slice bs ((((((((([IntKind.u8.wrap aa, 18] ++ ac : List Int) ++ [IntKind.u8.wrap ab, 0] : List Int) ++ ae : List Int) ++ af : List Int) ++ [0, 0, 0, 0] : List Int) ++ ak : List Int) ++ aI : List Int) ++ [(if aa = 0 then 0 else (if aa = 1 then 1 else (if aa = 8 then 2 else (if aa = 9 then 3 else (if aa = 13 then 4 else 5))))), IntKind.u8.wrap ag] : List Int).length) bt) (d := 73) rfl (by decide) (by rfl) ?_
 clear hS
 intro gg hS
 refine list_step rfl (R := fun v w' => Below _ _ w' ∧ (IsV (.slice bs ((((((((([IntKind.u8.wrap aa, 18] ++ ac : List Int) ++ [IntKind.u8.wrap ab, 0] : List Int) ++ ae : List Int) ++ af : List Int) ++ [0, 0, 0, 0] : List Int) ++ ak : List Int) ++ aI : List Int) ++ [(if aa = 0 then 0 else (if aa = 1 then 1 else (if aa = 8 then 2 else (if aa = 9 then 3 else (if aa = 13 then 4 else 5))))), IntKind.u8.wrap ag] : List Int).length) bt)) v w') (does_val (x_assign rfl (hS.get 0 rfl)) rfl) ?_
 rintro eG h3 ⟨hb, he⟩
 have cn := below_step cm hb
 have eH := below_step b4 hb
 have eI := below_step b5 hb
 have bI := below_step (bR fx) hb
 obtain rfl : eG = .slice bs ((((((((([IntKind.u8.wrap aa, 18] ++ ac : List Int) ++ [IntKind.u8.wrap ab, 0] : List Int) ++ ae : List Int) ++ af : List Int) ++ [0, 0, 0, 0] : List Int) ++ ak : List Int) ++ aI : List Int) ++ [(if aa = 0 then 0 else (if aa = 1 then 1 else (if aa = 8 then 2 else (if aa = 9 then 3 else (if aa = 13 then 4 else 5))))), IntKind.u8.wrap ag] : List Int).length) bt := he
 refine hS.next (v := .slice bs ((((((((([IntKind.u8.wrap aa, 18] ++ ac : List Int) ++ [IntKind.u8.wrap ab, 0] : List Int) ++ ae : List Int) ++ af : List Int) ++ [0, 0, 0, 0] : List Int) ++ ak : List Int) ++ aI : List Int) ++ [(if aa = 0 then 0 else (if aa = 1 then 1 else (if aa = 8 then 2 else (if aa = 9 then 3 else (if aa = 13 then 4 else 5))))), IntKind.u8.wrap ag] : List Int).length) bt) (d := 4) rfl (by decide) (by rfl) ?_
 clear hS
 intro gh hS
 refine wpList_nil ?_
 refine eD _ _ ?_
 refine wp_ret ?_
 (try simp only [Exit.then, Exit.inBlock, Exit.jump, Exit.noGoto])
 exact bodyPost_ret (v := .slice bs ((((((((([IntKind.u8.wrap aa, 18] ++ ac : List Int) ++ [IntKind.u8.wrap ab, 0] : List Int) ++ ae : List Int) ++ af : List Int) ++ [0, 0, 0, 0] : List Int) ++ ak : List Int) ++ aI : List Int) ++ [(if aa = 0 then 0 else (if aa = 1 then 1 else (if aa = 8 then 2 else (if aa = 9 then 3 else (if aa = 13 then 4 else 5))))), IntKind.u8.wrap ag] : List Int).length) bt) (results_single rfl (Vals.at (hS.get 0 rfl) .nil)) hS.nodef ⟨.slice bs ((((((((([IntKind.u8.wrap aa, 18] ++ ac : List Int) ++ [IntKind.u8.wrap ab, 0] : List Int) ++ ae : List Int) ++ af : List Int) ++ [0, 0, 0, 0] : List Int) ++ ak : List Int) ++ aI : List Int) ++ [(if aa = 0 then 0 else (if aa = 1 then 1 else (if aa = 8 then 2 else (if aa = 9 then 3 else (if aa = 13 then 4 else 5))))), IntKind.u8.wrap ag] : List Int).length) bt, rfl, Kd.R_lower (Kd.R_below eF bI) (al.1).size, cn⟩
def carillonref02_Put.f (k : Nat) (a0 : Int) : Option (List Int) := (carillonref02_May.f a0).bind fun t177 => (if t177 = true then ((carillonref01_Put.f k (wrap64 (Int.tdiv a0 1000000000)) 6).bind fun t178 => ((carillonref01_Put.f k (Int.tmod a0 1000000000) 4).bind fun t181 => (if t178.length + t181.length < 140737488355328 then (some (t178 ++ t181)) else (none)))) else ((carillonref01_Put.f k ((0 : Int) / 1000000000) 6).bind fun t187 => ((carillonref01_Put.f k ((0 : Int) % 1000000000) 4).bind fun t190 => (if t187.length + t190.length < 140737488355328 then (some (t187 ++ t190)) else (none)))))
set_option maxHeartbeats 8000000 in
set_option maxRecDepth 100000 in
theorem carillonref02_Put.calls (k : Nat) (a0 : Int) (r : List Int) (w : World) (h : carillonref02_Put.f k a0 = some r) :
    Calls Try.prog 56 #[.int .i64 a0] w fun e w' => ∃ v0_ : Value, e = .returned (v0_) ∧ Kd.R (Kd.int .u8) 5 w' w.heap.size (fun _ => True) v0_ r ∧ Below w.heap.size w w' := by
  have HB := Aside0.mk (Below.refl w.heap.size w)
  have H : ((carillonref02_May.f a0).bind fun t177 => (if t177 = true then ((carillonref01_Put.f k (wrap64 (Int.tdiv a0 1000000000)) 6).bind fun t178 => ((carillonref01_Put.f k (Int.tmod a0 1000000000) 4).bind fun t181 => (if t178.length + t181.length < 140737488355328 then (some (t178 ++ t181)) else (none)))) else ((carillonref01_Put.f k ((0 : Int) / 1000000000) 6).bind fun t187 => ((carillonref01_Put.f k ((0 : Int) % 1000000000) 4).bind fun t190 => (if t187.length + t190.length < 140737488355328 then (some (t187 ++ t190)) else (none)))))) = some r := h
  clear h
  replace H := Option.bind_eq_some_iff.mp H
  obtain ⟨t177, A20, H⟩ := H
  replace H : (if t177 = true then ((carillonref01_Put.f k (wrap64 (Int.tdiv a0 1000000000)) 6).bind fun t178 => ((carillonref01_Put.f k (Int.tmod a0 1000000000) 4).bind fun t181 => (if t178.length + t181.length < 140737488355328 then (some (t178 ++ t181)) else (none)))) else ((carillonref01_Put.f k ((0 : Int) / 1000000000) 6).bind fun t187 => ((carillonref01_Put.f k ((0 : Int) % 1000000000) 4).bind fun t190 => (if t187.length + t190.length < 140737488355328 then (some (t187 ++ t190)) else (none))))) = some r := H
  have A2 := Aside0.mk A20
  clear A20
  by_cases c3 : t177 = true
  · subst c3
    have H1 : ((carillonref01_Put.f k (wrap64 (Int.tdiv a0 1000000000)) 6).bind fun t178 => ((carillonref01_Put.f k (Int.tmod a0 1000000000) 4).bind fun t181 => (if t178.length + t181.length < 140737488355328 then (some (t178 ++ t181)) else (none)))) = some r := by rw [if_pos rfl] at H; exact H
    clear H
    have H := H1
    clear H1
    replace H := Option.bind_eq_some_iff.mp H
    obtain ⟨t178, A40, H⟩ := H
    replace H : ((carillonref01_Put.f k (Int.tmod a0 1000000000) 4).bind fun t181 => (if t178.length + t181.length < 140737488355328 then (some (t178 ++ t181)) else (none))) = some r := H
    have A4 := Aside0.mk A40
    clear A40
    replace H := Option.bind_eq_some_iff.mp H
    obtain ⟨t181, A50, H⟩ := H
    replace H : (if t178.length + t181.length < 140737488355328 then (some (t178 ++ t181)) else (none)) = some r := H
    have A5 := Aside0.mk A50
    clear A50
    by_cases c6 : t178.length + t181.length < 140737488355328
    · rw [if_pos c6] at H
      have LMc6 := Aside0.mk c6
      clear c6
      obtain ⟨y184, hy184⟩ : ∃ y_ : List Int, y_ = (t178 ++ t181) := ⟨_, rfl⟩
      replace H : (some y184) = some r := by first | (rw [hy184]; with_reducible exact H) | (have H2_ := (Option.bind_some _ _).symm.trans H; rw [hy184]; with_reducible exact H2_) | (have H2_ := (Option.bind_some _ _).symm.trans H; with_reducible exact H2_) | with_reducible exact H | (rw [hy184]; exact H) | exact H
      have Ny184 := Aside0.mk hy184
      clear hy184
      obtain rfl := Option.some.inj H
      go_enter Try.func56, Try.ntmps56
      go_wp2_with (first | ((with_reducible refine gate_callee (f := 50) rfl ?_); refine goesL_ (some 4) rfl rfl Try.func50 (by kernel_rfl) rfl #[.int .i64 a0] rfl (by (try simp only [List.map_toArray, List.map_cons, List.map_nil]); first | done | rfl | (simp only [List.length_drop, List.length_take]; rfl)) ?_; (with_reducible refine (carillonref02_May.calls a0 true _ A2.out).mono ?_); rintro e w' ⟨rfl, ⟨nd, rfl⟩⟩; refine ⟨_, rfl, ?_⟩) | ((with_reducible refine gate_callee (f := 47) rfl ?_); refine goesL_ (some 8) rfl rfl Try.func47 (by kernel_rfl) rfl #[.int .i64 (wrap64 (Int.tdiv a0 1000000000)), .int .i64 6] rfl (by (try simp only [List.map_toArray, List.map_cons, List.map_nil]); first | done | rfl | (simp only [List.length_drop, List.length_take]; rfl)) ?_; (with_reducible refine (carillonref01_Put.calls k (wrap64 (Int.tdiv a0 1000000000)) 6 t178 _ A4.out).mono ?_); rintro e w7 ⟨v179, rfl, ho0, hb⟩; refine ⟨_, rfl, ?_⟩; have n0_ := Aside0.mk (Kd.R_lower ho0 (below_size (by repeat (first | (with_reducible first | exact HB.out | apply below_alloc | apply pw_below_drewN | apply below_drew1) | exact HB.out)))); have n1_ := Aside0.mk (below_step (by repeat (first | (with_reducible first | exact HB.out | apply below_alloc | apply pw_below_drewN | apply below_drew1) | exact HB.out)) hb); clear HB; have HO180 := n0_; have HB := n1_; clear n0_ n1_; (try clear hb); (try clear hb2); (try clear hk); (try clear hi); (try clear ho0)) | ((with_reducible refine gate_callee (f := 47) rfl ?_); refine goesL_ (some 11) rfl rfl Try.func47 (by kernel_rfl) rfl #[.int .i64 (Int.tmod a0 1000000000), .int .i64 4] rfl (by (try simp only [List.map_toArray, List.map_cons, List.map_nil]); first | done | rfl | (simp only [List.length_drop, List.length_take]; rfl)) ?_; (with_reducible refine (carillonref01_Put.calls k (Int.tmod a0 1000000000) 4 t181 _ A5.out).mono ?_); rintro e w8 ⟨v182, rfl, ho0, hb⟩; refine ⟨_, rfl, ?_⟩; have n0_ := Aside0.mk (Kd.R_elder' (by (with_reducible repeat (first | apply Kd.R_alloc | apply Kd.R_drewN | apply Kd.R_drew)); exact HO180.out) (Kd.R_base ho0) hb); have n1_ := Aside0.mk (Kd.R_lower (Kd.R_new' ho0 (Kd.R_lt (by (with_reducible repeat (first | apply Kd.R_alloc | apply Kd.R_drewN | apply Kd.R_drew)); exact HO180.out))) (below_size (by repeat (first | (with_reducible first | exact HB.out | apply below_alloc | apply pw_below_drewN | apply below_drew1) | exact HB.out)))); have n2_ := Aside0.mk (below_step (by repeat (first | (with_reducible first | exact HB.out | apply below_alloc | apply pw_below_drewN | apply below_drew1) | exact HB.out)) hb); clear HO180; clear HB; have HO180 := n0_; have HO183 := n1_; have HB := n2_; clear n0_ n1_ n2_; (try clear hb); (try clear hb2); (try clear hk); (try clear hi); (try clear ho0); obtain ⟨Ao10, co10, eo10⟩ := Kd.R_slice HO183.out; subst eo10) | ((with_reducible refine gate_builtin (b := .append) (xs := #[.tmp 8, .tmp 11]) rfl ?_); at_builtin; refine Kd.R_append_rows (Kd.int .u8) (w0 := w) w.heap.size rfl (.tmp 8) (.tmp 11) 36 5 (.int .u8 0) 1 rfl Try.underlying36 info5 rfl (by decide) (by omega) v179 t178 t181 _ _ _ (fun k_ => some k_ ≠ (.slice Ao10 t181.length co10 : Value).ownBlock) (fun _ => False) rfl rfl ?aO ?aR (fun _ _ h => h) (fun _ h => h.elim) ?aF ?aB ?aS ?aL ?_; (case aR => repeat (first | exact (Kd.R_reads' HO183.out).2.2 | (with_reducible refine Kd.C_alloc ?_ _) | (with_reducible refine Kd.C_drewN ?_ _) | (with_reducible refine Kd.C_drew ?_))); (case aB => exact (by repeat (first | (with_reducible first | exact HB.out | apply below_alloc | apply pw_below_drewN | apply below_drew1) | exact HB.out))); (case aF => exact (fun k_ hk => Kd.fresh' (Kd.R_lt (by (with_reducible repeat (first | apply Kd.R_alloc | apply Kd.R_drewN | apply Kd.R_drew)); exact HO183.out)) k_ hk)); (case aO => exact (by (with_reducible repeat (first | apply Kd.R_alloc | apply Kd.R_drewN | apply Kd.R_drew)); exact Kd.R_mono HO180.out (fun _ hk => hk.2))); (case aS => exact (below_size (by repeat (first | (with_reducible first | exact HB.out | apply below_alloc | apply pw_below_drewN | apply below_drew1) | exact HB.out)))); (case aL => have := LMc6.out; omega); intro v185 w9 ho hb hg hat; rw [← Ny184.out] at ho; have n0_ := Aside0.mk (Kd.R_after (ok := (fun _ => True)) (by (with_reducible repeat (first | apply Kd.R_alloc | apply Kd.R_drewN | apply Kd.R_drew)); exact HO183.out) hg hat); have n1_ := Aside0.mk (hb); have n2_ := Aside0.mk (ho); clear HO183; clear HB; clear HO180; have HO183 := n0_; have HB := n1_; have HO186 := n2_; clear n0_ n1_ n2_; clear ho hb hg hat))
      all_goals
        go_ret
        exact ⟨_, by first | rfl | (simp [errW_none, errW_some] <;> rfl) | (simp [*, errW_none, errW_some] <;> rfl), by (with_reducible repeat (first | apply Kd.R_alloc | apply Kd.R_drewN | apply Kd.R_drew)); exact Kd.R_mono HO186.out (fun _ hk => trivial), by repeat (first | (with_reducible first | exact HB.out | apply below_alloc | apply pw_below_drewN | apply below_drew1) | exact HB.out)⟩
    · rw [if_neg c6] at H
      exact absurd H (by simp)
  · replace c3 := Bool.eq_false_iff.mpr c3
    subst c3
    have H1 : ((carillonref01_Put.f k ((0 : Int) / 1000000000) 6).bind fun t187 => ((carillonref01_Put.f k ((0 : Int) % 1000000000) 4).bind fun t190 => (if t187.length + t190.length < 140737488355328 then (some (t187 ++ t190)) else (none)))) = some r := by rw [if_neg (show ¬ (false = true) by decide)] at H; exact H
    clear H
    have H := H1
    clear H1
    replace H := Option.bind_eq_some_iff.mp H
    obtain ⟨t187, A110, H⟩ := H
    replace H : ((carillonref01_Put.f k ((0 : Int) % 1000000000) 4).bind fun t190 => (if t187.length + t190.length < 140737488355328 then (some (t187 ++ t190)) else (none))) = some r := H
    have A11 := Aside0.mk A110
    clear A110
    replace H := Option.bind_eq_some_iff.mp H
    obtain ⟨t190, A120, H⟩ := H
    replace H : (if t187.length + t190.length < 140737488355328 then (some (t187 ++ t190)) else (none)) = some r := H
    have A12 := Aside0.mk A120
    clear A120
    by_cases c13 : t187.length + t190.length < 140737488355328
    · rw [if_pos c13] at H
      have LMc13 := Aside0.mk c13
      clear c13
      obtain ⟨y193, hy193⟩ : ∃ y_ : List Int, y_ = (t187 ++ t190) := ⟨_, rfl⟩
      replace H : (some y193) = some r := by first | (rw [hy193]; with_reducible exact H) | (have H2_ := (Option.bind_some _ _).symm.trans H; rw [hy193]; with_reducible exact H2_) | (have H2_ := (Option.bind_some _ _).symm.trans H; with_reducible exact H2_) | with_reducible exact H | (rw [hy193]; exact H) | exact H
      have Ny193 := Aside0.mk hy193
      clear hy193
      obtain rfl := Option.some.inj H
      go_enter Try.func56, Try.ntmps56
      go_wp2_with (first | ((with_reducible refine gate_callee (f := 50) rfl ?_); refine goesL_ (some 4) rfl rfl Try.func50 (by kernel_rfl) rfl #[.int .i64 a0] rfl (by (try simp only [List.map_toArray, List.map_cons, List.map_nil]); first | done | rfl | (simp only [List.length_drop, List.length_take]; rfl)) ?_; (with_reducible refine (carillonref02_May.calls a0 false _ A2.out).mono ?_); rintro e w' ⟨rfl, ⟨nd, rfl⟩⟩; refine ⟨_, rfl, ?_⟩) | ((with_reducible refine gate_callee (f := 47) rfl ?_); refine goesL_ (some 8) rfl rfl Try.func47 (by kernel_rfl) rfl #[.int .i64 ((0 : Int) / 1000000000), .int .i64 6] rfl (by (try simp only [List.map_toArray, List.map_cons, List.map_nil]); first | done | rfl | (simp only [List.length_drop, List.length_take]; rfl)) ?_; (with_reducible refine (carillonref01_Put.calls k ((0 : Int) / 1000000000) 6 t187 _ A11.out).mono ?_); rintro e w14 ⟨v188, rfl, ho0, hb⟩; refine ⟨_, rfl, ?_⟩; have n0_ := Aside0.mk (Kd.R_lower ho0 (below_size (by repeat (first | (with_reducible first | exact HB.out | apply below_alloc | apply pw_below_drewN | apply below_drew1) | exact HB.out)))); have n1_ := Aside0.mk (below_step (by repeat (first | (with_reducible first | exact HB.out | apply below_alloc | apply pw_below_drewN | apply below_drew1) | exact HB.out)) hb); clear HB; have HO189 := n0_; have HB := n1_; clear n0_ n1_; (try clear hb); (try clear hb2); (try clear hk); (try clear hi); (try clear ho0)) | ((with_reducible refine gate_callee (f := 47) rfl ?_); refine goesL_ (some 11) rfl rfl Try.func47 (by kernel_rfl) rfl #[.int .i64 ((0 : Int) % 1000000000), .int .i64 4] rfl (by (try simp only [List.map_toArray, List.map_cons, List.map_nil]); first | done | rfl | (simp only [List.length_drop, List.length_take]; rfl)) ?_; (with_reducible refine (carillonref01_Put.calls k ((0 : Int) % 1000000000) 4 t190 _ A12.out).mono ?_); rintro e w15 ⟨v191, rfl, ho0, hb⟩; refine ⟨_, rfl, ?_⟩; have n0_ := Aside0.mk (Kd.R_elder' (by (with_reducible repeat (first | apply Kd.R_alloc | apply Kd.R_drewN | apply Kd.R_drew)); exact HO189.out) (Kd.R_base ho0) hb); have n1_ := Aside0.mk (Kd.R_lower (Kd.R_new' ho0 (Kd.R_lt (by (with_reducible repeat (first | apply Kd.R_alloc | apply Kd.R_drewN | apply Kd.R_drew)); exact HO189.out))) (below_size (by repeat (first | (with_reducible first | exact HB.out | apply below_alloc | apply pw_below_drewN | apply below_drew1) | exact HB.out)))); have n2_ := Aside0.mk (below_step (by repeat (first | (with_reducible first | exact HB.out | apply below_alloc | apply pw_below_drewN | apply below_drew1) | exact HB.out)) hb); clear HO189; clear HB; have HO189 := n0_; have HO192 := n1_; have HB := n2_; clear n0_ n1_ n2_; (try clear hb); (try clear hb2); (try clear hk); (try clear hi); (try clear ho0); obtain ⟨Ao17, co17, eo17⟩ := Kd.R_slice HO192.out; subst eo17) | ((with_reducible refine gate_builtin (b := .append) (xs := #[.tmp 8, .tmp 11]) rfl ?_); at_builtin; refine Kd.R_append_rows (Kd.int .u8) (w0 := w) w.heap.size rfl (.tmp 8) (.tmp 11) 36 5 (.int .u8 0) 1 rfl Try.underlying36 info5 rfl (by decide) (by omega) v188 t187 t190 _ _ _ (fun k_ => some k_ ≠ (.slice Ao17 t190.length co17 : Value).ownBlock) (fun _ => False) rfl rfl ?aO ?aR (fun _ _ h => h) (fun _ h => h.elim) ?aF ?aB ?aS ?aL ?_; (case aR => repeat (first | exact (Kd.R_reads' HO192.out).2.2 | (with_reducible refine Kd.C_alloc ?_ _) | (with_reducible refine Kd.C_drewN ?_ _) | (with_reducible refine Kd.C_drew ?_))); (case aB => exact (by repeat (first | (with_reducible first | exact HB.out | apply below_alloc | apply pw_below_drewN | apply below_drew1) | exact HB.out))); (case aF => exact (fun k_ hk => Kd.fresh' (Kd.R_lt (by (with_reducible repeat (first | apply Kd.R_alloc | apply Kd.R_drewN | apply Kd.R_drew)); exact HO192.out)) k_ hk)); (case aO => exact (by (with_reducible repeat (first | apply Kd.R_alloc | apply Kd.R_drewN | apply Kd.R_drew)); exact Kd.R_mono HO189.out (fun _ hk => hk.2))); (case aS => exact (below_size (by repeat (first | (with_reducible first | exact HB.out | apply below_alloc | apply pw_below_drewN | apply below_drew1) | exact HB.out)))); (case aL => have := LMc13.out; omega); intro v194 w16 ho hb hg hat; rw [← Ny193.out] at ho; have n0_ := Aside0.mk (Kd.R_after (ok := (fun _ => True)) (by (with_reducible repeat (first | apply Kd.R_alloc | apply Kd.R_drewN | apply Kd.R_drew)); exact HO192.out) hg hat); have n1_ := Aside0.mk (hb); have n2_ := Aside0.mk (ho); clear HO192; clear HB; clear HO189; have HO192 := n0_; have HB := n1_; have HO195 := n2_; clear n0_ n1_ n2_; clear ho hb hg hat))
      all_goals
        go_ret
        exact ⟨_, by first | rfl | (simp [errW_none, errW_some] <;> rfl) | (simp [*, errW_none, errW_some] <;> rfl), by (with_reducible repeat (first | apply Kd.R_alloc | apply Kd.R_drewN | apply Kd.R_drew)); exact Kd.R_mono HO195.out (fun _ hk => trivial), by repeat (first | (with_reducible first | exact HB.out | apply below_alloc | apply pw_below_drewN | apply below_drew1) | exact HB.out)⟩
    · rw [if_neg c13] at H
      exact absurd H (by simp)
end Go.Proofs.Ytiomlbkakiienaa.P
