/- Functions and loops of the given program as Lean functions, and that the code comes to what they say: written by this session's own program; Lean checks it. -/
import Derived.Test.YtiomlbkakiienaaZzPx0
import Derived.Test.YtiomlbkakiienaaZzPx6
namespace Go.Proofs.Ytiomlbkakiienaa.P
open Go.RowKit Go.Proofs.YtiomlbkakiienaaW.PrintWords Go.Proofs.YtiomlbkakiienaaW.PrintLast Go.Proofs.YtiomlbkakiienaaW.PrintMore
attribute [local go_sem] max2_int min2_int max_two min_two max_three min_three max_four min_four   -- for this text's walks alone
set_option linter.unusedVariables false
set_option linter.unusedSimpArgs false
def carillonref06_Check.f (a0_0 a0_1 a0_2 a0_3 a0_4 a0_5 a0_6 a0_7 a0_8 a0_9 a0_10 a0_11 a0_12 a0_13 a0_14 a0_15 a0_16 a0_17 a0_18 a0_19 a0_20 a0_21 a0_22 : Int) : Option (Bool) := (carillonref06_Known.f a0_0).bind fun t6 => (if t6 = true then ((carillonref05_In.f a0_1 0 255).bind fun t7 => (if t7 = true then ((carillonref05_In.f a0_2 0 65535).bind fun t8 => (if t8 = true then ((carillonref04_May.f a0_4 a0_5).bind fun t9 => (if t9 = true then ((carillonref05_In.f a0_6 0 65535).bind fun t10 => (if t10 = true then ((carillonref05_In.f a0_7 (-128) 127).bind fun t11 => (some t11)) else (some false))) else (some false))) else (some false))) else (some false))) else (some false))
abbrev carillonref06_Check.v0 (x0 x1 x2 x3 x4 x5 x6 x7 x8 x9 x10 x11 x12 x13 x14 x15 x16 x17 x18 x19 x20 x21 x22 : Int) : Value := .agg #[.int .i64 x0, .int .i64 x1, .int .i64 x2, .int .i64 x3, .int .u64 x4, .int .i64 x5, .int .i64 x6, .int .i64 x7, .int .i64 x8, .int .u64 x9, .int .i64 x10, .int .i64 x11, .int .i64 x12, .int .i64 x13, .int .i64 x14, .int .i64 x15, .int .i64 x16, .int .u64 x17, .int .i64 x18, .int .i64 x19, .int .i64 x20, .int .i64 x21, .int .i64 x22]
abbrev carillonref06_Check.c1 (x0 x1 x2 x3 x4 x5 x6 x7 x8 x9 x10 x11 x12 x13 x14 x15 x16 x17 x18 x19 x20 x21 x22 : Int) : Array Value := #[.int .i64 x0, .int .i64 x1, .int .i64 x2, .int .i64 x3, .int .u64 x4, .int .i64 x5, .int .i64 x6, .int .i64 x7, .int .i64 x8, .int .u64 x9, .int .i64 x10, .int .i64 x11, .int .i64 x12, .int .i64 x13, .int .i64 x14, .int .i64 x15, .int .i64 x16, .int .u64 x17, .int .i64 x18, .int .i64 x19, .int .i64 x20, .int .i64 x21, .int .i64 x22]
open Go.Proofs.Ytiomlbkakiienaa.E in
set_option maxHeartbeats 60000000 in
set_option maxRecDepth 100000 in
theorem carillonref06_Check.calls (ab ac ag aE ad ae ah ak aF aG an ao ap aq ar au av aw ax ay az aA aB : Int) (r : Bool) (w : World) (h : carillonref06_Check.f ab ac ag aE ad ae ah ak aF aG an ao ap aq ar au av aw ax ay az aA aB = some r) :
    Calls Try.prog 48 #[.agg #[.int .i64 ab, .int .i64 ac, .int .i64 ag, .int .i64 aE, .int .u64 ad, .int .i64 ae, .int .i64 ah, .int .i64 ak, .int .i64 aF, .int .u64 aG, .int .i64 an, .int .i64 ao, .int .i64 ap, .int .i64 aq, .int .i64 ar, .int .i64 au, .int .i64 av, .int .u64 aw, .int .i64 ax, .int .i64 ay, .int .i64 az, .int .i64 aA, .int .i64 aB]] w fun e w' => e = .returned (.bool r) ∧ Below w.heap.size w w' := by
 have H := h
 clear h
 unfold carillonref06_Check.f at H
 obtain ⟨t6, aC, H⟩ := Option.bind_eq_some_iff.mp H
 refine calls_of_wp (fn := Try.f48) (by kernel_rfl) rfl ?_
 have hS := St.enter #[(carillonref06_Check.v0 ab ac ag aE ad ae ah ak aF aG an ao ap aq ar au av aw ax ay az aA aB)] 31 (by simp) [(0, (carillonref06_Check.v0 ab ac ag aE ad ae ah ak aF aG an ao ap aq ar au av aw ax ay az aA aB))] (by simp)
 have aN := Below.refl w.heap.size w
 by_cases c1 : t6 = true
 rotate_left
 ·rw [if_neg c1] at H
  obtain rfl := Option.some.inj H
  refine wp_seq_k (fun K1 aI => ?_)
  refine reg_seq (I := I1_ w) (ps := [IsB (carillonref06_Check.c1 ab ac ag aE ad ae ah ak aF aG an ao ap aq ar au av aw ax ay az aA aB) 28 w.heap.size, VB false]) (by kernel_rfl) ?_ ?_ rfl hS aN ?_ ?_
  ·exact bs1
  ·exact .cons (Stays.b _ _ _) (.v (.nil))
  ·refine .on rfl (fun a w hS hI hp => does_var (x_box rfl (congrArg Value.cells (hS.get 0 rfl))) (hI).size) ?_
   refine .on rfl (fun a w hS hI hp => does_val (x_assign rfl (rfl)) rfl) ?_
   exact .nil
  clear hS
  intro aO w3 hS am hp
  replace hS := hS.nil
  obtain ⟨g4, al, aK, aa⟩ := (show IsB _ 28 _ (sl _ 1) _ from hp 0 (by decide))
  have hS := hS.cons al
  clear hp al
  refine aI _ _ ?_
  refine wp_seq_k (fun K5 ai => ?_)
  refine reg_seq (I := I2_ w w3) (ps := [VP g4 0, VI ab, VB t6, VB t6, VU, VU, VU, VB false, VB false, VU, VU, VU, VB false, VB false, VU, VU, VU, VB false, VB false, VU, VU, VU, VB false, VB false, VU, VU, VU, VB false, VB false]) (by kernel_rfl) ?_ ?_ rfl hS ⟨am, (bR w3)⟩ ?_ ?_
  ·exact bs2
  ·exact .v (.v (.v (.v (.v (.v (.v (.v (.v (.v (.v (.v (.v (.v (.v (.v (.v (.v (.v (.v (.v (.v (.v (.v (.v (.v (.v (.v (.v (.nil)))))))))))))))))))))))))))))
  ·refine .on rfl (fun a w hS hI hp => does_val (x_fieldE (b := 0) rfl (hS.get 0 rfl) Try.underlying28 rfl rfl (by kernel_rfl)) rfl) ?_
   refine .on rfl (fun a w hS hI hp => does_val (x_load1 (d := .int .i64) rfl (hp.V 0 rfl rfl) (by kernel_rfl) rfl ((blk_cell (((hI.2).block g4 (blk_lt aa)).trans aa) 0).trans rfl)) rfl) ?_
   refine .on rfl (fun a w hS hI hp => does_call (by kernel_rfl) (ar1 (hp.V 1 rfl rfl)) ((carillonref06_Known.calls ab t6 _  aC).mono fun _ _ h => ⟨_, h.1, h.2.below, rfl⟩)) ?_
   refine .mv 2 rfl rfl rfl ?_
   iterate 3 refine .sn 3 6 rfl rfl ((Bool.eq_false_iff.2 c1)) ?_
   refine .pf 3 rfl rfl rfl ((Bool.eq_false_iff.2 c1)) (fun _ => rfl) ?_
   refine .mv 7 rfl rfl rfl ?_
   iterate 3 refine .sn 8 11 rfl rfl rfl ?_
   refine .pf 8 rfl rfl rfl rfl (fun _ => rfl) ?_
   refine .mv 12 rfl rfl rfl ?_
   iterate 3 refine .sn 13 16 rfl rfl rfl ?_
   refine .pf 13 rfl rfl rfl rfl (fun _ => rfl) ?_
   refine .mv 17 rfl rfl rfl ?_
   iterate 3 refine .sn 18 21 rfl rfl rfl ?_
   refine .pf 18 rfl rfl rfl rfl (fun _ => rfl) ?_
   refine .mv 22 rfl rfl rfl ?_
   iterate 3 refine .sn 23 26 rfl rfl rfl ?_
   refine .pf 23 rfl rfl rfl rfl (fun _ => rfl) ?_
   refine .asg 27 rfl rfl rfl ?_
   exact .nil
  clear hS
  intro aZ w8 hS aU hp
  replace hS := hS.nil
  have af : sl _ 2 = .bool false := hp 28 (by decide)
  have hS := hS.cons af
  clear hp af
  refine ai _ _ ?_
  refine wp_ret ?_
  (try simp only [Exit.then, Exit.inBlock, Exit.jump, Exit.noGoto])
  exact bodyPost_ret (v := .bool false) (results_single rfl (Vals.at (hS.get 0 rfl) .nil)) hS.nodef ⟨rfl, aU.1⟩
 rw [if_pos c1] at H
 obtain ⟨t7, aH, H⟩ := Option.bind_eq_some_iff.mp H
 refine wp_seq_k (fun K1 aI => ?_)
 by_cases c2 : t7 = true
 rotate_left
 ·rw [if_neg c2] at H
  obtain rfl := Option.some.inj H
  refine reg_seq (I := I1_ w) (ps := [IsB (carillonref06_Check.c1 ab ac ag aE ad ae ah ak aF aG an ao ap aq ar au av aw ax ay az aA aB) 28 w.heap.size, VB false]) (by kernel_rfl) ?_ ?_ rfl hS aN ?_ ?_
  ·exact bs1
  ·exact .cons (Stays.b _ _ _) (.v (.nil))
  ·refine .on rfl (fun a w hS hI hp => does_var (x_box rfl (congrArg Value.cells (hS.get 0 rfl))) (hI).size) ?_
   refine .on rfl (fun a w hS hI hp => does_val (x_assign rfl (rfl)) rfl) ?_
   exact .nil
  clear hS
  intro aO w3 hS am hp
  replace hS := hS.nil
  obtain ⟨g4, al, aK, aa⟩ := (show IsB _ 28 _ (sl _ 1) _ from hp 0 (by decide))
  have hS := hS.cons al
  clear hp al
  refine aI _ _ ?_
  refine wp_seq_k (fun K5 ai => ?_)
  refine reg_seq (I := I2_ w w3) (ps := [VP g4 0, VI ab, VB t6, VB t6, VP g4 1, VI ac, VB t7, VB t7, VB t7, VU, VU, VU, VB false, VB false, VU, VU, VU, VB false, VB false, VU, VU, VU, VB false, VB false, VU, VU, VU, VB false, VB false]) (by kernel_rfl) ?_ ?_ rfl hS ⟨am, (bR w3)⟩ ?_ ?_
  ·exact bs2
  ·exact .v (.v (.v (.v (.v (.v (.v (.v (.v (.v (.v (.v (.v (.v (.v (.v (.v (.v (.v (.v (.v (.v (.v (.v (.v (.v (.v (.v (.v (.nil)))))))))))))))))))))))))))))
  ·refine .on rfl (fun a w hS hI hp => does_val (x_fieldE (b := 0) rfl (hS.get 0 rfl) Try.underlying28 rfl rfl (by kernel_rfl)) rfl) ?_
   refine .on rfl (fun a w hS hI hp => does_val (x_load1 (d := .int .i64) rfl (hp.V 0 rfl rfl) (by kernel_rfl) rfl ((blk_cell (((hI.2).block g4 (blk_lt aa)).trans aa) 0).trans rfl)) rfl) ?_
   refine .on rfl (fun a w hS hI hp => does_call (by kernel_rfl) (ar1 (hp.V 1 rfl rfl)) ((carillonref06_Known.calls ab t6 _  aC).mono fun _ _ h => ⟨_, h.1, h.2.below, rfl⟩)) ?_
   refine .mv 2 rfl rfl rfl ?_
   refine .oy 3 6 rfl rfl c1 (fun a w hS hI hp => does_val (x_fieldE (b := 0) rfl (hS.get 0 rfl) Try.underlying28 rfl rfl (by kernel_rfl)) rfl) ?_
   refine .oy 3 6 rfl rfl c1 (fun a w hS hI hp => does_val (x_load1 (d := .int .i64) rfl (hp.V 4 rfl rfl) (by kernel_rfl) rfl ((blk_cell (((hI.2).block g4 (blk_lt aa)).trans aa) 1).trans rfl)) rfl) ?_
   refine .oy 3 6 rfl rfl c1 (fun a w hS hI hp => does_call (by kernel_rfl) (ar3 (hp.V 5 rfl rfl) (rfl) (rfl)) ((carillonref05_In.calls ac 0 255 t7 _  aH).mono fun _ _ h => ⟨_, h.1, h.2.below, rfl⟩)) ?_
   refine .pt 3 6 rfl rfl rfl c1 rfl ?_
   refine .mv 7 rfl rfl rfl ?_
   iterate 3 refine .sn 8 11 rfl rfl ((Bool.eq_false_iff.2 c2)) ?_
   refine .pf 8 rfl rfl rfl ((Bool.eq_false_iff.2 c2)) (fun _ => rfl) ?_
   refine .mv 12 rfl rfl rfl ?_
   iterate 3 refine .sn 13 16 rfl rfl rfl ?_
   refine .pf 13 rfl rfl rfl rfl (fun _ => rfl) ?_
   refine .mv 17 rfl rfl rfl ?_
   iterate 3 refine .sn 18 21 rfl rfl rfl ?_
   refine .pf 18 rfl rfl rfl rfl (fun _ => rfl) ?_
   refine .mv 22 rfl rfl rfl ?_
   iterate 3 refine .sn 23 26 rfl rfl rfl ?_
   refine .pf 23 rfl rfl rfl rfl (fun _ => rfl) ?_
   refine .asg 27 rfl rfl rfl ?_
   exact .nil
  clear hS
  intro a0 w9 hS aV hp
  replace hS := hS.nil
  have af : sl _ 2 = .bool false := hp 28 (by decide)
  have hS := hS.cons af
  clear hp af
  refine ai _ _ ?_
  refine wp_ret ?_
  (try simp only [Exit.then, Exit.inBlock, Exit.jump, Exit.noGoto])
  exact bodyPost_ret (v := .bool false) (results_single rfl (Vals.at (hS.get 0 rfl) .nil)) hS.nodef ⟨rfl, aV.1⟩
 rw [if_pos c2] at H
 obtain ⟨t8, aJ, H⟩ := Option.bind_eq_some_iff.mp H
 refine reg_seq (I := I1_ w) (ps := [IsB (carillonref06_Check.c1 ab ac ag aE ad ae ah ak aF aG an ao ap aq ar au av aw ax ay az aA aB) 28 w.heap.size, VB false]) (by kernel_rfl) ?_ ?_ rfl hS aN ?_ ?_
 ·exact bs1
 ·exact .cons (Stays.b _ _ _) (.v (.nil))
 ·refine .on rfl (fun a w hS hI hp => does_var (x_box rfl (congrArg Value.cells (hS.get 0 rfl))) (hI).size) ?_
  refine .on rfl (fun a w hS hI hp => does_val (x_assign rfl (rfl)) rfl) ?_
  exact .nil
 clear hS
 intro aO w3 hS am hp
 replace hS := hS.nil
 obtain ⟨g4, al, aK, aa⟩ := (show IsB _ 28 _ (sl _ 1) _ from hp 0 (by decide))
 have hS := hS.cons al
 clear hp al
 by_cases c3 : t8 = true
 rotate_left
 ·rw [if_neg c3] at H
  obtain rfl := Option.some.inj H
  refine aI _ _ ?_
  refine wp_seq_k (fun K5 ai => ?_)
  refine reg_seq (I := I2_ w w3) (ps := [VP g4 0, VI ab, VB t6, VB t6, VP g4 1, VI ac, VB t7, VB t7, VB t7, VP g4 2, VI ag, VB t8, VB t8, VB t8, VU, VU, VU, VB false, VB false, VU, VU, VU, VB false, VB false, VU, VU, VU, VB false, VB false]) (by kernel_rfl) ?_ ?_ rfl hS ⟨am, (bR w3)⟩ ?_ ?_
  ·exact bs2
  ·exact .v (.v (.v (.v (.v (.v (.v (.v (.v (.v (.v (.v (.v (.v (.v (.v (.v (.v (.v (.v (.v (.v (.v (.v (.v (.v (.v (.v (.v (.nil)))))))))))))))))))))))))))))
  ·refine .on rfl (fun a w hS hI hp => does_val (x_fieldE (b := 0) rfl (hS.get 0 rfl) Try.underlying28 rfl rfl (by kernel_rfl)) rfl) ?_
   refine .on rfl (fun a w hS hI hp => does_val (x_load1 (d := .int .i64) rfl (hp.V 0 rfl rfl) (by kernel_rfl) rfl ((blk_cell (((hI.2).block g4 (blk_lt aa)).trans aa) 0).trans rfl)) rfl) ?_
   refine .on rfl (fun a w hS hI hp => does_call (by kernel_rfl) (ar1 (hp.V 1 rfl rfl)) ((carillonref06_Known.calls ab t6 _  aC).mono fun _ _ h => ⟨_, h.1, h.2.below, rfl⟩)) ?_
   refine .mv 2 rfl rfl rfl ?_
   refine .oy 3 6 rfl rfl c1 (fun a w hS hI hp => does_val (x_fieldE (b := 0) rfl (hS.get 0 rfl) Try.underlying28 rfl rfl (by kernel_rfl)) rfl) ?_
   refine .oy 3 6 rfl rfl c1 (fun a w hS hI hp => does_val (x_load1 (d := .int .i64) rfl (hp.V 4 rfl rfl) (by kernel_rfl) rfl ((blk_cell (((hI.2).block g4 (blk_lt aa)).trans aa) 1).trans rfl)) rfl) ?_
   refine .oy 3 6 rfl rfl c1 (fun a w hS hI hp => does_call (by kernel_rfl) (ar3 (hp.V 5 rfl rfl) (rfl) (rfl)) ((carillonref05_In.calls ac 0 255 t7 _  aH).mono fun _ _ h => ⟨_, h.1, h.2.below, rfl⟩)) ?_
   refine .pt 3 6 rfl rfl rfl c1 rfl ?_
   refine .mv 7 rfl rfl rfl ?_
   refine .oy 8 11 rfl rfl c2 (fun a w hS hI hp => does_val (x_fieldE (b := 0) rfl (hS.get 0 rfl) Try.underlying28 rfl rfl (by kernel_rfl)) rfl) ?_
   refine .oy 8 11 rfl rfl c2 (fun a w hS hI hp => does_val (x_load1 (d := .int .i64) rfl (hp.V 9 rfl rfl) (by kernel_rfl) rfl ((blk_cell (((hI.2).block g4 (blk_lt aa)).trans aa) 2).trans rfl)) rfl) ?_
   refine .oy 8 11 rfl rfl c2 (fun a w hS hI hp => does_call (by kernel_rfl) (ar3 (hp.V 10 rfl rfl) (rfl) (rfl)) ((carillonref05_In.calls ag 0 65535 t8 _  aJ).mono fun _ _ h => ⟨_, h.1, h.2.below, rfl⟩)) ?_
   refine .pt 8 11 rfl rfl rfl c2 rfl ?_
   refine .mv 12 rfl rfl rfl ?_
   iterate 3 refine .sn 13 16 rfl rfl ((Bool.eq_false_iff.2 c3)) ?_
   refine .pf 13 rfl rfl rfl ((Bool.eq_false_iff.2 c3)) (fun _ => rfl) ?_
   refine .mv 17 rfl rfl rfl ?_
   iterate 3 refine .sn 18 21 rfl rfl rfl ?_
   refine .pf 18 rfl rfl rfl rfl (fun _ => rfl) ?_
   refine .mv 22 rfl rfl rfl ?_
   iterate 3 refine .sn 23 26 rfl rfl rfl ?_
   refine .pf 23 rfl rfl rfl rfl (fun _ => rfl) ?_
   refine .asg 27 rfl rfl rfl ?_
   exact .nil
  clear hS
  intro a1 a2 hS aQ hp
  replace hS := hS.nil
  have af : sl _ 2 = .bool false := hp 28 (by decide)
  have hS := hS.cons af
  clear hp af
  refine ai _ _ ?_
  refine wp_ret ?_
  (try simp only [Exit.then, Exit.inBlock, Exit.jump, Exit.noGoto])
  exact bodyPost_ret (v := .bool false) (results_single rfl (Vals.at (hS.get 0 rfl) .nil)) hS.nodef ⟨rfl, aQ.1⟩
 rw [if_pos c3] at H
 obtain ⟨t9, aM, H⟩ := Option.bind_eq_some_iff.mp H
 refine aI _ _ ?_
 by_cases c4 : t9 = true
 rotate_left
 ·rw [if_neg c4] at H
  obtain rfl := Option.some.inj H
  refine wp_seq_k (fun K5 ai => ?_)
  refine reg_seq (I := I2_ w w3) (ps := [VP g4 0, VI ab, VB t6, VB t6, VP g4 1, VI ac, VB t7, VB t7, VB t7, VP g4 2, VI ag, VB t8, VB t8, VB t8, VP g4 4, IsV (.agg #[.int .u64 ad, .int .i64 ae]), VB t9, VB t9, VB t9, VU, VU, VU, VB false, VB false, VU, VU, VU, VB false, VB false]) (by kernel_rfl) ?_ ?_ rfl hS ⟨am, (bR w3)⟩ ?_ ?_
  ·exact bs2
  ·exact .v (.v (.v (.v (.v (.v (.v (.v (.v (.v (.v (.v (.v (.v (.v (.v (.v (.v (.v (.v (.v (.v (.v (.v (.v (.v (.v (.v (.v (.nil)))))))))))))))))))))))))))))
  ·refine .on rfl (fun a w hS hI hp => does_val (x_fieldE (b := 0) rfl (hS.get 0 rfl) Try.underlying28 rfl rfl (by kernel_rfl)) rfl) ?_
   refine .on rfl (fun a w hS hI hp => does_val (x_load1 (d := .int .i64) rfl (hp.V 0 rfl rfl) (by kernel_rfl) rfl ((blk_cell (((hI.2).block g4 (blk_lt aa)).trans aa) 0).trans rfl)) rfl) ?_
   refine .on rfl (fun a w hS hI hp => does_call (by kernel_rfl) (ar1 (hp.V 1 rfl rfl)) ((carillonref06_Known.calls ab t6 _  aC).mono fun _ _ h => ⟨_, h.1, h.2.below, rfl⟩)) ?_
   refine .mv 2 rfl rfl rfl ?_
   refine .oy 3 6 rfl rfl c1 (fun a w hS hI hp => does_val (x_fieldE (b := 0) rfl (hS.get 0 rfl) Try.underlying28 rfl rfl (by kernel_rfl)) rfl) ?_
   refine .oy 3 6 rfl rfl c1 (fun a w hS hI hp => does_val (x_load1 (d := .int .i64) rfl (hp.V 4 rfl rfl) (by kernel_rfl) rfl ((blk_cell (((hI.2).block g4 (blk_lt aa)).trans aa) 1).trans rfl)) rfl) ?_
   refine .oy 3 6 rfl rfl c1 (fun a w hS hI hp => does_call (by kernel_rfl) (ar3 (hp.V 5 rfl rfl) (rfl) (rfl)) ((carillonref05_In.calls ac 0 255 t7 _  aH).mono fun _ _ h => ⟨_, h.1, h.2.below, rfl⟩)) ?_
   refine .pt 3 6 rfl rfl rfl c1 rfl ?_
   refine .mv 7 rfl rfl rfl ?_
   refine .oy 8 11 rfl rfl c2 (fun a w hS hI hp => does_val (x_fieldE (b := 0) rfl (hS.get 0 rfl) Try.underlying28 rfl rfl (by kernel_rfl)) rfl) ?_
   refine .oy 8 11 rfl rfl c2 (fun a w hS hI hp => does_val (x_load1 (d := .int .i64) rfl (hp.V 9 rfl rfl) (by kernel_rfl) rfl ((blk_cell (((hI.2).block g4 (blk_lt aa)).trans aa) 2).trans rfl)) rfl) ?_
   refine .oy 8 11 rfl rfl c2 (fun a w hS hI hp => does_call (by kernel_rfl) (ar3 (hp.V 10 rfl rfl) (rfl) (rfl)) ((carillonref05_In.calls ag 0 65535 t8 _  aJ).mono fun _ _ h => ⟨_, h.1, h.2.below, rfl⟩)) ?_
   refine .pt 8 11 rfl rfl rfl c2 rfl ?_
   refine .mv 12 rfl rfl rfl ?_
   refine .oy 13 16 rfl rfl c3 (fun a w hS hI hp => does_val (x_fieldE (b := 0) rfl (hS.get 0 rfl) Try.underlying28 rfl rfl (by kernel_rfl)) rfl) ?_
   refine .oy 13 16 rfl rfl c3 (fun a w hS hI hp => does_loadmid (cs := [.int .u64 ad, .int .i64 ae]) rfl (hp.V 14 rfl rfl) (((hI.2).block g4 (blk_lt aa)).trans aa) (by kernel_rfl) Try.underlying24 rfl (by kernel_rfl) rfl) ?_
   refine .oy 13 16 rfl rfl c3 (fun a w hS hI hp => does_call (by kernel_rfl) (ar1 (hp.V 15 rfl rfl)) ((carillonref04_May.calls ad ae t9 _  aM).mono fun _ _ h => ⟨_, h.1, h.2, rfl⟩)) ?_
   refine .pt 13 16 rfl rfl rfl c3 rfl ?_
   refine .mv 17 rfl rfl rfl ?_
   iterate 3 refine .sn 18 21 rfl rfl ((Bool.eq_false_iff.2 c4)) ?_
   refine .pf 18 rfl rfl rfl ((Bool.eq_false_iff.2 c4)) (fun _ => rfl) ?_
   refine .mv 22 rfl rfl rfl ?_
   iterate 3 refine .sn 23 26 rfl rfl rfl ?_
   refine .pf 23 rfl rfl rfl rfl (fun _ => rfl) ?_
   refine .asg 27 rfl rfl rfl ?_
   exact .nil
  clear hS
  intro aW a3 hS aR hp
  replace hS := hS.nil
  have af : sl _ 2 = .bool false := hp 28 (by decide)
  have hS := hS.cons af
  clear hp af
  refine ai _ _ ?_
  refine wp_ret ?_
  (try simp only [Exit.then, Exit.inBlock, Exit.jump, Exit.noGoto])
  exact bodyPost_ret (v := .bool false) (results_single rfl (Vals.at (hS.get 0 rfl) .nil)) hS.nodef ⟨rfl, aR.1⟩
 rw [if_pos c4] at H
 obtain ⟨aj, aL, H⟩ := Option.bind_eq_some_iff.mp H
 refine wp_seq_k (fun K5 ai => ?_)
 by_cases c5 : aj = true
 rotate_left
 ·rw [if_neg c5] at H
  obtain rfl := Option.some.inj H
  refine reg_seq (I := I2_ w w3) (ps := [VP g4 0, VI ab, VB t6, VB t6, VP g4 1, VI ac, VB t7, VB t7, VB t7, VP g4 2, VI ag, VB t8, VB t8, VB t8, VP g4 4, IsV (.agg #[.int .u64 ad, .int .i64 ae]), VB t9, VB t9, VB t9, VP g4 6, VI ah, VB aj, VB aj, VB aj, VU, VU, VU, VB false, VB false]) (by kernel_rfl) ?_ ?_ rfl hS ⟨am, (bR w3)⟩ ?_ ?_
  ·exact bs2
  ·exact .v (.v (.v (.v (.v (.v (.v (.v (.v (.v (.v (.v (.v (.v (.v (.v (.v (.v (.v (.v (.v (.v (.v (.v (.v (.v (.v (.v (.v (.nil)))))))))))))))))))))))))))))
  ·refine .on rfl (fun a w hS hI hp => does_val (x_fieldE (b := 0) rfl (hS.get 0 rfl) Try.underlying28 rfl rfl (by kernel_rfl)) rfl) ?_
   refine .on rfl (fun a w hS hI hp => does_val (x_load1 (d := .int .i64) rfl (hp.V 0 rfl rfl) (by kernel_rfl) rfl ((blk_cell (((hI.2).block g4 (blk_lt aa)).trans aa) 0).trans rfl)) rfl) ?_
   refine .on rfl (fun a w hS hI hp => does_call (by kernel_rfl) (ar1 (hp.V 1 rfl rfl)) ((carillonref06_Known.calls ab t6 _  aC).mono fun _ _ h => ⟨_, h.1, h.2.below, rfl⟩)) ?_
   refine .mv 2 rfl rfl rfl ?_
   refine .oy 3 6 rfl rfl c1 (fun a w hS hI hp => does_val (x_fieldE (b := 0) rfl (hS.get 0 rfl) Try.underlying28 rfl rfl (by kernel_rfl)) rfl) ?_
   refine .oy 3 6 rfl rfl c1 (fun a w hS hI hp => does_val (x_load1 (d := .int .i64) rfl (hp.V 4 rfl rfl) (by kernel_rfl) rfl ((blk_cell (((hI.2).block g4 (blk_lt aa)).trans aa) 1).trans rfl)) rfl) ?_
   refine .oy 3 6 rfl rfl c1 (fun a w hS hI hp => does_call (by kernel_rfl) (ar3 (hp.V 5 rfl rfl) (rfl) (rfl)) ((carillonref05_In.calls ac 0 255 t7 _  aH).mono fun _ _ h => ⟨_, h.1, h.2.below, rfl⟩)) ?_
   refine .pt 3 6 rfl rfl rfl c1 rfl ?_
   refine .mv 7 rfl rfl rfl ?_
   refine .oy 8 11 rfl rfl c2 (fun a w hS hI hp => does_val (x_fieldE (b := 0) rfl (hS.get 0 rfl) Try.underlying28 rfl rfl (by kernel_rfl)) rfl) ?_
   refine .oy 8 11 rfl rfl c2 (fun a w hS hI hp => does_val (x_load1 (d := .int .i64) rfl (hp.V 9 rfl rfl) (by kernel_rfl) rfl ((blk_cell (((hI.2).block g4 (blk_lt aa)).trans aa) 2).trans rfl)) rfl) ?_
   refine .oy 8 11 rfl rfl c2 (fun a w hS hI hp => does_call (by kernel_rfl) (ar3 (hp.V 10 rfl rfl) (rfl) (rfl)) ((carillonref05_In.calls ag 0 65535 t8 _  aJ).mono fun _ _ h => ⟨_, h.1, h.2.below, rfl⟩)) ?_
   refine .pt 8 11 rfl rfl rfl c2 rfl ?_
   refine .mv 12 rfl rfl rfl ?_
   refine .oy 13 16 rfl rfl c3 (fun a w hS hI hp => does_val (x_fieldE (b := 0) rfl (hS.get 0 rfl) Try.underlying28 rfl rfl (by kernel_rfl)) rfl) ?_
   refine .oy 13 16 rfl rfl c3 (fun a w hS hI hp => does_loadmid (cs := [.int .u64 ad, .int .i64 ae]) rfl (hp.V 14 rfl rfl) (((hI.2).block g4 (blk_lt aa)).trans aa) (by kernel_rfl) Try.underlying24 rfl (by kernel_rfl) rfl) ?_
   refine .oy 13 16 rfl rfl c3 (fun a w hS hI hp => does_call (by kernel_rfl) (ar1 (hp.V 15 rfl rfl)) ((carillonref04_May.calls ad ae t9 _  aM).mono fun _ _ h => ⟨_, h.1, h.2, rfl⟩)) ?_
   refine .pt 13 16 rfl rfl rfl c3 rfl ?_
   refine .mv 17 rfl rfl rfl ?_
   refine .oy 18 21 rfl rfl c4 (fun a w hS hI hp => does_val (x_fieldE (b := 0) rfl (hS.get 0 rfl) Try.underlying28 rfl rfl (by kernel_rfl)) rfl) ?_
   refine .oy 18 21 rfl rfl c4 (fun a w hS hI hp => does_val (x_load1 (d := .int .i64) rfl (hp.V 19 rfl rfl) (by kernel_rfl) rfl ((blk_cell (((hI.2).block g4 (blk_lt aa)).trans aa) 6).trans rfl)) rfl) ?_
   refine .oy 18 21 rfl rfl c4 (fun a w hS hI hp => does_call (by kernel_rfl) (ar3 (hp.V 20 rfl rfl) (rfl) (rfl)) ((carillonref05_In.calls ah 0 65535 aj _  aL).mono fun _ _ h => ⟨_, h.1, h.2.below, rfl⟩)) ?_
   refine .pt 18 21 rfl rfl rfl c4 rfl ?_
   refine .mv 22 rfl rfl rfl ?_
   iterate 3 refine .sn 23 26 rfl rfl ((Bool.eq_false_iff.2 c5)) ?_
   refine .pf 23 rfl rfl rfl ((Bool.eq_false_iff.2 c5)) (fun _ => rfl) ?_
   refine .asg 27 rfl rfl rfl ?_
   exact .nil
  clear hS
  intro aX a4 hS aS hp
  replace hS := hS.nil
  have af : sl _ 2 = .bool false := hp 28 (by decide)
  have hS := hS.cons af
  clear hp af
  refine ai _ _ ?_
  refine wp_ret ?_
  (try simp only [Exit.then, Exit.inBlock, Exit.jump, Exit.noGoto])
  exact bodyPost_ret (v := .bool false) (results_single rfl (Vals.at (hS.get 0 rfl) .nil)) hS.nodef ⟨rfl, aS.1⟩
 rw [if_pos c5] at H
 obtain ⟨aD, aP, H⟩ := Option.bind_eq_some_iff.mp H
 obtain rfl := Option.some.inj H
 refine reg_seq (I := I2_ w w3) (ps := [VP g4 0, VI ab, VB t6, VB t6, VP g4 1, VI ac, VB t7, VB t7, VB t7, VP g4 2, VI ag, VB t8, VB t8, VB t8, VP g4 4, IsV (.agg #[.int .u64 ad, .int .i64 ae]), VB t9, VB t9, VB t9, VP g4 6, VI ah, VB aj, VB aj, VB aj, VP g4 7, VI ak, VB aD, VB aD, VB aD]) (by kernel_rfl) ?_ ?_ rfl hS ⟨am, (bR w3)⟩ ?_ ?_
 ·exact bs2
 ·exact .v (.v (.v (.v (.v (.v (.v (.v (.v (.v (.v (.v (.v (.v (.v (.v (.v (.v (.v (.v (.v (.v (.v (.v (.v (.v (.v (.v (.v (.nil)))))))))))))))))))))))))))))
 ·refine .on rfl (fun a w hS hI hp => does_val (x_fieldE (b := 0) rfl (hS.get 0 rfl) Try.underlying28 rfl rfl (by kernel_rfl)) rfl) ?_
  refine .on rfl (fun a w hS hI hp => does_val (x_load1 (d := .int .i64) rfl (hp.V 0 rfl rfl) (by kernel_rfl) rfl ((blk_cell (((hI.2).block g4 (blk_lt aa)).trans aa) 0).trans rfl)) rfl) ?_
  refine .on rfl (fun a w hS hI hp => does_call (by kernel_rfl) (ar1 (hp.V 1 rfl rfl)) ((carillonref06_Known.calls ab t6 _  aC).mono fun _ _ h => ⟨_, h.1, h.2.below, rfl⟩)) ?_
  refine .mv 2 rfl rfl rfl ?_
  refine .oy 3 6 rfl rfl c1 (fun a w hS hI hp => does_val (x_fieldE (b := 0) rfl (hS.get 0 rfl) Try.underlying28 rfl rfl (by kernel_rfl)) rfl) ?_
  refine .oy 3 6 rfl rfl c1 (fun a w hS hI hp => does_val (x_load1 (d := .int .i64) rfl (hp.V 4 rfl rfl) (by kernel_rfl) rfl ((blk_cell (((hI.2).block g4 (blk_lt aa)).trans aa) 1).trans rfl)) rfl) ?_
  refine .oy 3 6 rfl rfl c1 (fun a w hS hI hp => does_call (by kernel_rfl) (ar3 (hp.V 5 rfl rfl) (rfl) (rfl)) ((carillonref05_In.calls ac 0 255 t7 _  aH).mono fun _ _ h => ⟨_, h.1, h.2.below, rfl⟩)) ?_
  refine .pt 3 6 rfl rfl rfl c1 rfl ?_
  refine .mv 7 rfl rfl rfl ?_
  refine .oy 8 11 rfl rfl c2 (fun a w hS hI hp => does_val (x_fieldE (b := 0) rfl (hS.get 0 rfl) Try.underlying28 rfl rfl (by kernel_rfl)) rfl) ?_
  refine .oy 8 11 rfl rfl c2 (fun a w hS hI hp => does_val (x_load1 (d := .int .i64) rfl (hp.V 9 rfl rfl) (by kernel_rfl) rfl ((blk_cell (((hI.2).block g4 (blk_lt aa)).trans aa) 2).trans rfl)) rfl) ?_
  refine .oy 8 11 rfl rfl c2 (fun a w hS hI hp => does_call (by kernel_rfl) (ar3 (hp.V 10 rfl rfl) (rfl) (rfl)) ((carillonref05_In.calls ag 0 65535 t8 _  aJ).mono fun _ _ h => ⟨_, h.1, h.2.below, rfl⟩)) ?_
  refine .pt 8 11 rfl rfl rfl c2 rfl ?_
  refine .mv 12 rfl rfl rfl ?_
  refine .oy 13 16 rfl rfl c3 (fun a w hS hI hp => does_val (x_fieldE (b := 0) rfl (hS.get 0 rfl) Try.underlying28 rfl rfl (by kernel_rfl)) rfl) ?_
  refine .oy 13 16 rfl rfl c3 (fun a w hS hI hp => does_loadmid (cs := [.int .u64 ad, .int .i64 ae]) rfl (hp.V 14 rfl rfl) (((hI.2).block g4 (blk_lt aa)).trans aa) (by kernel_rfl) Try.underlying24 rfl (by kernel_rfl) rfl) ?_
  refine .oy 13 16 rfl rfl c3 (fun a w hS hI hp => does_call (by kernel_rfl) (ar1 (hp.V 15 rfl rfl)) ((carillonref04_May.calls ad ae t9 _  aM).mono fun _ _ h => ⟨_, h.1, h.2, rfl⟩)) ?_
  refine .pt 13 16 rfl rfl rfl c3 rfl ?_
  refine .mv 17 rfl rfl rfl ?_
  refine .oy 18 21 rfl rfl c4 (fun a w hS hI hp => does_val (x_fieldE (b := 0) rfl (hS.get 0 rfl) Try.underlying28 rfl rfl (by kernel_rfl)) rfl) ?_
  refine .oy 18 21 rfl rfl c4 (fun a w hS hI hp => does_val (x_load1 (d := .int .i64) rfl (hp.V 19 rfl rfl) (by kernel_rfl) rfl ((blk_cell (((hI.2).block g4 (blk_lt aa)).trans aa) 6).trans rfl)) rfl) ?_
  refine .oy 18 21 rfl rfl c4 (fun a w hS hI hp => does_call (by kernel_rfl) (ar3 (hp.V 20 rfl rfl) (rfl) (rfl)) ((carillonref05_In.calls ah 0 65535 aj _  aL).mono fun _ _ h => ⟨_, h.1, h.2.below, rfl⟩)) ?_
  refine .pt 18 21 rfl rfl rfl c4 rfl ?_
  refine .mv 22 rfl rfl rfl ?_
  refine .oy 23 26 rfl rfl c5 (fun a w hS hI hp => does_val (x_fieldE (b := 0) rfl (hS.get 0 rfl) Try.underlying28 rfl rfl (by kernel_rfl)) rfl) ?_
  refine .oy 23 26 rfl rfl c5 (fun a w hS hI hp => does_val (x_load1 (d := .int .i64) rfl (hp.V 24 rfl rfl) (by kernel_rfl) rfl ((blk_cell (((hI.2).block g4 (blk_lt aa)).trans aa) 7).trans rfl)) rfl) ?_
  refine .oy 23 26 rfl rfl c5 (fun a w hS hI hp => does_call (by kernel_rfl) (ar3 (hp.V 25 rfl rfl) (rfl) (rfl)) ((carillonref05_In.calls ak (-128) 127 aD _  aP).mono fun _ _ h => ⟨_, h.1, h.2.below, rfl⟩)) ?_
  refine .pt 23 26 rfl rfl rfl c5 rfl ?_
  refine .asg 27 rfl rfl rfl ?_
  exact .nil
 clear hS
 intro aY a5 hS aT hp
 replace hS := hS.nil
 have af : sl _ 2 = .bool aD := hp 28 (by decide)
 have hS := hS.cons af
 clear hp af
 refine ai _ _ ?_
 refine wp_ret ?_
 (try simp only [Exit.then, Exit.inBlock, Exit.jump, Exit.noGoto])
 exact bodyPost_ret (v := .bool aD) (results_single rfl (Vals.at (hS.get 0 rfl) .nil)) hS.nodef ⟨rfl, aT.1⟩
def carillonref07_stamped.f (a0 : Int) : Option (Bool) := if a0 = 12 then (some false) else (some (a0 != 13))
set_option maxHeartbeats 8000000 in
set_option maxRecDepth 100000 in
theorem carillonref07_stamped.calls (a0 : Int) (r : Bool) (w : World) (h : carillonref07_stamped.f a0 = some r) :
    Calls Try.prog 49 #[.int .i64 a0] w fun e w' => e = .returned (.bool r) ∧ Drawn0 w w' := by
  have H : (if a0 = 12 then (some false) else (some (a0 != 13))) = some r := h
  clear h
  by_cases c2 : a0 = 12
  · rw [if_pos c2] at H
    have c2b0 : (a0 == 12) = true := beq_iff_eq.mpr c2
    have c2b1 : (a0 != 12) = false := bne_eq_false_iff_eq.mpr c2
    clear c2
    obtain rfl := Option.some.inj H
    go_enter Try.func49, Try.ntmps49
    go_wp2
    all_goals
      go_ret
      exact ⟨by first | rfl | (simp; done) | (simp [*]; done), by repeat (first | exact Drawn0.refl _ | apply Drawn0.step)⟩
  · rw [if_neg c2] at H
    have c2b0 : (a0 == 12) = false := beq_eq_false_iff_ne.mpr c2
    have c2b1 : (a0 != 12) = true := bne_iff_ne.mpr c2
    obtain rfl := Option.some.inj H
    go_enter Try.func49, Try.ntmps49
    go_wp2
    all_goals
      go_ret
      exact ⟨by first | rfl | (simp; done) | (simp [*]; done), by repeat (first | exact Drawn0.refl _ | apply Drawn0.step)⟩
def carillonref02_May.f (a0 : Int) : Option (Bool) := if a0 ≥ 0 then (some (decide (a0 ≤ 4000000000000000))) else (some false)
set_option maxHeartbeats 8000000 in
set_option maxRecDepth 100000 in
theorem carillonref02_May.calls (a0 : Int) (r : Bool) (w : World) (h : carillonref02_May.f a0 = some r) :
    Calls Try.prog 50 #[.int .i64 a0] w fun e w' => e = .returned (.bool r) ∧ Drawn0 w w' := by
  have H : (if a0 ≥ 0 then (some (decide (a0 ≤ 4000000000000000))) else (some false)) = some r := h
  clear h
  by_cases c2 : a0 ≥ 0
  · rw [if_pos c2] at H
    have c2b0 : decide (0 ≤ a0) = true := decide_eq_true c2
    clear c2
    obtain rfl := Option.some.inj H
    go_enter Try.func50, Try.ntmps50
    go_wp2
    all_goals
      go_ret
      exact ⟨by first | rfl | (simp; done) | (simp [*]; done), by repeat (first | exact Drawn0.refl _ | apply Drawn0.step)⟩
  · rw [if_neg c2] at H
    have c2b0 : decide (0 ≤ a0) = false := decide_eq_false c2
    clear c2
    obtain rfl := Option.some.inj H
    go_enter Try.func50, Try.ntmps50
    go_wp2
    all_goals
      go_ret
      exact ⟨by first | rfl | (simp; done) | (simp [*]; done), by repeat (first | exact Drawn0.refl _ | apply Drawn0.step)⟩
def carillonref07_targeted.f (a0 : Int) : Option (Bool) := if a0 = 9 then (some true) else (if a0 = 3 then (some true) else (if a0 = 10 then (some true) else (if a0 = 12 then (some true) else (some (a0 == 13)))))
set_option maxHeartbeats 8000000 in
set_option maxRecDepth 100000 in
theorem carillonref07_targeted.calls (a0 : Int) (r : Bool) (w : World) (h : carillonref07_targeted.f a0 = some r) :
    Calls Try.prog 51 #[.int .i64 a0] w fun e w' => e = .returned (.bool r) ∧ Drawn0 w w' := by
  have H : (if a0 = 9 then (some true) else (if a0 = 3 then (some true) else (if a0 = 10 then (some true) else (if a0 = 12 then (some true) else (some (a0 == 13)))))) = some r := h
  clear h
  by_cases c2 : a0 = 9
  · rw [if_pos c2] at H
    have c2b0 : (a0 == 9) = true := beq_iff_eq.mpr c2
    have c2b1 : (a0 != 9) = false := bne_eq_false_iff_eq.mpr c2
    clear c2
    obtain rfl := Option.some.inj H
    go_enter Try.func51, Try.ntmps51
    go_wp2
    all_goals
      go_ret
      exact ⟨by first | rfl | (simp; done) | (simp [*]; done), by repeat (first | exact Drawn0.refl _ | apply Drawn0.step)⟩
  · rw [if_neg c2] at H
    have c2b0 : (a0 == 9) = false := beq_eq_false_iff_ne.mpr c2
    have c2b1 : (a0 != 9) = true := bne_iff_ne.mpr c2
    by_cases c3 : a0 = 3
    · rw [if_pos c3] at H
      have c3b0 : (a0 == 3) = true := beq_iff_eq.mpr c3
      have c3b1 : (a0 != 3) = false := bne_eq_false_iff_eq.mpr c3
      clear c3
      obtain rfl := Option.some.inj H
      go_enter Try.func51, Try.ntmps51
      go_wp2
      all_goals
        go_ret
        exact ⟨by first | rfl | (simp; done) | (simp [*]; done), by repeat (first | exact Drawn0.refl _ | apply Drawn0.step)⟩
    · rw [if_neg c3] at H
      have c3b0 : (a0 == 3) = false := beq_eq_false_iff_ne.mpr c3
      have c3b1 : (a0 != 3) = true := bne_iff_ne.mpr c3
      by_cases c4 : a0 = 10
      · rw [if_pos c4] at H
        have c4b0 : (a0 == 10) = true := beq_iff_eq.mpr c4
        have c4b1 : (a0 != 10) = false := bne_eq_false_iff_eq.mpr c4
        clear c4
        obtain rfl := Option.some.inj H
        go_enter Try.func51, Try.ntmps51
        go_wp2
        all_goals
          go_ret
          exact ⟨by first | rfl | (simp; done) | (simp [*]; done), by repeat (first | exact Drawn0.refl _ | apply Drawn0.step)⟩
      · rw [if_neg c4] at H
        have c4b0 : (a0 == 10) = false := beq_eq_false_iff_ne.mpr c4
        have c4b1 : (a0 != 10) = true := bne_iff_ne.mpr c4
        by_cases c5 : a0 = 12
        · rw [if_pos c5] at H
          have c5b0 : (a0 == 12) = true := beq_iff_eq.mpr c5
          have c5b1 : (a0 != 12) = false := bne_eq_false_iff_eq.mpr c5
          clear c5
          obtain rfl := Option.some.inj H
          go_enter Try.func51, Try.ntmps51
          go_wp2
          all_goals
            go_ret
            exact ⟨by first | rfl | (simp; done) | (simp [*]; done), by repeat (first | exact Drawn0.refl _ | apply Drawn0.step)⟩
        · rw [if_neg c5] at H
          have c5b0 : (a0 == 12) = false := beq_eq_false_iff_ne.mpr c5
          have c5b1 : (a0 != 12) = true := bne_iff_ne.mpr c5
          obtain rfl := Option.some.inj H
          go_enter Try.func51, Try.ntmps51
          go_wp2
          all_goals
            go_ret
            exact ⟨by first | rfl | (simp; done) | (simp [*]; done), by repeat (first | exact Drawn0.refl _ | apply Drawn0.step)⟩
def carillonref05_May.f (a0_0 : Int) (a0_1 : Int) (a0_2 : Int) : Option (Bool) := (carillonref05_In.f a0_0 0 255).bind fun t161 => (if t161 = true then ((carillonref05_In.f a0_1 0 255).bind fun t162 => (if t162 = true then ((carillonref05_In.f a0_2 0 65535).bind fun t163 => (some t163)) else (some false))) else (some false))
set_option maxHeartbeats 8000000 in
set_option maxRecDepth 100000 in
theorem carillonref05_May.calls (a0_0 : Int) (a0_1 : Int) (a0_2 : Int) (r : Bool) (w : World) (h : carillonref05_May.f a0_0 a0_1 a0_2 = some r) :
    Calls Try.prog 54 #[.agg #[.int .i64 a0_0, .int .i64 a0_1, .int .i64 a0_2]] w fun e w' => e = .returned (.bool r) ∧ Below w.heap.size w w' := by
  have hu26 := Try.underlying26
  have HB := Aside0.mk (Below.refl w.heap.size w)
  have H : ((carillonref05_In.f a0_0 0 255).bind fun t161 => (if t161 = true then ((carillonref05_In.f a0_1 0 255).bind fun t162 => (if t162 = true then ((carillonref05_In.f a0_2 0 65535).bind fun t163 => (some t163)) else (some false))) else (some false))) = some r := h
  clear h
  replace H := Option.bind_eq_some_iff.mp H
  obtain ⟨t161, A20, H⟩ := H
  replace H : (if t161 = true then ((carillonref05_In.f a0_1 0 255).bind fun t162 => (if t162 = true then ((carillonref05_In.f a0_2 0 65535).bind fun t163 => (some t163)) else (some false))) else (some false)) = some r := H
  have A2 := Aside0.mk A20
  clear A20
  by_cases c3 : t161 = true
  · subst c3
    have H1 : ((carillonref05_In.f a0_1 0 255).bind fun t162 => (if t162 = true then ((carillonref05_In.f a0_2 0 65535).bind fun t163 => (some t163)) else (some false))) = some r := by rw [if_pos rfl] at H; exact H
    clear H
    have H := H1
    clear H1
    replace H := Option.bind_eq_some_iff.mp H
    obtain ⟨t162, A40, H⟩ := H
    replace H : (if t162 = true then ((carillonref05_In.f a0_2 0 65535).bind fun t163 => (some t163)) else (some false)) = some r := H
    have A4 := Aside0.mk A40
    clear A40
    by_cases c5 : t162 = true
    · subst c5
      have H1 : ((carillonref05_In.f a0_2 0 65535).bind fun t163 => (some t163)) = some r := by rw [if_pos rfl] at H; exact H
      clear H
      have H := H1
      clear H1
      replace H := Option.bind_eq_some_iff.mp H
      obtain ⟨t163, A60, H⟩ := H
      replace H : (some t163) = some r := H
      have A6 := Aside0.mk A60
      clear A60
      obtain rfl := Option.some.inj H
      go_enter Try.func54, Try.ntmps54
      go_wp2_with (first | ((with_reducible refine gate_dst (N := 1) rfl ?_); refine box_event ?hg (N := 1) ?hd (cs := #[.int .i64 a0_0, .int .i64 a0_1, .int .i64 a0_2]) (t := 26) ?hr ?_; (case hd => rfl); (case hg => rfl); (case hr => first | (go_simp; done) | (go_simp; rfl)); intro gb160 hg w7 hbox hb; have n0_ := Aside0.mk (below_step (by repeat (first | (with_reducible first | exact HB.out | apply below_alloc | apply pw_below_drewN | apply below_drew1) | exact HB.out)) hb); have n1_ := Aside0.mk (hbox); have n2_ := Aside0.mk ((by rw [hg]; exact (below_size (by repeat (first | (with_reducible first | exact HB.out | apply below_alloc | apply pw_below_drewN | apply below_drew1) | exact HB.out))) : w.heap.size ≤ gb160)); have n3_ := Aside0.mk ((by rw [hg]; exact (below_size (by repeat (first | (with_reducible first | exact HB.out | apply below_alloc | apply pw_below_drewN | apply below_drew1) | exact HB.out))) : w.heap.size ≤ gb160)); clear HB; have HB := n0_; have BK160 := n1_; have GW160 := n2_; have GE160 := n3_; clear n0_ n1_ n2_ n3_; clear hb hbox hg; have hcz8_0 : w7.cell? ⟨gb160, 0, none⟩ = some (.int .i64 a0_0) := (blk_cell BK160.out 0).trans rfl; have hcz8_1 : w7.cell? ⟨gb160, 1, none⟩ = some (.int .i64 a0_1) := (blk_cell BK160.out 1).trans rfl; have hcz8_2 : w7.cell? ⟨gb160, 2, none⟩ = some (.int .i64 a0_2) := (blk_cell BK160.out 2).trans rfl; have hfz8_0 := blk_frozen BK160.out 0; have hfz8_1 := blk_frozen BK160.out 1; have hfz8_2 := blk_frozen BK160.out 2) | ((with_reducible refine gate_callee (f := 53) rfl ?_); refine goesL_ (some 5) rfl rfl Try.func53 (by kernel_rfl) rfl #[.int .i64 a0_0, .int .i64 0, .int .i64 255] rfl (by (try simp only [List.map_toArray, List.map_cons, List.map_nil]); first | done | rfl | (simp only [List.length_drop, List.length_take]; rfl)) ?_; (with_reducible refine (carillonref05_In.calls a0_0 0 255 true _ A2.out).mono ?_); rintro e w' ⟨rfl, ⟨nd, rfl⟩⟩; refine ⟨_, rfl, ?_⟩) | (go_at_call 53; (with_reducible refine (carillonref05_In.calls a0_1 0 255 true _ A4.out).mono ?_); rintro e w' ⟨rfl, ⟨nd, rfl⟩⟩) | (go_at_call 53; (with_reducible refine (carillonref05_In.calls a0_2 0 65535 t163 _ A6.out).mono ?_); rintro e w' ⟨rfl, ⟨nd, rfl⟩⟩))
      all_goals
        go_ret
        exact ⟨by first | rfl | (simp [errW_none, errW_some] <;> rfl) | (simp [*, errW_none, errW_some] <;> rfl), by repeat (first | (with_reducible first | exact HB.out | apply below_alloc | apply pw_below_drewN | apply below_drew1 | refine below_set ?_ GE160.out) | exact HB.out)⟩
    · replace c5 := Bool.eq_false_iff.mpr c5
      subst c5
      have H1 : (some false) = some r := by rw [if_neg (show ¬ (false = true) by decide)] at H; exact H
      clear H
      have H := H1
      clear H1
      obtain rfl := Option.some.inj H
      go_enter Try.func54, Try.ntmps54
      go_wp2_with (first | ((with_reducible refine gate_dst (N := 1) rfl ?_); refine box_event ?hg (N := 1) ?hd (cs := #[.int .i64 a0_0, .int .i64 a0_1, .int .i64 a0_2]) (t := 26) ?hr ?_; (case hd => rfl); (case hg => rfl); (case hr => first | (go_simp; done) | (go_simp; rfl)); intro gb160 hg w9 hbox hb; have n0_ := Aside0.mk (below_step (by repeat (first | (with_reducible first | exact HB.out | apply below_alloc | apply pw_below_drewN | apply below_drew1) | exact HB.out)) hb); have n1_ := Aside0.mk (hbox); have n2_ := Aside0.mk ((by rw [hg]; exact (below_size (by repeat (first | (with_reducible first | exact HB.out | apply below_alloc | apply pw_below_drewN | apply below_drew1) | exact HB.out))) : w.heap.size ≤ gb160)); have n3_ := Aside0.mk ((by rw [hg]; exact (below_size (by repeat (first | (with_reducible first | exact HB.out | apply below_alloc | apply pw_below_drewN | apply below_drew1) | exact HB.out))) : w.heap.size ≤ gb160)); clear HB; have HB := n0_; have BK160 := n1_; have GW160 := n2_; have GE160 := n3_; clear n0_ n1_ n2_ n3_; clear hb hbox hg; have hcz10_0 : w9.cell? ⟨gb160, 0, none⟩ = some (.int .i64 a0_0) := (blk_cell BK160.out 0).trans rfl; have hcz10_1 : w9.cell? ⟨gb160, 1, none⟩ = some (.int .i64 a0_1) := (blk_cell BK160.out 1).trans rfl; have hcz10_2 : w9.cell? ⟨gb160, 2, none⟩ = some (.int .i64 a0_2) := (blk_cell BK160.out 2).trans rfl; have hfz10_0 := blk_frozen BK160.out 0; have hfz10_1 := blk_frozen BK160.out 1; have hfz10_2 := blk_frozen BK160.out 2) | ((with_reducible refine gate_callee (f := 53) rfl ?_); refine goesL_ (some 5) rfl rfl Try.func53 (by kernel_rfl) rfl #[.int .i64 a0_0, .int .i64 0, .int .i64 255] rfl (by (try simp only [List.map_toArray, List.map_cons, List.map_nil]); first | done | rfl | (simp only [List.length_drop, List.length_take]; rfl)) ?_; (with_reducible refine (carillonref05_In.calls a0_0 0 255 true _ A2.out).mono ?_); rintro e w' ⟨rfl, ⟨nd, rfl⟩⟩; refine ⟨_, rfl, ?_⟩) | (go_at_call 53; (with_reducible refine (carillonref05_In.calls a0_1 0 255 false _ A4.out).mono ?_); rintro e w' ⟨rfl, ⟨nd, rfl⟩⟩))
      all_goals
        go_ret
        exact ⟨by first | rfl | (simp [errW_none, errW_some] <;> rfl) | (simp [*, errW_none, errW_some] <;> rfl), by repeat (first | (with_reducible first | exact HB.out | apply below_alloc | apply pw_below_drewN | apply below_drew1 | refine below_set ?_ GE160.out) | exact HB.out)⟩
  · replace c3 := Bool.eq_false_iff.mpr c3
    subst c3
    have H1 : (some false) = some r := by rw [if_neg (show ¬ (false = true) by decide)] at H; exact H
    clear H
    have H := H1
    clear H1
    obtain rfl := Option.some.inj H
    go_enter Try.func54, Try.ntmps54
    go_wp2_with (first | ((with_reducible refine gate_dst (N := 1) rfl ?_); refine box_event ?hg (N := 1) ?hd (cs := #[.int .i64 a0_0, .int .i64 a0_1, .int .i64 a0_2]) (t := 26) ?hr ?_; (case hd => rfl); (case hg => rfl); (case hr => first | (go_simp; done) | (go_simp; rfl)); intro gb160 hg w11 hbox hb; have n0_ := Aside0.mk (below_step (by repeat (first | (with_reducible first | exact HB.out | apply below_alloc | apply pw_below_drewN | apply below_drew1) | exact HB.out)) hb); have n1_ := Aside0.mk (hbox); have n2_ := Aside0.mk ((by rw [hg]; exact (below_size (by repeat (first | (with_reducible first | exact HB.out | apply below_alloc | apply pw_below_drewN | apply below_drew1) | exact HB.out))) : w.heap.size ≤ gb160)); have n3_ := Aside0.mk ((by rw [hg]; exact (below_size (by repeat (first | (with_reducible first | exact HB.out | apply below_alloc | apply pw_below_drewN | apply below_drew1) | exact HB.out))) : w.heap.size ≤ gb160)); clear HB; have HB := n0_; have BK160 := n1_; have GW160 := n2_; have GE160 := n3_; clear n0_ n1_ n2_ n3_; clear hb hbox hg; have hcz12_0 : w11.cell? ⟨gb160, 0, none⟩ = some (.int .i64 a0_0) := (blk_cell BK160.out 0).trans rfl; have hcz12_1 : w11.cell? ⟨gb160, 1, none⟩ = some (.int .i64 a0_1) := (blk_cell BK160.out 1).trans rfl; have hcz12_2 : w11.cell? ⟨gb160, 2, none⟩ = some (.int .i64 a0_2) := (blk_cell BK160.out 2).trans rfl; have hfz12_0 := blk_frozen BK160.out 0; have hfz12_1 := blk_frozen BK160.out 1; have hfz12_2 := blk_frozen BK160.out 2) | ((with_reducible refine gate_callee (f := 53) rfl ?_); refine goesL_ (some 5) rfl rfl Try.func53 (by kernel_rfl) rfl #[.int .i64 a0_0, .int .i64 0, .int .i64 255] rfl (by (try simp only [List.map_toArray, List.map_cons, List.map_nil]); first | done | rfl | (simp only [List.length_drop, List.length_take]; rfl)) ?_; (with_reducible refine (carillonref05_In.calls a0_0 0 255 false _ A2.out).mono ?_); rintro e w' ⟨rfl, ⟨nd, rfl⟩⟩; refine ⟨_, rfl, ?_⟩))
    all_goals
      go_ret
      exact ⟨by first | rfl | (simp [errW_none, errW_some] <;> rfl) | (simp [*, errW_none, errW_some] <;> rfl), by repeat (first | (with_reducible first | exact HB.out | apply below_alloc | apply pw_below_drewN | apply below_drew1 | refine below_set ?_ GE160.out) | exact HB.out)⟩
end Go.Proofs.Ytiomlbkakiienaa.P
