/- Functions and loops of the given program as Lean functions, and that the code comes to what they say: written by this session's own program; Lean checks it. -/
import Derived.Test.YtiomlbkakiienaaZzPx0
import Derived.Test.YtiomlbkakiienaaZzPx1
import Derived.Test.YtiomlbkakiienaaZzPx2
import Derived.Test.YtiomlbkakiienaaZzPx5
import Derived.Test.YtiomlbkakiienaaZzPx11
namespace Go.Proofs.Ytiomlbkakiienaa.P
open Go.RowKit Go.Proofs.YtiomlbkakiienaaW.PrintWords Go.Proofs.YtiomlbkakiienaaW.PrintLast Go.Proofs.YtiomlbkakiienaaW.PrintMore
attribute [local go_sem] max2_int min2_int max_two min_two max_three min_three max_four min_four   -- for this text's walks alone
set_option linter.unusedVariables false
set_option linter.unusedSimpArgs false
attribute [local go_sem high] eqA43
/-! ### carillonlaw00_Place: function 15 -/
def carillonlaw00_Place.f (a0 : Int) (a1 : Int) : Option (Int) := if a1 = 0 then (none) else (if (Int.tmod a0 a1) < 0 then (some (wrap64 ((Int.tmod a0 a1) + a1))) else (some (Int.tmod a0 a1)))
set_option maxHeartbeats 8000000 in
set_option maxRecDepth 100000 in
theorem carillonlaw00_Place.calls (a0 : Int) (a1 : Int) (r : Int) (w : World) (h : carillonlaw00_Place.f a0 a1 = some r) :
    Calls Try.prog 15 #[.int .i64 a0, .int .i64 a1] w fun e w' => e = .returned (.int .i64 r) ∧ Drawn0 w w' := by
  have H : (if a1 = 0 then (none) else (if (Int.tmod a0 a1) < 0 then (some (wrap64 ((Int.tmod a0 a1) + a1))) else (some (Int.tmod a0 a1)))) = some r := h
  clear h
  by_cases c3 : a1 = 0
  · rw [if_pos c3] at H
    exact absurd H (by simp)
  · rw [if_neg c3] at H
    have c3b0 : (a1 == 0) = false := beq_eq_false_iff_ne.mpr c3
    have c3b1 : (a1 != 0) = true := bne_iff_ne.mpr c3
    by_cases c4 : (Int.tmod a0 a1) < 0
    · rw [if_pos c4] at H
      have c4b0 : decide ((Int.tmod a0 a1) < 0) = true := decide_eq_true c4
      clear c4
      obtain rfl := Option.some.inj H
      go_enter Try.func15, Try.ntmps15
      go_wp2
      all_goals
        go_ret
        exact ⟨by first | rfl | (simp; done) | (simp [*]; done), by repeat (first | exact Drawn0.refl _ | apply Drawn0.step)⟩
    · rw [if_neg c4] at H
      have c4b0 : decide ((Int.tmod a0 a1) < 0) = false := decide_eq_false c4
      clear c4
      obtain rfl := Option.some.inj H
      go_enter Try.func15, Try.ntmps15
      go_wp2
      all_goals
        go_ret
        exact ⟨by first | rfl | (simp; done) | (simp [*]; done), by repeat (first | exact Drawn0.refl _ | apply Drawn0.step)⟩
/-! ### carillonlaw09_FrameCuts: function 4: by our own printer -/
def carillonlaw09_FrameCuts.f (k : Nat) (a0_0 a0_1 a0_2 a0_3 a0_4 a0_5 a0_6 a0_7 a0_8 a0_9 a0_10 a0_11 a0_12 a0_13 a0_14 a0_15 a0_16 a0_17 a0_18 a0_19 a0_20 a0_21 a0_22 : Int) (l1 : List (S43)) (a2 : Int) (l3 : List Int) : Option (Bool) := (carillonlaw09_few.f k l1).bind fun t7 => (if t7 = true then (if (l3.length : Int) > 50 then ((carillonlaw09_awake.f k ).bind fun t11 => (some t11)) else ((carillonlaw00_Tlvs.f l1).bind fun t11 => ((frame_Put.f k a0_0 a0_1 a0_2 a0_3 a0_4 a0_5 a0_6 a0_7 a0_8 a0_9 a0_10 a0_11 a0_12 a0_13 a0_14 a0_15 a0_16 a0_17 a0_18 a0_19 a0_20 a0_21 a0_22 t11).bind fun t12 => (if t12.2 = true then ((carillonlaw00_Place.f a2 (t12.1.size : Int)).bind fun t20 => (if 0 ≤ t20 then (if t20 ≤ (t12.1.size : Int) then ((frame_Get.f k (t12.1.extract (0 : Int).toNat (t20 : Int).toNat)).bind fun t21 => (if t12.1.size + (strOfNums l3).size ≤ 9223372036854775807 then ((frame_Get.f k (t12.1 ++ (strOfNums l3))).bind fun t33 => (if t21.2.2.2.2.2.2.2.2.2.2.2.2.2.2.2.2.2.2.2.2.2.2.2.2 = 2 then (if ((decide (t33.2.2.2.2.2.2.2.2.2.2.2.2.2.2.2.2.2.2.2.2.2.2.2.2 = 0)) == (decide ((l3.length : Int) = 0))) = true then ((carillonlaw09_awake.f k ).bind fun t45 => (some t45)) else (some false)) else (some false))) else (none))) else (none)) else (none))) else ((carillonlaw09_awake.f k ).bind fun t20 => (some t20)))))) else ((carillonlaw09_awake.f k ).bind fun t11 => (some t11)))
abbrev carillonlaw09_FrameCuts.v0 (x0 x1 x2 x3 x4 x5 x6 x7 x8 x9 x10 x11 x12 x13 x14 x15 x16 x17 x18 x19 x20 x21 x22 : Int) : Value := .agg #[.int .i64 x0, .int .i64 x1, .int .i64 x2, .int .i64 x3, .int .u64 x4, .int .i64 x5, .int .i64 x6, .int .i64 x7, .int .i64 x8, .int .u64 x9, .int .i64 x10, .int .i64 x11, .int .i64 x12, .int .i64 x13, .int .i64 x14, .int .i64 x15, .int .i64 x16, .int .u64 x17, .int .i64 x18, .int .i64 x19, .int .i64 x20, .int .i64 x21, .int .i64 x22]
abbrev carillonlaw09_FrameCuts.c1 (x0 x1 x2 x3 x4 x5 x6 x7 x8 x9 x10 x11 x12 x13 x14 x15 x16 x17 x18 x19 x20 x21 x22 : Int) : Array Value := #[.int .i64 x0, .int .i64 x1, .int .i64 x2, .int .i64 x3, .int .u64 x4, .int .i64 x5, .int .i64 x6, .int .i64 x7, .int .i64 x8, .int .u64 x9, .int .i64 x10, .int .i64 x11, .int .i64 x12, .int .i64 x13, .int .i64 x14, .int .i64 x15, .int .i64 x16, .int .u64 x17, .int .i64 x18, .int .i64 x19, .int .i64 x20, .int .i64 x21, .int .i64 x22]
open Go.Proofs.Ytiomlbkakiienaa.E in
set_option maxHeartbeats 60000000 in
set_option maxRecDepth 100000 in
theorem carillonlaw09_FrameCuts.calls (k : Nat) (ap aq ar au av aw ax ay az aA aa ab ac ad ae af ag ah ai aj ak al am : Int) (A1 : Option Addr) (aI : Nat) (l1 : List (S43)) (a2 : Int) (A3 : Option Addr) (bg : Nat) (l3 : List Int) (w : World) (HR1 : Kd.C k43 w A1 l1.length l1) (HC1 : l1.length ≤ aI) (HR3 : Kd.C (Kd.int .u8) w A3 l3.length l3) (HC3 : l3.length ≤ bg) (h : carillonlaw09_FrameCuts.f k ap aq ar au av aw ax ay az aA aa ab ac ad ae af ag ah ai aj ak al am l1 a2 l3 = some true) :
    Calls Try.prog 4 #[.agg #[.int .i64 ap, .int .i64 aq, .int .i64 ar, .int .i64 au, .int .u64 av, .int .i64 aw, .int .i64 ax, .int .i64 ay, .int .i64 az, .int .u64 aA, .int .i64 aa, .int .i64 ab, .int .i64 ac, .int .i64 ad, .int .i64 ae, .int .i64 af, .int .i64 ag, .int .u64 ah, .int .i64 ai, .int .i64 aj, .int .i64 ak, .int .i64 al, .int .i64 am], .slice A1 l1.length aI, .int .i64 a2, .slice A3 l3.length bg] w fun e w' => e = .returned (.bool true) ∧ Below w.heap.size w w' := by
 have H := h
 clear h
 unfold carillonlaw09_FrameCuts.f at H
 obtain ⟨t7, cD, H⟩ := Option.bind_eq_some_iff.mp H
 by_cases c1 : t7 = true
 rotate_left
 ·rw [if_neg c1] at H
  obtain ⟨aF, bL, H⟩ := Option.bind_eq_some_iff.mp H
  have hret := Option.some.inj H
  clear H
  refine calls_of_wp (fn := Try.f4) (by kernel_rfl) rfl ?_
  have hS := St.enter #[(carillonlaw09_FrameCuts.v0 ap aq ar au av aw ax ay az aA aa ab ac ad ae af ag ah ai aj ak al am), .slice A1 l1.length aI, .int .i64 a2, .slice A3 l3.length bg] 69 (by simp) [(0, (carillonlaw09_FrameCuts.v0 ap aq ar au av aw ax ay az aA aa ab ac ad ae af ag ah ai aj ak al am)), (1, .slice A1 l1.length aI), (2, .int .i64 a2), (3, .slice A3 l3.length bg)] (by simp)
  have bP := Below.refl w.heap.size w
  refine wp_seq_k (fun K1 bU => ?_)
  refine reg_seq (I := I1_ w) (ps := [IsB (carillonlaw09_FrameCuts.c1 ap aq ar au av aw ax ay az aA aa ab ac ad ae af ag ah ai aj ak al am) 28 w.heap.size, VB false]) (by kernel_rfl) ?_ ?_ rfl hS bP ?_ ?_
  ·exact bs1
  ·exact .cons (Stays.b _ _ _) (.v (.nil))
  ·refine .on rfl (fun a w hS hI hp => does_var (x_box rfl (congrArg Value.cells (hS.get 0 rfl))) (hI).size) ?_
   refine .on rfl (fun a w hS hI hp => does_val (x_assign rfl (rfl)) rfl) ?_
   exact .nil
  clear hS
  intro cN w3 hS b0 hp
  replace hS := (((hS.nil).cons (hS.get 3 rfl)).cons (hS.get 2 rfl)).cons (hS.get 1 rfl)
  obtain ⟨g4, bj, b2, bf⟩ := (show IsB _ 28 _ (sl _ 4) _ from hp 0 (by decide))
  have hS := hS.cons bj
  clear hp bj
  refine bU _ _ ?_
  refine wp_seq_k (fun K5 ci => ?_)
  refine wp_seq_k (fun K6 bV => ?_)
  refine reg_seq (I := I2_ w w3) (ps := [IsV (.slice A1 l1.length aI), VB t7, VB (!t7), VB (!t7), VU, VU, VU, VB true]) (by kernel_rfl) ?_ ?_ rfl hS ⟨b0, (bR w3)⟩ ?_ ?_
  ·exact bs2
  ·exact .v (.v (.v (.v (.v (.v (.v (.v (.nil))))))))
  ·refine .ms 1 rfl rfl rfl ?_
   refine .on rfl (fun a w hS hI hp => does_call (by kernel_rfl) (ar1 (hp.V 0 rfl rfl)) ((carillonlaw09_few.calls k _ _ l1 t7 _ (Kd.C_below HR1 hI.1) HC1 cD).mono fun _ _ h => ⟨_, h.1, h.2.below, rfl⟩)) ?_
   refine .on rfl (fun a w hS hI hp => does_val (x_not rfl (hp.V 1 rfl rfl)) rfl) ?_
   refine .mv 2 rfl rfl rfl rfl ?_
   iterate 3 refine .sn 3 20 rfl rfl rfl rfl rfl ((congrArg (!·) (Bool.eq_false_iff.2 c1))) ?_
   refine .on rfl (fun a w hS hI hp => does_val (x_pickT rfl ((hp.V 3 rfl rfl).trans (bT (congrArg (!·) (Bool.eq_false_iff.2 c1)))) (rfl)) rfl) ?_
   exact .nil
  clear hS
  intro cO w9 hS bl hp
  have aG : sl _ 24 = .bool true := hp 7 (by decide)
  have hS := hS.cons aG
  clear hp aG
  refine bV _ _ ?_
  refine wp_cond_true ((hS.get 0 rfl).trans (bT rfl)) ?_
  refine wp_seq_k (fun cM bG => ?_)
  refine reg_seq (I := I3_ w w3 w9) (ps := [VB aF, VB aF]) (by kernel_rfl) ?_ ?_ rfl hS ⟨bl.1, bl.2, (bR w9)⟩ ?_ ?_
  ·exact bs3
  ·exact .v (.v (.nil))
  ·refine .on rfl (fun a w hS hI hp => does_call (by kernel_rfl) rfl ((carillonlaw09_awake.calls k  aF _  bL).mono fun _ _ h => ⟨_, h.1, h.2, rfl⟩)) ?_
   refine .asg 0 rfl rfl rfl rfl ?_
   exact .nil
  clear hS
  intro de dG hS cA hp
  replace hS := hS.nil
  have bk : sl _ 8 = .bool aF := hp 1 (by decide)
  have hS := hS.cons bk
  clear hp bk
  refine bG _ _ ?_
  refine wp_ret ?_
  (try simp only [Exit.then, Exit.inBlock, Exit.jump, Exit.noGoto])
  exact bodyPost_ret (v := .bool true) (by rw [results_tmp rfl]; exact congrArg (Result.ok · _) ((hS.get 0 rfl).trans (congrArg Value.bool hret))) hS.nodef ⟨rfl, cA.1⟩
 rw [if_pos c1] at H
 by_cases c2 : (l3.length : Int) > 50
 ·rw [if_pos c2] at H
  obtain ⟨aF, bL, H⟩ := Option.bind_eq_some_iff.mp H
  have hret := Option.some.inj H
  clear H
  refine calls_of_wp (fn := Try.f4) (by kernel_rfl) rfl ?_
  have hS := St.enter #[(carillonlaw09_FrameCuts.v0 ap aq ar au av aw ax ay az aA aa ab ac ad ae af ag ah ai aj ak al am), .slice A1 l1.length aI, .int .i64 a2, .slice A3 l3.length bg] 69 (by simp) [(0, (carillonlaw09_FrameCuts.v0 ap aq ar au av aw ax ay az aA aa ab ac ad ae af ag ah ai aj ak al am)), (1, .slice A1 l1.length aI), (2, .int .i64 a2), (3, .slice A3 l3.length bg)] (by simp)
  have bP := Below.refl w.heap.size w
  refine wp_seq_k (fun K1 bU => ?_)
  refine reg_seq (I := I1_ w) (ps := [IsB (carillonlaw09_FrameCuts.c1 ap aq ar au av aw ax ay az aA aa ab ac ad ae af ag ah ai aj ak al am) 28 w.heap.size, VB false]) (by kernel_rfl) ?_ ?_ rfl hS bP ?_ ?_
  ·exact bs1
  ·exact .cons (Stays.b _ _ _) (.v (.nil))
  ·refine .on rfl (fun a w hS hI hp => does_var (x_box rfl (congrArg Value.cells (hS.get 0 rfl))) (hI).size) ?_
   refine .on rfl (fun a w hS hI hp => does_val (x_assign rfl (rfl)) rfl) ?_
   exact .nil
  clear hS
  intro cN w3 hS b0 hp
  replace hS := (((hS.nil).cons (hS.get 3 rfl)).cons (hS.get 2 rfl)).cons (hS.get 1 rfl)
  obtain ⟨g4, bj, b2, bf⟩ := (show IsB _ 28 _ (sl _ 4) _ from hp 0 (by decide))
  have hS := hS.cons bj
  clear hp bj
  refine bU _ _ ?_
  refine wp_seq_k (fun K5 ci => ?_)
  refine wp_seq_k (fun K6 bV => ?_)
  refine reg_seq (I := I2_ w w3) (ps := [IsV (.slice A1 l1.length aI), VB t7, VB (!t7), VB (!t7), IsV (.slice A3 l3.length bg), VI (l3.length : Int), VB (decide ((l3.length : Int) > 50)), VB (decide ((l3.length : Int) > 50))]) (by kernel_rfl) ?_ ?_ rfl hS ⟨b0, (bR w3)⟩ ?_ ?_
  ·exact bs2
  ·exact .v (.v (.v (.v (.v (.v (.v (.v (.nil))))))))
  ·refine .ms 1 rfl rfl rfl ?_
   refine .on rfl (fun a w hS hI hp => does_call (by kernel_rfl) (ar1 (hp.V 0 rfl rfl)) ((carillonlaw09_few.calls k _ _ l1 t7 _ (Kd.C_below HR1 hI.1) HC1 cD).mono fun _ _ h => ⟨_, h.1, h.2.below, rfl⟩)) ?_
   refine .on rfl (fun a w hS hI hp => does_val (x_not rfl (hp.V 1 rfl rfl)) rfl) ?_
   refine .mv 2 rfl rfl rfl rfl ?_
   refine .oy 3 20 rfl rfl rfl rfl rfl ((congrArg (!·) c1)) (fun a w hS hI hp => does_val (x_move rfl (hS.get 3 rfl)) rfl) ?_
   refine .oy 3 20 rfl rfl rfl rfl rfl ((congrArg (!·) c1)) (fun a w hS hI hp => does_val (x_len (e := 5) rfl (by kernel_rfl) (hp.V 4 rfl rfl)) rfl) ?_
   refine .oy 3 20 rfl rfl rfl rfl rfl ((congrArg (!·) c1)) (fun a w hS hI hp => does_val (x_bin rfl (hp.V 5 rfl rfl) (rfl) (b_gtr _ _ _ _ _ _)) rfl) ?_
   refine .on rfl (fun a w hS hI hp => does_val (x_pickF rfl ((hp.V 3 rfl rfl).trans (bF (congrArg (!·) c1))) (hp.V 6 rfl rfl)) rfl) ?_
   exact .nil
  clear hS
  intro cO w9 hS bl hp
  have aG : sl _ 24 = .bool (decide ((l3.length : Int) > 50)) := hp 7 (by decide)
  have hS := hS.cons aG
  clear hp aG
  refine bV _ _ ?_
  refine wp_cond_true ((hS.get 0 rfl).trans (bT (decide_eq_true c2))) ?_
  refine wp_seq_k (fun cM bG => ?_)
  refine reg_seq (I := I3_ w w3 w9) (ps := [VB aF, VB aF]) (by kernel_rfl) ?_ ?_ rfl hS ⟨bl.1, bl.2, (bR w9)⟩ ?_ ?_
  ·exact bs3
  ·exact .v (.v (.nil))
  ·refine .on rfl (fun a w hS hI hp => does_call (by kernel_rfl) rfl ((carillonlaw09_awake.calls k  aF _  bL).mono fun _ _ h => ⟨_, h.1, h.2, rfl⟩)) ?_
   refine .asg 0 rfl rfl rfl rfl ?_
   exact .nil
  clear hS
  intro de dG hS cA hp
  replace hS := hS.nil
  have bk : sl _ 8 = .bool aF := hp 1 (by decide)
  have hS := hS.cons bk
  clear hp bk
  refine bG _ _ ?_
  refine wp_ret ?_
  (try simp only [Exit.then, Exit.inBlock, Exit.jump, Exit.noGoto])
  exact bodyPost_ret (v := .bool true) (by rw [results_tmp rfl]; exact congrArg (Result.ok · _) ((hS.get 0 rfl).trans (congrArg Value.bool hret))) hS.nodef ⟨rfl, cA.1⟩
 rw [if_neg c2] at H
 obtain ⟨aF, bL, H⟩ := Option.bind_eq_some_iff.mp H
 obtain ⟨dD, cL, H⟩ := Option.bind_eq_some_iff.mp H
 obtain ⟨an, ao⟩ := dD
 (try dsimp only at H)
 by_cases c3 : ao = true
 rotate_left
 ·rw [if_neg c3] at H
  obtain ⟨bh, co, H⟩ := Option.bind_eq_some_iff.mp H
  have hret := Option.some.inj H
  clear H
  refine calls_of_wp (fn := Try.f4) (by kernel_rfl) rfl ?_
  have hS := St.enter #[(carillonlaw09_FrameCuts.v0 ap aq ar au av aw ax ay az aA aa ab ac ad ae af ag ah ai aj ak al am), .slice A1 l1.length aI, .int .i64 a2, .slice A3 l3.length bg] 69 (by simp) [(0, (carillonlaw09_FrameCuts.v0 ap aq ar au av aw ax ay az aA aa ab ac ad ae af ag ah ai aj ak al am)), (1, .slice A1 l1.length aI), (2, .int .i64 a2), (3, .slice A3 l3.length bg)] (by simp)
  have bP := Below.refl w.heap.size w
  refine wp_seq_k (fun K1 bU => ?_)
  refine reg_seq (I := I1_ w) (ps := [IsB (carillonlaw09_FrameCuts.c1 ap aq ar au av aw ax ay az aA aa ab ac ad ae af ag ah ai aj ak al am) 28 w.heap.size, VB false]) (by kernel_rfl) ?_ ?_ rfl hS bP ?_ ?_
  ·exact bs1
  ·exact .cons (Stays.b _ _ _) (.v (.nil))
  ·refine .on rfl (fun a w hS hI hp => does_var (x_box rfl (congrArg Value.cells (hS.get 0 rfl))) (hI).size) ?_
   refine .on rfl (fun a w hS hI hp => does_val (x_assign rfl (rfl)) rfl) ?_
   exact .nil
  clear hS
  intro cN w3 hS b0 hp
  replace hS := (((hS.nil).cons (hS.get 3 rfl)).cons (hS.get 2 rfl)).cons (hS.get 1 rfl)
  obtain ⟨g4, bj, b2, bf⟩ := (show IsB _ 28 _ (sl _ 4) _ from hp 0 (by decide))
  have hS := hS.cons bj
  clear hp bj
  refine bU _ _ ?_
  refine wp_seq_k (fun K5 ci => ?_)
  refine wp_seq_k (fun K6 bV => ?_)
  refine reg_seq (I := I2_ w w3) (ps := [IsV (.slice A1 l1.length aI), VB t7, VB (!t7), VB (!t7), IsV (.slice A3 l3.length bg), VI (l3.length : Int), VB (decide ((l3.length : Int) > 50)), VB (decide ((l3.length : Int) > 50))]) (by kernel_rfl) ?_ ?_ rfl hS ⟨b0, (bR w3)⟩ ?_ ?_
  ·exact bs2
  ·exact .v (.v (.v (.v (.v (.v (.v (.v (.nil))))))))
  ·refine .ms 1 rfl rfl rfl ?_
   refine .on rfl (fun a w hS hI hp => does_call (by kernel_rfl) (ar1 (hp.V 0 rfl rfl)) ((carillonlaw09_few.calls k _ _ l1 t7 _ (Kd.C_below HR1 hI.1) HC1 cD).mono fun _ _ h => ⟨_, h.1, h.2.below, rfl⟩)) ?_
   refine .on rfl (fun a w hS hI hp => does_val (x_not rfl (hp.V 1 rfl rfl)) rfl) ?_
   refine .mv 2 rfl rfl rfl rfl ?_
   refine .oy 3 20 rfl rfl rfl rfl rfl ((congrArg (!·) c1)) (fun a w hS hI hp => does_val (x_move rfl (hS.get 3 rfl)) rfl) ?_
   refine .oy 3 20 rfl rfl rfl rfl rfl ((congrArg (!·) c1)) (fun a w hS hI hp => does_val (x_len (e := 5) rfl (by kernel_rfl) (hp.V 4 rfl rfl)) rfl) ?_
   refine .oy 3 20 rfl rfl rfl rfl rfl ((congrArg (!·) c1)) (fun a w hS hI hp => does_val (x_bin rfl (hp.V 5 rfl rfl) (rfl) (b_gtr _ _ _ _ _ _)) rfl) ?_
   refine .on rfl (fun a w hS hI hp => does_val (x_pickF rfl ((hp.V 3 rfl rfl).trans (bF (congrArg (!·) c1))) (hp.V 6 rfl rfl)) rfl) ?_
   exact .nil
  clear hS
  intro cO w9 hS bl hp
  have aG : sl _ 24 = .bool (decide ((l3.length : Int) > 50)) := hp 7 (by decide)
  have hS := hS.cons aG
  clear hp aG
  refine bV _ _ ?_
  refine wp_cond_false ((hS.get 0 rfl).trans (bF (decide_eq_false c2))) ?_
  refine wp_skip ?_
  refine ci _ _ ?_
  refine wp_seq_k (fun cM bG => ?_)
  refine reg_any (I := I3_ w w3 w9) (ps := [IsV ((carillonlaw09_FrameCuts.v0 ap aq ar au av aw ax ay az aA aa ab ac ad ae af ag ah ai aj ak al am)), IsV (.slice A1 l1.length aI), IsR k43 43 w9.heap.size aF, IsV (.tuple #[.string an, .bool ao]), IsV (.tuple #[.string an, .bool ao]), IsV (.string an), VB ao, IsV (.string an), VB ao]) (by kernel_rfl) (by kernel_rfl) ?_ ?_ rfl hS ⟨bl.1, bl.2, (bR w9)⟩ ?_ ?_
  ·exact bs3
  ·exact .v (.v (.cons (Stays.r _ _ _ _) (.v (.v (.v (.v (.v (.v (.nil)))))))))
  ·refine .on rfl (fun a w hS hI hp => does_loadrow rfl (hS.get 1 rfl) (((hI.2.1).block g4 (blk_lt bf)).trans bf) Try.underlying28 rfl (by kernel_rfl) rfl) ?_
   refine .ms 2 rfl rfl rfl ?_
   refine .on rfl (fun a w hS hI hp => does_call (by kernel_rfl) (ar1 (hp.V 1 rfl rfl)) ((carillonlaw00_Tlvs.calls _ _ l1 aF _ (Kd.C_below HR1 hI.1) HC1 bL).mono fun _ _ h => h.elim fun v0 h => ⟨v0, h.1, h.2.2, Kd.R_lower h.2.1 hI.2.2.size⟩)) ?_
   refine .on rfl (fun a w hS hI hp => (IsC.of_r (hp.V 2 rfl rfl)).elim fun A_ h_ => h_.elim fun c_ h_ => h_.elim fun hv_ h_ => h_.elim fun hl_ hc_ => does_call (by kernel_rfl) (ar2 (hp.V 0 rfl rfl) (hv_)) ((frame_Put.calls k ap aq ar au av aw ax ay az aA aa ab ac ad ae af ag ah ai aj ak al am _ _ aF an ao _ hc_ hl_ cL).mono fun _ _ h => ⟨_, h.1, h.2, rfl⟩)) ?_
   refine .mv 3 rfl rfl rfl rfl ?_
   iterate 2 refine .on rfl (fun a w hS hI hp => does_val (x_extract rfl (hp.V 4 rfl rfl) rfl) rfl) ?_
   refine .asg 5 rfl rfl rfl rfl ?_
   refine .asg 6 rfl rfl rfl rfl ?_
   exact .nil
  clear hS
  intro df cl hS bZ hp
  replace hS := ((hS.nil).cons (hS.get 4 rfl)).cons (hS.get 3 rfl)
  have cj : sl _ 9 = .string an := hp 7 (by decide)
  have bX : sl _ 10 = .bool ao := hp 8 (by decide)
  have hS := hS.cons cj
  have hS := hS.cons bX
  clear hp cj bX
  refine bG _ _ ?_
  refine wp_seq_k (fun du cR => ?_)
  refine wp_seq_k (fun dv cw => ?_)
  refine reg_seq (I := I3_ w w3 cl) (ps := [VB ao, VB (!ao)]) (by kernel_rfl) ?_ ?_ rfl hS ⟨bZ.1, bZ.2.1, (bR cl)⟩ ?_ ?_
  ·exact bs3
  ·exact .v (.v (.nil))
  ·refine .ms 0 rfl rfl rfl ?_
   refine .on rfl (fun a w hS hI hp => does_val (x_not rfl (hp.V 0 rfl rfl)) rfl) ?_
   exact .nil
  clear hS
  intro dg be hS bH hp
  replace hS := (((hS.nil).cons (hS.get 3 rfl)).cons (hS.get 2 rfl)).cons (hS.get 1 rfl)
  have bY : sl _ 34 = .bool (!ao) := hp 1 (by decide)
  have hS := hS.cons bY
  clear hp bY
  refine cw _ _ ?_
  refine wp_cond_true ((hS.get 0 rfl).trans (bT (congrArg (!·) (Bool.eq_false_iff.2 c3)))) ?_
  refine wp_seq_k (fun dw cx => ?_)
  refine reg_seq (I := I3_ w w3 be) (ps := [VB bh, VB bh]) (by kernel_rfl) ?_ ?_ rfl hS ⟨bH.1, bH.2.1, (bR be)⟩ ?_ ?_
  ·exact bs3
  ·exact .v (.v (.nil))
  ·refine .on rfl (fun a w hS hI hp => does_call (by kernel_rfl) rfl ((carillonlaw09_awake.calls k  bh _  co).mono fun _ _ h => ⟨_, h.1, h.2, rfl⟩)) ?_
   refine .asg 0 rfl rfl rfl rfl ?_
   exact .nil
  clear hS
  intro dJ d1 hS dn hp
  replace hS := hS.nil
  have bk : sl _ 8 = .bool bh := hp 1 (by decide)
  have hS := hS.cons bk
  clear hp bk
  refine cx _ _ ?_
  refine wp_ret ?_
  (try simp only [Exit.then, Exit.inBlock, Exit.jump, Exit.noGoto])
  exact bodyPost_ret (v := .bool true) (by rw [results_tmp rfl]; exact congrArg (Result.ok · _) ((hS.get 0 rfl).trans (congrArg Value.bool hret))) hS.nodef ⟨rfl, dn.1⟩
 rw [if_pos c3] at H
 obtain ⟨bh, co, H⟩ := Option.bind_eq_some_iff.mp H
 by_cases c4 : 0 ≤ bh
 rotate_left
 ·rw [if_neg c4] at H
  exact absurd H (by simp)
 rw [if_pos c4] at H
 by_cases c5 : bh ≤ (an.size : Int)
 rotate_left
 ·rw [if_neg c5] at H
  exact absurd H (by simp)
 rw [if_pos c5] at H
 obtain ⟨dE, db, H⟩ := Option.bind_eq_some_iff.mp H
 obtain ⟨bm, bn, bo, bp, bq, br, bs, bt, bu, aJ, aK, aL, aM, aN, aO, aP, aQ, aR, aS, aT, aU, aV, aW, aD, aC⟩ := dE
 (try dsimp only at H)
 by_cases c6 : an.size + (strOfNums l3).size ≤ 9223372036854775807
 rotate_left
 ·rw [if_neg c6] at H
  exact absurd H (by simp)
 rw [if_pos c6] at H
 obtain ⟨dF, dc, H⟩ := Option.bind_eq_some_iff.mp H
 obtain ⟨bv, bw, bx, bz, bA, bB, bC, bD, bE, aX, aY, aZ, a0, a4, a5, a6, a7, a8, a9, ba, bb, bc, bd, aE, aB⟩ := dF
 (try dsimp only at H)
 by_cases c7 : aC = 2
 rotate_left
 ·rw [if_neg c7] at H
  exact absurd H (by simp)
 rw [if_pos c7] at H
 by_cases c8 : ((decide (aB = 0)) == (decide ((l3.length : Int) = 0))) = true
 rotate_left
 ·rw [if_neg c8] at H
  exact absurd H (by simp)
 rw [if_pos c8] at H
 obtain ⟨ck, dd, H⟩ := Option.bind_eq_some_iff.mp H
 have hret := Option.some.inj H
 clear H
 refine calls_of_wp (fn := Try.f4) (by kernel_rfl) rfl ?_
 have hS := St.enter #[(carillonlaw09_FrameCuts.v0 ap aq ar au av aw ax ay az aA aa ab ac ad ae af ag ah ai aj ak al am), .slice A1 l1.length aI, .int .i64 a2, .slice A3 l3.length bg] 69 (by simp) [(0, (carillonlaw09_FrameCuts.v0 ap aq ar au av aw ax ay az aA aa ab ac ad ae af ag ah ai aj ak al am)), (1, .slice A1 l1.length aI), (2, .int .i64 a2), (3, .slice A3 l3.length bg)] (by simp)
 have bP := Below.refl w.heap.size w
 refine wp_seq_k (fun K1 bU => ?_)
 refine reg_seq (I := I1_ w) (ps := [IsB (carillonlaw09_FrameCuts.c1 ap aq ar au av aw ax ay az aA aa ab ac ad ae af ag ah ai aj ak al am) 28 w.heap.size, VB false]) (by kernel_rfl) ?_ ?_ rfl hS bP ?_ ?_
 ·exact bs1
 ·exact .cons (Stays.b _ _ _) (.v (.nil))
 ·refine .on rfl (fun a w hS hI hp => does_var (x_box rfl (congrArg Value.cells (hS.get 0 rfl))) (hI).size) ?_
  refine .on rfl (fun a w hS hI hp => does_val (x_assign rfl (rfl)) rfl) ?_
  exact .nil
 clear hS
 intro cN w3 hS b0 hp
 replace hS := (((hS.nil).cons (hS.get 3 rfl)).cons (hS.get 2 rfl)).cons (hS.get 1 rfl)
 obtain ⟨g4, bj, b2, bf⟩ := (show IsB _ 28 _ (sl _ 4) _ from hp 0 (by decide))
 have hS := hS.cons bj
 clear hp bj
 refine bU _ _ ?_
 refine wp_seq_k (fun K5 ci => ?_)
 refine wp_seq_k (fun K6 bV => ?_)
 refine reg_seq (I := I2_ w w3) (ps := [IsV (.slice A1 l1.length aI), VB t7, VB (!t7), VB (!t7), IsV (.slice A3 l3.length bg), VI (l3.length : Int), VB (decide ((l3.length : Int) > 50)), VB (decide ((l3.length : Int) > 50))]) (by kernel_rfl) ?_ ?_ rfl hS ⟨b0, (bR w3)⟩ ?_ ?_
 ·exact bs2
 ·exact .v (.v (.v (.v (.v (.v (.v (.v (.nil))))))))
 ·refine .ms 1 rfl rfl rfl ?_
  refine .on rfl (fun a w hS hI hp => does_call (by kernel_rfl) (ar1 (hp.V 0 rfl rfl)) ((carillonlaw09_few.calls k _ _ l1 t7 _ (Kd.C_below HR1 hI.1) HC1 cD).mono fun _ _ h => ⟨_, h.1, h.2.below, rfl⟩)) ?_
  refine .on rfl (fun a w hS hI hp => does_val (x_not rfl (hp.V 1 rfl rfl)) rfl) ?_
  refine .mv 2 rfl rfl rfl rfl ?_
  refine .oy 3 20 rfl rfl rfl rfl rfl ((congrArg (!·) c1)) (fun a w hS hI hp => does_val (x_move rfl (hS.get 3 rfl)) rfl) ?_
  refine .oy 3 20 rfl rfl rfl rfl rfl ((congrArg (!·) c1)) (fun a w hS hI hp => does_val (x_len (e := 5) rfl (by kernel_rfl) (hp.V 4 rfl rfl)) rfl) ?_
  refine .oy 3 20 rfl rfl rfl rfl rfl ((congrArg (!·) c1)) (fun a w hS hI hp => does_val (x_bin rfl (hp.V 5 rfl rfl) (rfl) (b_gtr _ _ _ _ _ _)) rfl) ?_
  refine .on rfl (fun a w hS hI hp => does_val (x_pickF rfl ((hp.V 3 rfl rfl).trans (bF (congrArg (!·) c1))) (hp.V 6 rfl rfl)) rfl) ?_
  exact .nil
 clear hS
 intro cO w9 hS bl hp
 have aG : sl _ 24 = .bool (decide ((l3.length : Int) > 50)) := hp 7 (by decide)
 have hS := hS.cons aG
 clear hp aG
 refine bV _ _ ?_
 refine wp_cond_false ((hS.get 0 rfl).trans (bF (decide_eq_false c2))) ?_
 refine wp_skip ?_
 refine ci _ _ ?_
 refine wp_seq_k (fun cM bG => ?_)
 refine reg_any (I := I3_ w w3 w9) (ps := [IsV ((carillonlaw09_FrameCuts.v0 ap aq ar au av aw ax ay az aA aa ab ac ad ae af ag ah ai aj ak al am)), IsV (.slice A1 l1.length aI), IsR k43 43 w9.heap.size aF, IsV (.tuple #[.string an, .bool ao]), IsV (.tuple #[.string an, .bool ao]), IsV (.string an), VB ao, IsV (.string an), VB ao]) (by kernel_rfl) (by kernel_rfl) ?_ ?_ rfl hS ⟨bl.1, bl.2, (bR w9)⟩ ?_ ?_
 ·exact bs3
 ·exact .v (.v (.cons (Stays.r _ _ _ _) (.v (.v (.v (.v (.v (.v (.nil)))))))))
 ·refine .on rfl (fun a w hS hI hp => does_loadrow rfl (hS.get 1 rfl) (((hI.2.1).block g4 (blk_lt bf)).trans bf) Try.underlying28 rfl (by kernel_rfl) rfl) ?_
  refine .ms 2 rfl rfl rfl ?_
  refine .on rfl (fun a w hS hI hp => does_call (by kernel_rfl) (ar1 (hp.V 1 rfl rfl)) ((carillonlaw00_Tlvs.calls _ _ l1 aF _ (Kd.C_below HR1 hI.1) HC1 bL).mono fun _ _ h => h.elim fun v0 h => ⟨v0, h.1, h.2.2, Kd.R_lower h.2.1 hI.2.2.size⟩)) ?_
  refine .on rfl (fun a w hS hI hp => (IsC.of_r (hp.V 2 rfl rfl)).elim fun A_ h_ => h_.elim fun c_ h_ => h_.elim fun hv_ h_ => h_.elim fun hl_ hc_ => does_call (by kernel_rfl) (ar2 (hp.V 0 rfl rfl) (hv_)) ((frame_Put.calls k ap aq ar au av aw ax ay az aA aa ab ac ad ae af ag ah ai aj ak al am _ _ aF an ao _ hc_ hl_ cL).mono fun _ _ h => ⟨_, h.1, h.2, rfl⟩)) ?_
  refine .mv 3 rfl rfl rfl rfl ?_
  iterate 2 refine .on rfl (fun a w hS hI hp => does_val (x_extract rfl (hp.V 4 rfl rfl) rfl) rfl) ?_
  refine .asg 5 rfl rfl rfl rfl ?_
  refine .asg 6 rfl rfl rfl rfl ?_
  exact .nil
 clear hS
 intro df cl hS bZ hp
 replace hS := ((hS.nil).cons (hS.get 4 rfl)).cons (hS.get 3 rfl)
 have cj : sl _ 9 = .string an := hp 7 (by decide)
 have bX : sl _ 10 = .bool ao := hp 8 (by decide)
 have hS := hS.cons cj
 have hS := hS.cons bX
 clear hp cj bX
 refine bG _ _ ?_
 refine wp_seq_k (fun du cR => ?_)
 refine wp_seq_k (fun dv cw => ?_)
 refine reg_seq (I := I3_ w w3 cl) (ps := [VB ao, VB (!ao)]) (by kernel_rfl) ?_ ?_ rfl hS ⟨bZ.1, bZ.2.1, (bR cl)⟩ ?_ ?_
 ·exact bs3
 ·exact .v (.v (.nil))
 ·refine .ms 0 rfl rfl rfl ?_
  refine .on rfl (fun a w hS hI hp => does_val (x_not rfl (hp.V 0 rfl rfl)) rfl) ?_
  exact .nil
 clear hS
 intro dg be hS bH hp
 replace hS := (((hS.nil).cons (hS.get 3 rfl)).cons (hS.get 2 rfl)).cons (hS.get 1 rfl)
 have bY : sl _ 34 = .bool (!ao) := hp 1 (by decide)
 have hS := hS.cons bY
 clear hp bY
 refine cw _ _ ?_
 refine wp_cond_false ((hS.get 0 rfl).trans (bF (congrArg (!·) c3))) ?_
 refine wp_skip ?_
 refine cR _ _ ?_
 refine wp_seq_k (fun dw cx => ?_)
 refine reg_seq_tail 12 (I := I3_ w w3 be) (ps := [IsV (.string an), VI a2, IsV (.string an), VI (an.size : Int), VI bh, IsV (.string (an.extract (0 : Int).toNat (bh : Int).toNat)), IsT (fun v0_ => #[(carillonlaw09_FrameCuts.v0 bm bn bo bp bq br bs bt bu aJ aK aL aM aN aO aP aQ aR aS aT aU aV aW), v0_, .int .i64 aC]) (IsR k43 43 be.heap.size aD), IsT (fun v0_ => #[(carillonlaw09_FrameCuts.v0 bm bn bo bp bq br bs bt bu aJ aK aL aM aN aO aP aQ aR aS aT aU aV aW), v0_, .int .i64 aC]) (IsR k43 43 be.heap.size aD), IsV ((carillonlaw09_FrameCuts.v0 bm bn bo bp bq br bs bt bu aJ aK aL aM aN aO aP aQ aR aS aT aU aV aW)), IsR k43 43 be.heap.size aD, VI aC, IsB (carillonlaw09_FrameCuts.c1 0 0 0 0 0 0 0 0 0 0 0 0 0 0 0 0 0 0 0 0 0 0 0) 28 be.heap.size]) (by kernel_rfl) ?_ ?_ rfl hS ⟨bH.1, bH.2.1, (bR be)⟩ ?_ ?_
 ·exact bs3
 ·exact .v (.v (.v (.v (.v (.v (.cons (Stays.t _ (Stays.r _ _ _ _)) (.cons (Stays.t _ (Stays.r _ _ _ _)) (.v (.cons (Stays.r _ _ _ _) (.v (.cons (Stays.b _ _ _) (.nil))))))))))))
 ·refine .ms 1 rfl rfl rfl ?_
  refine .ms 2 rfl rfl rfl ?_
  refine .ms 1 rfl rfl rfl ?_
  refine .on rfl (fun a w hS hI hp => does_val (x_lenS rfl (by kernel_rfl) (hp.V 2 rfl rfl)) rfl) ?_
  refine .on rfl (fun a w hS hI hp => does_call (by kernel_rfl) (ar2 (hp.V 1 rfl rfl) (hp.V 3 rfl rfl)) ((carillonlaw00_Place.calls a2 (an.size : Int) bh _  co).mono fun _ _ h => ⟨_, h.1, h.2.below, rfl⟩)) ?_
  refine .on rfl (fun a w hS hI hp => does_val (x_cutstr (i := 0) (j := bh) rfl (by kernel_rfl) (hp.V 0 rfl rfl) (.inl ⟨rfl, rfl⟩) (.inr ⟨_, rfl, (hp.V 4 rfl rfl)⟩) (by decide) c4 c5) rfl) ?_
  refine .on rfl (fun a w hS hI hp => does_call (by kernel_rfl) (ar1 (hp.V 5 rfl rfl)) ((frame_Get.calls k (an.extract (0 : Int).toNat (bh : Int).toNat) bm bn bo bp bq br bs bt bu aJ aK aL aM aN aO aP aQ aR aS aT aU aV aW aD aC _  db).mono fun _ _ h => h.elim fun v0 h => ⟨_, h.1, h.2.2, v0, rfl, Kd.R_lower h.2.1 hI.2.2.size⟩)) ?_
  refine .on rfl (fun a w hS hI hp => does_val (x_move rfl rfl) (hp.V 6 rfl rfl)) ?_
  refine .on rfl (fun a w hS hI hp => (hp.V 7 rfl rfl).elim fun v0 h0 => does_val (x_extract rfl h0.1 rfl) rfl) ?_
  refine .on rfl (fun a w hS hI hp => (hp.V 7 rfl rfl).elim fun v0 h0 => does_val (x_extract rfl h0.1 rfl) h0.2) ?_
  refine .on rfl (fun a w hS hI hp => (hp.V 7 rfl rfl).elim fun v0 h0 => does_val (x_extract rfl h0.1 rfl) rfl) ?_
  refine .on rfl (fun a w hS hI hp => does_var (x_alloc rfl (by kernel_rfl)) (hI.2.2).size) ?_
  exact .nil
 clear hS
 intro dK cm hS bM hp
 replace hS := ((hS.nil).cons (hS.get 3 rfl)).cons (hS.get 1 rfl)
 have cU : sl _ 44 = (carillonlaw09_FrameCuts.v0 bm bn bo bp bq br bs bt bu aJ aK aL aM aN aO aP aQ aR aS aT aU aV aW) := hp 8 (by decide)
 obtain ⟨cB, cE, cy, dV, dR⟩ := Kd.R_reads (show Kd.R k43 43 cm be.heap.size (fun _ => True) (sl _ 45) aD from hp 9 (by decide))
 have dj : Kd.R k43 43 cm be.heap.size (fun _ => True) (.slice cB aD.length cE) aD := cy ▸ (hp 9 (by decide))
 have cV : sl _ 46 = .int .i64 aC := hp 10 (by decide)
 obtain ⟨cP, cS, bW, bI⟩ := (show IsB _ 28 _ (sl _ 11) _ from hp 11 (by decide))
 have hS := hS.cons cU
 have hS := hS.cons cy
 have hS := hS.cons cV
 have hS := hS.cons cS
 clear hp cU cy cV cS
 show wpList _ _ _ [_, _, _] _ _
 refine list_step rfl (does_storeAll (g := cP) (cs := (carillonlaw09_FrameCuts.c1 bm bn bo bp bq br bs bt bu aJ aK aL aM aN aO aP aQ aR aS aT aU aV aW)) rfl (hS.get 0 rfl) (hS.get 3 rfl) (((bR cm).block cP (blk_lt bI)).trans bI) (by kernel_rfl) (by kernel_rfl) (by kernel_rfl)) ?_
 rintro dX cY ⟨rfl, dx, hT⟩
 have dk := hT.rowT rfl (((bR cm).block cP (blk_lt bI)).trans bI) (Kd.R_below dj (bR cm)) (by decide)
 have dS := (Kd.R_reads' dk).2.2
 have cG := hT.below bM.1 (Nat.le_trans (bH.1).size bW) (bM.1).size
 have cq := hT.below bM.2.1 (Nat.le_trans (bH.2.1).size bW) (bM.2.1).size
 have b4 := hT.below bM.2.2 bW (bM.2.2).size
 clear hT
 refine list_step rfl (R := fun v w' => Below _ _ w' ∧ (IsV (.slice cB aD.length cE)) v w') (does_val (x_assign rfl (hS.get 2 rfl)) rfl) ?_
 rintro dq dH ⟨hb, he⟩
 have cH := below_step cG hb
 have cr := below_step cq hb
 have b5 := below_step b4 hb
 have b6 := below_step (bR cY) hb
 obtain rfl : dq = .slice cB aD.length cE := he
 refine hS.next (v := .slice cB aD.length cE) (d := 12) rfl (by decide) (by rfl) ?_
 clear hS
 intro dL hS
 refine list_step rfl (R := fun v w' => Below _ _ w' ∧ (VI aC) v w') (does_val (x_assign rfl (hS.get 2 rfl)) rfl) ?_
 rintro dr bK ⟨hb, he⟩
 have b1 := below_step cH hb
 have bS := below_step cr hb
 have bN := below_step b5 hb
 have bO := below_step b6 hb
 have cZ := below_step (bR dH) hb
 obtain rfl : dr = .int .i64 aC := he
 refine hS.next (v := .int .i64 aC) (d := 13) rfl (by decide) (by rfl) ?_
 clear hS
 intro dM hS
 refine wpList_nil ?_
 refine cx _ _ ?_
 refine wp_seq_k (fun dZ dh => ?_)
 refine reg_seq_tail 10 (I := I5_ w w3 be cY bK) (ps := [IsV (.string an), IsV (.slice A3 l3.length bg), IsV (.string (strOfNums l3)), IsV (.string (an ++ (strOfNums l3))), IsT (fun v0_ => #[(carillonlaw09_FrameCuts.v0 bv bw bx bz bA bB bC bD bE aX aY aZ a0 a4 a5 a6 a7 a8 a9 ba bb bc bd), v0_, .int .i64 aB]) (IsR k43 43 bK.heap.size aE), IsT (fun v0_ => #[(carillonlaw09_FrameCuts.v0 bv bw bx bz bA bB bC bD bE aX aY aZ a0 a4 a5 a6 a7 a8 a9 ba bb bc bd), v0_, .int .i64 aB]) (IsR k43 43 bK.heap.size aE), IsV ((carillonlaw09_FrameCuts.v0 bv bw bx bz bA bB bC bD bE aX aY aZ a0 a4 a5 a6 a7 a8 a9 ba bb bc bd)), IsR k43 43 bK.heap.size aE, VI aB, IsB (carillonlaw09_FrameCuts.c1 0 0 0 0 0 0 0 0 0 0 0 0 0 0 0 0 0 0 0 0 0 0 0) 28 bK.heap.size]) (by kernel_rfl) ?_ ?_ rfl hS ⟨b1, bS, bN, bO, (bR bK)⟩ ?_ ?_
 ·exact bs5
 ·exact .v (.v (.v (.v (.cons (Stays.t _ (Stays.r _ _ _ _)) (.cons (Stays.t _ (Stays.r _ _ _ _)) (.v (.cons (Stays.r _ _ _ _) (.v (.cons (Stays.b _ _ _) (.nil))))))))))
 ·refine .ms 6 rfl rfl rfl ?_
  refine .ms 7 rfl rfl rfl ?_
  refine .on rfl (fun a w hS hI hp => does_val (x_conv rfl (hp.V 1 rfl rfl) (Kd.C_string (by kernel_rfl) (e := 5) (by kernel_rfl) (by kernel_rfl) (Kd.C_below HR3 hI.1))) rfl) ?_
  refine .on rfl (fun a w hS hI hp => does_val (x_bin rfl (hp.V 0 rfl rfl) (hp.V 2 rfl rfl) (b_adds _ _ _ _ _ c6)) rfl) ?_
  refine .on rfl (fun a w hS hI hp => does_call (by kernel_rfl) (ar1 (hp.V 3 rfl rfl)) ((frame_Get.calls k (an ++ (strOfNums l3)) bv bw bx bz bA bB bC bD bE aX aY aZ a0 a4 a5 a6 a7 a8 a9 ba bb bc bd aE aB _  dc).mono fun _ _ h => h.elim fun v0 h => ⟨_, h.1, h.2.2, v0, rfl, Kd.R_lower h.2.1 hI.2.2.2.2.size⟩)) ?_
  refine .on rfl (fun a w hS hI hp => does_val (x_move rfl rfl) (hp.V 4 rfl rfl)) ?_
  refine .on rfl (fun a w hS hI hp => (hp.V 5 rfl rfl).elim fun v0 h0 => does_val (x_extract rfl h0.1 rfl) rfl) ?_
  refine .on rfl (fun a w hS hI hp => (hp.V 5 rfl rfl).elim fun v0 h0 => does_val (x_extract rfl h0.1 rfl) h0.2) ?_
  refine .on rfl (fun a w hS hI hp => (hp.V 5 rfl rfl).elim fun v0 h0 => does_val (x_extract rfl h0.1 rfl) rfl) ?_
  refine .on rfl (fun a w hS hI hp => does_var (x_alloc rfl (by kernel_rfl)) (hI.2.2.2.2).size) ?_
  exact .nil
 clear hS
 intro dN cn hS aH hp
 replace hS := ((hS.nil).cons (hS.get 7 rfl)).cons (hS.get 0 rfl)
 have cW : sl _ 53 = (carillonlaw09_FrameCuts.v0 bv bw bx bz bA bB bC bD bE aX aY aZ a0 a4 a5 a6 a7 a8 a9 ba bb bc bd) := hp 6 (by decide)
 obtain ⟨cC, cF, cz, dW, dT⟩ := Kd.R_reads (show Kd.R k43 43 cn bK.heap.size (fun _ => True) (sl _ 54) aE from hp 7 (by decide))
 have dl : Kd.R k43 43 cn bK.heap.size (fun _ => True) (.slice cC aE.length cF) aE := cz ▸ (hp 7 (by decide))
 have cX : sl _ 55 = .int .i64 aB := hp 8 (by decide)
 obtain ⟨cQ, cT, bi, bJ⟩ := (show IsB _ 28 _ (sl _ 14) _ from hp 9 (by decide))
 have hS := hS.cons cW
 have hS := hS.cons cz
 have hS := hS.cons cX
 have hS := hS.cons cT
 clear hp cW cz cX cT
 show wpList _ _ _ [_, _, _] _ _
 refine list_step rfl (does_storeAll (g := cQ) (cs := (carillonlaw09_FrameCuts.c1 bv bw bx bz bA bB bC bD bE aX aY aZ a0 a4 a5 a6 a7 a8 a9 ba bb bc bd)) rfl (hS.get 0 rfl) (hS.get 3 rfl) (((bR cn).block cQ (blk_lt bJ)).trans bJ) (by kernel_rfl) (by kernel_rfl) (by kernel_rfl)) ?_
 rintro dY c9 ⟨rfl, dy, hT⟩
 have dm := hT.rowT rfl (((bR cn).block cQ (blk_lt bJ)).trans bJ) (Kd.R_below dl (bR cn)) (by decide)
 have dU := (Kd.R_reads' dm).2.2
 have cI := hT.below aH.1 (Nat.le_trans (b1).size bi) (aH.1).size
 have ct := hT.below aH.2.1 (Nat.le_trans (bS).size bi) (aH.2.1).size
 have b7 := hT.below aH.2.2.1 (Nat.le_trans (bN).size bi) (aH.2.2.1).size
 have b8 := hT.below aH.2.2.2.1 (Nat.le_trans (bO).size bi) (aH.2.2.2.1).size
 have b9 := hT.below aH.2.2.2.2 bi (aH.2.2.2.2).size
 clear hT
 refine list_step rfl (R := fun v w' => Below _ _ w' ∧ (IsV (.slice cC aE.length cF)) v w') (does_val (x_assign rfl (hS.get 2 rfl)) rfl) ?_
 rintro ds dI ⟨hb, he⟩
 have cJ := below_step cI hb
 have cu := below_step ct hb
 have ca := below_step b7 hb
 have cb := below_step b8 hb
 have cc := below_step b9 hb
 have cd := below_step (bR c9) hb
 obtain rfl : ds = .slice cC aE.length cF := he
 refine hS.next (v := .slice cC aE.length cF) (d := 15) rfl (by decide) (by rfl) ?_
 clear hS
 intro dO hS
 refine list_step rfl (R := fun v w' => Below _ _ w' ∧ (VI aB) v w') (does_val (x_assign rfl (hS.get 2 rfl)) rfl) ?_
 rintro dt da ⟨hb, he⟩
 have cK := below_step cJ hb
 have cv := below_step cu hb
 have ce := below_step ca hb
 have cf := below_step cb hb
 have cg := below_step cc hb
 have ch := below_step cd hb
 have c0 := below_step (bR dI) hb
 obtain rfl : dt = .int .i64 aB := he
 refine hS.next (v := .int .i64 aB) (d := 16) rfl (by decide) (by rfl) ?_
 clear hS
 intro dP hS
 refine wpList_nil ?_
 refine dh _ _ ?_
 refine wp_seq_k (fun d0 di => ?_)
 refine reg_seq (I := I7_ w w3 be cY bK c9 da) (ps := [VI aC, VB (decide (aC = 2)), VB (decide (aC = 2)), VI aB, VB (decide (aB = 0)), IsV (.slice A3 l3.length bg), VI (l3.length : Int), VB (decide ((l3.length : Int) = 0)), VB ((decide (aB = 0)) == (decide ((l3.length : Int) = 0))), VB ((decide (aB = 0)) == (decide ((l3.length : Int) = 0))), VB ((decide (aB = 0)) == (decide ((l3.length : Int) = 0))), VB ck, VB ck, VB ck]) (by kernel_rfl) ?_ ?_ rfl hS ⟨cK, cv, ce, cf, cg, ch, (bR da)⟩ ?_ ?_
 ·exact bs7
 ·exact .v (.v (.v (.v (.v (.v (.v (.v (.v (.v (.v (.v (.v (.v (.nil))))))))))))))
 ·refine .ms 6 rfl rfl rfl ?_
  refine .on rfl (fun a w hS hI hp => does_val (x_bin rfl (hp.V 0 rfl rfl) (rfl) (b_eql _ _ _ _ _ _)) rfl) ?_
  refine .mv 1 rfl rfl rfl rfl ?_
  refine .oy 2 58 rfl rfl rfl rfl rfl ((decide_eq_true c7)) (fun a w hS hI hp => does_val (x_move rfl (hS.get 0 rfl)) rfl) ?_
  refine .oy 2 58 rfl rfl rfl rfl rfl ((decide_eq_true c7)) (fun a w hS hI hp => does_val (x_bin rfl (hp.V 3 rfl rfl) (rfl) (b_eql _ _ _ _ _ _)) rfl) ?_
  refine .oy 2 58 rfl rfl rfl rfl rfl ((decide_eq_true c7)) (fun a w hS hI hp => does_val (x_move rfl (hS.get 7 rfl)) rfl) ?_
  refine .oy 2 58 rfl rfl rfl rfl rfl ((decide_eq_true c7)) (fun a w hS hI hp => does_val (x_len (e := 5) rfl (by kernel_rfl) (hp.V 5 rfl rfl)) rfl) ?_
  refine .oy 2 58 rfl rfl rfl rfl rfl ((decide_eq_true c7)) (fun a w hS hI hp => does_val (x_bin rfl (hp.V 6 rfl rfl) (rfl) (b_eql _ _ _ _ _ _)) rfl) ?_
  refine .oy 2 58 rfl rfl rfl rfl rfl ((decide_eq_true c7)) (fun a w hS hI hp => does_val (x_bin rfl (hp.V 4 rfl rfl) (hp.V 7 rfl rfl) (b_eqb _ _ _ _ _ (by kernel_rfl))) rfl) ?_
  refine .pt 2 8 rfl rfl rfl rfl ((decide_eq_true c7)) rfl rfl ?_
  refine .mv 9 rfl rfl rfl rfl ?_
  refine .oy 10 66 rfl rfl rfl rfl rfl c8 (fun a w hS hI hp => does_call (by kernel_rfl) rfl ((carillonlaw09_awake.calls k  ck _  dd).mono fun _ _ h => ⟨_, h.1, h.2, rfl⟩)) ?_
  refine .pt 10 11 rfl rfl rfl rfl c8 rfl rfl ?_
  refine .asg 12 rfl rfl rfl rfl ?_
  exact .nil
 clear hS
 intro dQ d2 hS dp hp
 replace hS := hS.nil
 have bk : sl _ 8 = .bool ck := hp 13 (by decide)
 have hS := hS.cons bk
 clear hp bk
 refine di _ _ ?_
 refine wp_ret ?_
 (try simp only [Exit.then, Exit.inBlock, Exit.jump, Exit.noGoto])
 exact bodyPost_ret (v := .bool true) (by rw [results_tmp rfl]; exact congrArg (Result.ok · _) ((hS.get 0 rfl).trans (congrArg Value.bool hret))) hS.nodef ⟨rfl, dp.1⟩
def carillonlaw09_FrameCuts.Pure : Prop := ∀ (ap aq ar au av aw ax ay az aA aa ab ac ad ae af ag ah ai aj ak al am : Int) (l1 : List (S43)) (a2 : Int) (l3 : List Int), (Lit.int .i64 ap).wf = true → (Lit.int .i64 aq).wf = true → (Lit.int .i64 ar).wf = true → (Lit.int .i64 au).wf = true → (Lit.int .u64 av).wf = true → (Lit.int .i64 aw).wf = true → (Lit.int .i64 ax).wf = true → (Lit.int .i64 ay).wf = true → (Lit.int .i64 az).wf = true → (Lit.int .u64 aA).wf = true → (Lit.int .i64 aa).wf = true → (Lit.int .i64 ab).wf = true → (Lit.int .i64 ac).wf = true → (Lit.int .i64 ad).wf = true → (Lit.int .i64 ae).wf = true → (Lit.int .i64 af).wf = true → (Lit.int .i64 ag).wf = true → (Lit.int .u64 ah).wf = true → (Lit.int .i64 ai).wf = true → (Lit.int .i64 aj).wf = true → (Lit.int .i64 ak).wf = true → (Lit.int .i64 al).wf = true → (Lit.int .i64 am).wf = true → l1.length ≤ maxLen → l1.length * 24 ≤ 140737488351232 → (∀ x ∈ l1, (Lit.int .i64 x.f0).wf = true ∧ x.f1.size ≤ 9223372036854775807) → (Lit.int .i64 a2).wf = true → l3.length ≤ maxLen → l3.length * 1 ≤ 140737488351232 → (∀ x ∈ l3, (Lit.int .u8 x).wf = true) → ∃ k, carillonlaw09_FrameCuts.f k ap aq ar au av aw ax ay az aA aa ab ac ad ae af ag ah ai aj ak al am l1 a2 l3 = some true
theorem carillonlaw09_FrameCuts.walk (P : carillonlaw09_FrameCuts.Pure) (ap aq ar au av aw ax ay az aA aa ab ac ad ae af ag ah ai aj ak al am : Int) (a1 : Option Addr) (cp : Nat) (l1 : List (S43)) (a2 : Int) (a3 : Option Addr) (b3 bQ : Nat) (z3 : List Int) (w : World) (w0_0 : (Lit.int .i64 ap).wf = true) (w0_1 : (Lit.int .i64 aq).wf = true) (w0_2 : (Lit.int .i64 ar).wf = true) (w0_3 : (Lit.int .i64 au).wf = true) (w0_4 : (Lit.int .u64 av).wf = true) (w0_5 : (Lit.int .i64 aw).wf = true) (w0_6 : (Lit.int .i64 ax).wf = true) (w0_7 : (Lit.int .i64 ay).wf = true) (w0_8 : (Lit.int .i64 az).wf = true) (w0_9 : (Lit.int .u64 aA).wf = true) (w0_10 : (Lit.int .i64 aa).wf = true) (w0_11 : (Lit.int .i64 ab).wf = true) (w0_12 : (Lit.int .i64 ac).wf = true) (w0_13 : (Lit.int .i64 ad).wf = true) (w0_14 : (Lit.int .i64 ae).wf = true) (w0_15 : (Lit.int .i64 af).wf = true) (w0_16 : (Lit.int .i64 ag).wf = true) (w0_17 : (Lit.int .u64 ah).wf = true) (w0_18 : (Lit.int .i64 ai).wf = true) (w0_19 : (Lit.int .i64 aj).wf = true) (w0_20 : (Lit.int .i64 ak).wf = true) (w0_21 : (Lit.int .i64 al).wf = true) (w0_22 : (Lit.int .i64 am).wf = true) (hr1 : Kd.C k43 w a1 l1.length l1) (hc1 : l1.length ≤ cp) (hm1 : l1.length ≤ maxLen) (y1 : l1.length * 24 ≤ 140737488351232) (hw1 : (∀ x ∈ l1, (Lit.int .i64 x.f0).wf = true ∧ x.f1.size ≤ 9223372036854775807)) (w2 : (Lit.int .i64 a2).wf = true) (w3 : (a3 = none ∧ b3 = 0 ∧ bQ = 0 ∧ z3 = []) ∨ ∃ x, a3 = some x ∧ b3 ≤ bQ ∧ bQ ≤ maxLen ∧ z3.length = bQ ∧ (∀ i, i < z3.length → w.cell? (x.add i) = some (.int .u8 (z3.getD i 0))) ∧ ∀ n ∈ z3, (Lit.int .u8 n).wf = true) (y3 : b3 * 1 ≤ 140737488351232) :
  Calls Try.prog 4 #[(carillonlaw09_FrameCuts.v0 ap aq ar au av aw ax ay az aA aa ab ac ad ae af ag ah ai aj ak al am), .slice a1 l1.length cp, .int .i64 a2, .slice a3 b3 bQ] w fun e w' => e = .returned (.bool true) ∧ Below w.heap.size w w' := by
 obtain ⟨l3, rfl, dB, dA, dC, dz⟩ := ReadsInt.ofRowC w3
 obtain ⟨k, h⟩ := P ap aq ar au av aw ax ay az aA aa ab ac ad ae af ag ah ai aj ak al am l1 a2 l3 w0_0 w0_1 w0_2 w0_3 w0_4 w0_5 w0_6 w0_7 w0_8 w0_9 w0_10 w0_11 w0_12 w0_13 w0_14 w0_15 w0_16 w0_17 w0_18 w0_19 w0_20 w0_21 w0_22 hm1 y1 hw1 w2 dA y3 dC
 refine (carillonlaw09_FrameCuts.calls k ap aq ar au av aw ax ay az aA aa ab ac ad ae af ag ah ai aj ak al am a1 cp l1 a2 _ _ l3 w hr1 hc1 (Kd.C_of_reads (d := (0 : Int)) (h1 := fun _ => rfl) dB) dz h).mono ?_
 rintro e w' ⟨rfl, hd⟩
 exact ⟨rfl, hd⟩
/-! ### carillonlaw09_FrameLengths: function 5: by our own printer -/
/-! ### carillonlaw00_SameTlvs: function 16 -/
def carillonlaw00_SameTlvs.l0 : Nat → List (S43) → List (S43) → Int → Option (Bool)
  | 0, _, _, _ => none
  | k + 1, x0, x1, x5 => if x5 < (x0.length : Int) then (if 0 ≤ x5 then (if x5 < (x1.length : Int) then (if (!(((rd_T43 x0 x5).f0) == ((rd_T43 x1 x5).f0)) || (!((((rd_T43 x0 x5).f1).toList) == (((rd_T43 x1 x5).f1).toList)))) = true then (some false) else (carillonlaw00_SameTlvs.l0 k x0 x1 (wrap64 (x5 + 1)))) else (none)) else (none)) else (some true)
def carillonlaw00_SameTlvs.f (k : Nat) (l0 : List (S43)) (l1 : List (S43)) : Option (Bool) := if (l0.length : Int) = (l1.length : Int) then (carillonlaw00_SameTlvs.l0 k l0 l1 0) else (some false)
end Go.Proofs.Ytiomlbkakiienaa.P
