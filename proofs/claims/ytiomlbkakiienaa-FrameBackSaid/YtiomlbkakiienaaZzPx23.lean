/- Functions and loops of the given program as Lean functions, and that the code comes to what they say: written by this session's own program; Lean checks it. -/
import Derived.Test.YtiomlbkakiienaaZzPx0
import Derived.Test.YtiomlbkakiienaaZzPx2
import Derived.Test.YtiomlbkakiienaaZzPx5
import Derived.Test.YtiomlbkakiienaaZzPx11
import Derived.Test.YtiomlbkakiienaaZzPx17
import Derived.Test.YtiomlbkakiienaaZzPx22
namespace Go.Proofs.Ytiomlbkakiienaa.P
open Go.RowKit Go.Proofs.YtiomlbkakiienaaW.PrintWords Go.Proofs.YtiomlbkakiienaaW.PrintLast Go.Proofs.YtiomlbkakiienaaW.PrintMore
attribute [local go_sem] max2_int min2_int max_two min_two max_three min_three max_four min_four   -- for this text's walks alone
set_option linter.unusedVariables false
set_option linter.unusedSimpArgs false
/-! ### carillonref09_Here: function 19: by our own printer -/
/-! ### carillonlaw09_FrameGets: function 7: by our own printer -/
/-! ### carillonlaw09_FrameBack: function 8: by our own printer -/
def carillonlaw09_FrameBack.f (k : Nat) (a0_0 a0_1 a0_2 a0_3 a0_4 a0_5 a0_6 a0_7 a0_8 a0_9 a0_10 a0_11 a0_12 a0_13 a0_14 a0_15 a0_16 a0_17 a0_18 a0_19 a0_20 a0_21 a0_22 : Int) (l1 : List (S43)) (a2 : Int) : Option (Bool) := (carillonlaw09_few.f k l1).bind fun t7 => (if t7 = true then ((carillonlaw00_Tlvs.f l1).bind fun t11 => ((frame_Put.f k a0_0 a0_1 a0_2 a0_3 a0_4 a0_5 a0_6 a0_7 a0_8 a0_9 a0_10 a0_11 a0_12 a0_13 a0_14 a0_15 a0_16 a0_17 a0_18 a0_19 a0_20 a0_21 a0_22 t11).bind fun t12 => (if t12.2 = true then ((frame_Get.f k t12.1).bind fun t20 => ((frame_Here.f k t12.1 a2).bind fun t32 => (if t20.2.2.2.2.2.2.2.2.2.2.2.2.2.2.2.2.2.2.2.2.2.2.2.2 = 0 then (if ((t20.1 == a0_0) && ((t20.2.1 == a0_1) && ((t20.2.2.1 == a0_2) && ((t20.2.2.2.1 == a0_3) && ((t20.2.2.2.2.1 == a0_4) && ((t20.2.2.2.2.2.1 == a0_5) && ((t20.2.2.2.2.2.2.1 == a0_6) && ((t20.2.2.2.2.2.2.2.1 == a0_7) && ((t20.2.2.2.2.2.2.2.2.1 == a0_8) && ((t20.2.2.2.2.2.2.2.2.2.1 == a0_9) && ((t20.2.2.2.2.2.2.2.2.2.2.1 == a0_10) && ((t20.2.2.2.2.2.2.2.2.2.2.2.1 == a0_11) && ((t20.2.2.2.2.2.2.2.2.2.2.2.2.1 == a0_12) && ((t20.2.2.2.2.2.2.2.2.2.2.2.2.2.1 == a0_13) && ((t20.2.2.2.2.2.2.2.2.2.2.2.2.2.2.1 == a0_14) && ((t20.2.2.2.2.2.2.2.2.2.2.2.2.2.2.2.1 == a0_15) && ((t20.2.2.2.2.2.2.2.2.2.2.2.2.2.2.2.2.1 == a0_16) && ((t20.2.2.2.2.2.2.2.2.2.2.2.2.2.2.2.2.2.1 == a0_17) && ((t20.2.2.2.2.2.2.2.2.2.2.2.2.2.2.2.2.2.2.1 == a0_18) && ((t20.2.2.2.2.2.2.2.2.2.2.2.2.2.2.2.2.2.2.2.1 == a0_19) && ((t20.2.2.2.2.2.2.2.2.2.2.2.2.2.2.2.2.2.2.2.2.1 == a0_20) && ((t20.2.2.2.2.2.2.2.2.2.2.2.2.2.2.2.2.2.2.2.2.2.1 == a0_21) && (t20.2.2.2.2.2.2.2.2.2.2.2.2.2.2.2.2.2.2.2.2.2.2.1 == a0_22))))))))))))))))))))))) = true then ((carillonlaw00_SameTlvs.f k t20.2.2.2.2.2.2.2.2.2.2.2.2.2.2.2.2.2.2.2.2.2.2.2.1 l1).bind fun t44 => (if t44 = true then (if ((decide (t32.2.2.2.2.2.2.2.2.2.2.2.2.2.2.2.2.2.2.2.2.2.2.2.2 = 0)) == (decide (a2 = a0_1))) = true then (if (t12.1.size : Int) ≤ 400 then ((carillonlaw09_awake.f k ).bind fun t45 => (some t45)) else (some false)) else (some false)) else (some false))) else (some false)) else (some false)))) else (if (t12.1.toList == (⟨#[]⟩ : ByteArray).toList) = true then ((carillonlaw09_awake.f k ).bind fun t20 => (some t20)) else (some false))))) else ((carillonlaw09_awake.f k ).bind fun t11 => (some t11)))
open Go.Proofs.Ytiomlbkakiienaa.E in
set_option maxRecDepth 100000 in
theorem carillonlaw09_FrameBack.eql28 (x y : Operand) (w : World) (a0 a1 a2 a3 a4 a5 a6 a7 a8 a9 a10 a11 a12 a13 a14 a15 a16 a17 a18 a19 a20 a21 a22 b0 b1 b2 b3 b4 b5 b6 b7 b8 b9 b10 b11 b12 b13 b14 b15 b16 b17 b18 b19 b20 b21 b22 : Int) : (do eqGuard .eql 28 x y (.agg #[.int .i64 a0, .int .i64 a1, .int .i64 a2, .int .i64 a3, .int .u64 a4, .int .i64 a5, .int .i64 a6, .int .i64 a7, .int .i64 a8, .int .u64 a9, .int .i64 a10, .int .i64 a11, .int .i64 a12, .int .i64 a13, .int .i64 a14, .int .i64 a15, .int .i64 a16, .int .u64 a17, .int .i64 a18, .int .i64 a19, .int .i64 a20, .int .i64 a21, .int .i64 a22]) (.agg #[.int .i64 b0, .int .i64 b1, .int .i64 b2, .int .i64 b3, .int .u64 b4, .int .i64 b5, .int .i64 b6, .int .i64 b7, .int .i64 b8, .int .u64 b9, .int .i64 b10, .int .i64 b11, .int .i64 b12, .int .i64 b13, .int .i64 b14, .int .i64 b15, .int .i64 b16, .int .u64 b17, .int .i64 b18, .int .i64 b19, .int .i64 b20, .int .i64 b21, .int .i64 b22]); binOp .eql 28 (.agg #[.int .i64 a0, .int .i64 a1, .int .i64 a2, .int .i64 a3, .int .u64 a4, .int .i64 a5, .int .i64 a6, .int .i64 a7, .int .i64 a8, .int .u64 a9, .int .i64 a10, .int .i64 a11, .int .i64 a12, .int .i64 a13, .int .i64 a14, .int .i64 a15, .int .i64 a16, .int .u64 a17, .int .i64 a18, .int .i64 a19, .int .i64 a20, .int .i64 a21, .int .i64 a22]) (.agg #[.int .i64 b0, .int .i64 b1, .int .i64 b2, .int .i64 b3, .int .u64 b4, .int .i64 b5, .int .i64 b6, .int .i64 b7, .int .i64 b8, .int .u64 b9, .int .i64 b10, .int .i64 b11, .int .i64 b12, .int .i64 b13, .int .i64 b14, .int .i64 b15, .int .i64 b16, .int .u64 b17, .int .i64 b18, .int .i64 b19, .int .i64 b20, .int .i64 b21, .int .i64 b22]) : Sem Value).run Try.prog w = .ok (.bool ((a0 == b0) && ((a1 == b1) && ((a2 == b2) && ((a3 == b3) && ((a4 == b4) && ((a5 == b5) && ((a6 == b6) && ((a7 == b7) && ((a8 == b8) && ((a9 == b9) && ((a10 == b10) && ((a11 == b11) && ((a12 == b12) && ((a13 == b13) && ((a14 == b14) && ((a15 == b15) && ((a16 == b16) && ((a17 == b17) && ((a18 == b18) && ((a19 == b19) && ((a20 == b20) && ((a21 == b21) && (a22 == b22)))))))))))))))))))))))) w := by
  have hu3 := Try.underlying3
  have hu22 := Try.underlying22
  have hu24 := Try.underlying24
  have hu26 := Try.underlying26
  have hu28 := Try.underlying28
  conv => lhs; simp [eqGuard, go_sem, hu3, hu22, hu24, hu26, hu28]
  exact ite_and (ite_and (ite_and (ite_and (ite_and (ite_and (ite_and (ite_and (ite_and (ite_and (ite_and (ite_and (ite_and (ite_and (ite_and (ite_and (ite_and (ite_and (ite_and (ite_and (ite_and (ite_and (ite_last))))))))))))))))))))))
abbrev carillonlaw09_FrameBack.v0 (x0 x1 x2 x3 x4 x5 x6 x7 x8 x9 x10 x11 x12 x13 x14 x15 x16 x17 x18 x19 x20 x21 x22 : Int) : Value := .agg #[.int .i64 x0, .int .i64 x1, .int .i64 x2, .int .i64 x3, .int .u64 x4, .int .i64 x5, .int .i64 x6, .int .i64 x7, .int .i64 x8, .int .u64 x9, .int .i64 x10, .int .i64 x11, .int .i64 x12, .int .i64 x13, .int .i64 x14, .int .i64 x15, .int .i64 x16, .int .u64 x17, .int .i64 x18, .int .i64 x19, .int .i64 x20, .int .i64 x21, .int .i64 x22]
abbrev carillonlaw09_FrameBack.c1 (x0 x1 x2 x3 x4 x5 x6 x7 x8 x9 x10 x11 x12 x13 x14 x15 x16 x17 x18 x19 x20 x21 x22 : Int) : Array Value := #[.int .i64 x0, .int .i64 x1, .int .i64 x2, .int .i64 x3, .int .u64 x4, .int .i64 x5, .int .i64 x6, .int .i64 x7, .int .i64 x8, .int .u64 x9, .int .i64 x10, .int .i64 x11, .int .i64 x12, .int .i64 x13, .int .i64 x14, .int .i64 x15, .int .i64 x16, .int .u64 x17, .int .i64 x18, .int .i64 x19, .int .i64 x20, .int .i64 x21, .int .i64 x22]
open Go.Proofs.Ytiomlbkakiienaa.E in
set_option maxHeartbeats 60000000 in
set_option maxRecDepth 100000 in
theorem carillonlaw09_FrameBack.calls (k : Nat) (ap ao aq ar au av aw ax ay az aa ab ac ad ae af ag ah ai aj ak al am : Int) (A1 : Option Addr) (bt : Nat) (l1 : List (S43)) (a2 : Int) (w : World) (HR1 : Kd.C k43 w A1 l1.length l1) (HC1 : l1.length ≤ bt) (h : carillonlaw09_FrameBack.f k ap ao aq ar au av aw ax ay az aa ab ac ad ae af ag ah ai aj ak al am l1 a2 = some true) :
    Calls Try.prog 8 #[.agg #[.int .i64 ap, .int .i64 ao, .int .i64 aq, .int .i64 ar, .int .u64 au, .int .i64 av, .int .i64 aw, .int .i64 ax, .int .i64 ay, .int .u64 az, .int .i64 aa, .int .i64 ab, .int .i64 ac, .int .i64 ad, .int .i64 ae, .int .i64 af, .int .i64 ag, .int .u64 ah, .int .i64 ai, .int .i64 aj, .int .i64 ak, .int .i64 al, .int .i64 am], .slice A1 l1.length bt, .int .i64 a2] w fun e w' => e = .returned (.bool true) ∧ Below w.heap.size w w' := by
 have H := h
 clear h
 unfold carillonlaw09_FrameBack.f at H
 obtain ⟨t7, c8, H⟩ := Option.bind_eq_some_iff.mp H
 by_cases c1 : t7 = true
 rotate_left
 ·rw [if_neg c1] at H
  obtain ⟨bx, cc, H⟩ := Option.bind_eq_some_iff.mp H
  have hret := Option.some.inj H
  clear H
  refine calls_of_wp (fn := Try.f8) (by kernel_rfl) rfl ?_
  have hS := St.enter #[(carillonlaw09_FrameBack.v0 ap ao aq ar au av aw ax ay az aa ab ac ad ae af ag ah ai aj ak al am), .slice A1 l1.length bt, .int .i64 a2] 75 (by simp) [(0, (carillonlaw09_FrameBack.v0 ap ao aq ar au av aw ax ay az aa ab ac ad ae af ag ah ai aj ak al am)), (1, .slice A1 l1.length bt), (2, .int .i64 a2)] (by simp)
  have cf := Below.refl w.heap.size w
  refine wp_seq_k (fun K1 cv => ?_)
  refine reg_seq (I := I1_ w) (ps := [IsB (carillonlaw09_FrameBack.c1 ap ao aq ar au av aw ax ay az aa ab ac ad ae af ag ah ai aj ak al am) 28 w.heap.size, VB false]) (by kernel_rfl) ?_ ?_ rfl hS cf ?_ ?_
  ·exact bs1
  ·exact .cons (Stays.b _ _ _) (.v (.nil))
  ·refine .on rfl (fun a w hS hI hp => does_var (x_box rfl (congrArg Value.cells (hS.get 0 rfl))) (hI).size) ?_
   refine .on rfl (fun a w hS hI hp => does_val (x_assign rfl (rfl)) rfl) ?_
   exact .nil
  clear hS
  intro di w3 hS cA hp
  replace hS := ((hS.nil).cons (hS.get 2 rfl)).cons (hS.get 1 rfl)
  obtain ⟨g4, bP, cU, bc⟩ := (show IsB _ 28 _ (sl _ 3) _ from hp 0 (by decide))
  have hS := hS.cons bP
  clear hp bP
  refine cv _ _ ?_
  refine wp_seq_k (fun K5 cT => ?_)
  refine wp_seq_k (fun K6 cw => ?_)
  refine reg_seq (I := I2_ w w3) (ps := [IsV (.slice A1 l1.length bt), VB t7, VB (!t7)]) (by kernel_rfl) ?_ ?_ rfl hS ⟨cA, (bR w3)⟩ ?_ ?_
  ·exact bs2
  ·exact .v (.v (.v (.nil)))
  ·refine .ms 1 rfl rfl rfl ?_
   refine .on rfl (fun a w hS hI hp => does_call (by kernel_rfl) (ar1 (hp.V 0 rfl rfl)) ((carillonlaw09_few.calls k _ _ l1 t7 _ (Kd.C_below HR1 hI.1) HC1 c8).mono fun _ _ h => ⟨_, h.1, h.2.below, rfl⟩)) ?_
   refine .on rfl (fun a w hS hI hp => does_val (x_not rfl (hp.V 1 rfl rfl)) rfl) ?_
   exact .nil
  clear hS
  intro dj w9 hS bS hp
  have bv : sl _ 17 = .bool (!t7) := hp 2 (by decide)
  have hS := hS.cons bv
  clear hp bv
  refine cw _ _ ?_
  refine wp_cond_true ((hS.get 0 rfl).trans (bT (congrArg (!·) (Bool.eq_false_iff.2 c1)))) ?_
  refine wp_seq_k (fun dh bV => ?_)
  refine reg_seq (I := I3_ w w3 w9) (ps := [VB bx, VB bx]) (by kernel_rfl) ?_ ?_ rfl hS ⟨bS.1, bS.2, (bR w9)⟩ ?_ ?_
  ·exact bs3
  ·exact .v (.v (.nil))
  ·refine .on rfl (fun a w hS hI hp => does_call (by kernel_rfl) rfl ((carillonlaw09_awake.calls k  bx _  cc).mono fun _ _ h => ⟨_, h.1, h.2, rfl⟩)) ?_
   refine .asg 0 rfl rfl rfl rfl ?_
   exact .nil
  clear hS
  intro dS d7 hS dE hp
  replace hS := hS.nil
  have bQ : sl _ 6 = .bool bx := hp 1 (by decide)
  have hS := hS.cons bQ
  clear hp bQ
  refine bV _ _ ?_
  refine wp_ret ?_
  (try simp only [Exit.then, Exit.inBlock, Exit.jump, Exit.noGoto])
  exact bodyPost_ret (v := .bool true) (by rw [results_tmp rfl]; exact congrArg (Result.ok · _) ((hS.get 0 rfl).trans (congrArg Value.bool hret))) hS.nodef ⟨rfl, dE.1⟩
 rw [if_pos c1] at H
 obtain ⟨bx, cc, H⟩ := Option.bind_eq_some_iff.mp H
 obtain ⟨dO, c0, H⟩ := Option.bind_eq_some_iff.mp H
 obtain ⟨an, aA⟩ := dO
 (try dsimp only at H)
 by_cases c2 : aA = true
 rotate_left
 ·rw [if_neg c2] at H
  by_cases c3 : (an.toList == (⟨#[]⟩ : ByteArray).toList) = true
  rotate_left
  ·rw [if_neg c3] at H
   exact absurd H (by simp)
  rw [if_pos c3] at H
  obtain ⟨bZ, cF, H⟩ := Option.bind_eq_some_iff.mp H
  have hret := Option.some.inj H
  clear H
  refine calls_of_wp (fn := Try.f8) (by kernel_rfl) rfl ?_
  have hS := St.enter #[(carillonlaw09_FrameBack.v0 ap ao aq ar au av aw ax ay az aa ab ac ad ae af ag ah ai aj ak al am), .slice A1 l1.length bt, .int .i64 a2] 75 (by simp) [(0, (carillonlaw09_FrameBack.v0 ap ao aq ar au av aw ax ay az aa ab ac ad ae af ag ah ai aj ak al am)), (1, .slice A1 l1.length bt), (2, .int .i64 a2)] (by simp)
  have cf := Below.refl w.heap.size w
  refine wp_seq_k (fun K1 cv => ?_)
  refine reg_seq (I := I1_ w) (ps := [IsB (carillonlaw09_FrameBack.c1 ap ao aq ar au av aw ax ay az aa ab ac ad ae af ag ah ai aj ak al am) 28 w.heap.size, VB false]) (by kernel_rfl) ?_ ?_ rfl hS cf ?_ ?_
  ·exact bs1
  ·exact .cons (Stays.b _ _ _) (.v (.nil))
  ·refine .on rfl (fun a w hS hI hp => does_var (x_box rfl (congrArg Value.cells (hS.get 0 rfl))) (hI).size) ?_
   refine .on rfl (fun a w hS hI hp => does_val (x_assign rfl (rfl)) rfl) ?_
   exact .nil
  clear hS
  intro di w3 hS cA hp
  replace hS := ((hS.nil).cons (hS.get 2 rfl)).cons (hS.get 1 rfl)
  obtain ⟨g4, bP, cU, bc⟩ := (show IsB _ 28 _ (sl _ 3) _ from hp 0 (by decide))
  have hS := hS.cons bP
  clear hp bP
  refine cv _ _ ?_
  refine wp_seq_k (fun K5 cT => ?_)
  refine wp_seq_k (fun K6 cw => ?_)
  refine reg_seq (I := I2_ w w3) (ps := [IsV (.slice A1 l1.length bt), VB t7, VB (!t7)]) (by kernel_rfl) ?_ ?_ rfl hS ⟨cA, (bR w3)⟩ ?_ ?_
  ·exact bs2
  ·exact .v (.v (.v (.nil)))
  ·refine .ms 1 rfl rfl rfl ?_
   refine .on rfl (fun a w hS hI hp => does_call (by kernel_rfl) (ar1 (hp.V 0 rfl rfl)) ((carillonlaw09_few.calls k _ _ l1 t7 _ (Kd.C_below HR1 hI.1) HC1 c8).mono fun _ _ h => ⟨_, h.1, h.2.below, rfl⟩)) ?_
   refine .on rfl (fun a w hS hI hp => does_val (x_not rfl (hp.V 1 rfl rfl)) rfl) ?_
   exact .nil
  clear hS
  intro dj w9 hS bS hp
  have bv : sl _ 17 = .bool (!t7) := hp 2 (by decide)
  have hS := hS.cons bv
  clear hp bv
  refine cw _ _ ?_
  refine wp_cond_false ((hS.get 0 rfl).trans (bF (congrArg (!·) c1))) ?_
  refine wp_skip ?_
  refine cT _ _ ?_
  refine wp_seq_k (fun dh bV => ?_)
  refine reg_any (I := I3_ w w3 w9) (ps := [IsV ((carillonlaw09_FrameBack.v0 ap ao aq ar au av aw ax ay az aa ab ac ad ae af ag ah ai aj ak al am)), IsV (.slice A1 l1.length bt), IsR k43 43 w9.heap.size bx, IsV (.tuple #[.string an, .bool aA]), IsV (.tuple #[.string an, .bool aA]), IsV (.string an), VB aA, IsV (.string an), VB aA]) (by kernel_rfl) (by kernel_rfl) ?_ ?_ rfl hS ⟨bS.1, bS.2, (bR w9)⟩ ?_ ?_
  ·exact bs3
  ·exact .v (.v (.cons (Stays.r _ _ _ _) (.v (.v (.v (.v (.v (.v (.nil)))))))))
  ·refine .on rfl (fun a w hS hI hp => does_loadrow rfl (hS.get 1 rfl) (((hI.2.1).block g4 (blk_lt bc)).trans bc) Try.underlying28 rfl (by kernel_rfl) rfl) ?_
   refine .ms 2 rfl rfl rfl ?_
   refine .on rfl (fun a w hS hI hp => does_call (by kernel_rfl) (ar1 (hp.V 1 rfl rfl)) ((carillonlaw00_Tlvs.calls _ _ l1 bx _ (Kd.C_below HR1 hI.1) HC1 cc).mono fun _ _ h => h.elim fun v0 h => ⟨v0, h.1, h.2.2, Kd.R_lower h.2.1 hI.2.2.size⟩)) ?_
   refine .on rfl (fun a w hS hI hp => (IsC.of_r (hp.V 2 rfl rfl)).elim fun A_ h_ => h_.elim fun c_ h_ => h_.elim fun hv_ h_ => h_.elim fun hl_ hc_ => does_call (by kernel_rfl) (ar2 (hp.V 0 rfl rfl) (hv_)) ((frame_Put.calls k ap ao aq ar au av aw ax ay az aa ab ac ad ae af ag ah ai aj ak al am _ _ bx an aA _ hc_ hl_ c0).mono fun _ _ h => ⟨_, h.1, h.2, rfl⟩)) ?_
   refine .mv 3 rfl rfl rfl rfl ?_
   iterate 2 refine .on rfl (fun a w hS hI hp => does_val (x_extract rfl (hp.V 4 rfl rfl) rfl) rfl) ?_
   refine .asg 5 rfl rfl rfl rfl ?_
   refine .asg 6 rfl rfl rfl rfl ?_
   exact .nil
  clear hS
  intro dt cD hS bY hp
  replace hS := (((hS.nil).cons (hS.get 3 rfl)).cons (hS.get 2 rfl)).cons (hS.get 1 rfl)
  have cy : sl _ 7 = .string an := hp 7 (by decide)
  have cz : sl _ 8 = .bool aA := hp 8 (by decide)
  have hS := hS.cons cy
  have hS := hS.cons cz
  clear hp cy cz
  refine bV _ _ ?_
  refine wp_seq_k (fun dK da => ?_)
  refine wp_seq_k (fun dL cM => ?_)
  refine reg_seq (I := I3_ w w3 cD) (ps := [VB aA, VB (!aA)]) (by kernel_rfl) ?_ ?_ rfl hS ⟨bY.1, bY.2.1, (bR cD)⟩ ?_ ?_
  ·exact bs3
  ·exact .v (.v (.nil))
  ·refine .ms 0 rfl rfl rfl ?_
   refine .on rfl (fun a w hS hI hp => does_val (x_not rfl (hp.V 0 rfl rfl)) rfl) ?_
   exact .nil
  clear hS
  intro du bs hS bJ hp
  replace hS := ((((hS.nil).cons (hS.get 4 rfl)).cons (hS.get 3 rfl)).cons (hS.get 2 rfl)).cons (hS.get 1 rfl)
  have bX : sl _ 27 = .bool (!aA) := hp 1 (by decide)
  have hS := hS.cons bX
  clear hp bX
  refine cM _ _ ?_
  refine wp_cond_true ((hS.get 0 rfl).trans (bT (congrArg (!·) (Bool.eq_false_iff.2 c2)))) ?_
  refine wp_seq_k (fun dM cN => ?_)
  refine reg_seq (I := I3_ w w3 bs) (ps := [IsV (.string an), VB (an.toList == (⟨#[]⟩ : ByteArray).toList), VB (an.toList == (⟨#[]⟩ : ByteArray).toList), VB bZ, VB bZ, VB bZ]) (by kernel_rfl) ?_ ?_ rfl hS ⟨bJ.1, bJ.2.1, (bR bs)⟩ ?_ ?_
  ·exact bs3
  ·exact .v (.v (.v (.v (.v (.v (.nil))))))
  ·refine .ms 1 rfl rfl rfl ?_
   refine .on rfl (fun a w hS hI hp => does_val (x_bin rfl (hp.V 0 rfl rfl) (rfl) (b_eqs _ _ _ _ _)) rfl) ?_
   refine .mv 1 rfl rfl rfl rfl ?_
   refine .oy 2 30 rfl rfl rfl rfl rfl c3 (fun a w hS hI hp => does_call (by kernel_rfl) rfl ((carillonlaw09_awake.calls k  bZ _  cF).mono fun _ _ h => ⟨_, h.1, h.2, rfl⟩)) ?_
   refine .pt 2 3 rfl rfl rfl rfl c3 rfl rfl ?_
   refine .asg 4 rfl rfl rfl rfl ?_
   exact .nil
  clear hS
  intro dv cb hS bw hp
  replace hS := hS.nil
  have bQ : sl _ 6 = .bool bZ := hp 5 (by decide)
  have hS := hS.cons bQ
  clear hp bQ
  refine cN _ _ ?_
  refine wp_ret ?_
  (try simp only [Exit.then, Exit.inBlock, Exit.jump, Exit.noGoto])
  exact bodyPost_ret (v := .bool true) (by rw [results_tmp rfl]; exact congrArg (Result.ok · _) ((hS.get 0 rfl).trans (congrArg Value.bool hret))) hS.nodef ⟨rfl, bw.1⟩
 rw [if_pos c2] at H
 obtain ⟨bZ, cF, H⟩ := Option.bind_eq_some_iff.mp H
 obtain ⟨aT, aU, aV, aW, aX, aY, aZ, ba, bb, aC, aD, aE, aF, aG, aH, aI, aJ, aK, aL, aM, aN, aO, aP, aQ, aR⟩ := bZ
 (try dsimp only at H)
 obtain ⟨dP, dq, H⟩ := Option.bind_eq_some_iff.mp H
 obtain ⟨bz, bA, bB, bC, bD, bE, bG, bH, bI, be, bf, bg, bh, bi, bj, bk, bl, bm, bn, bo, bp, bq, br, aS, aB⟩ := dP
 (try dsimp only at H)
 by_cases c3 : aR = 0
 rotate_left
 ·rw [if_neg c3] at H
  exact absurd H (by simp)
 rw [if_pos c3] at H
 by_cases c4 : ((aT == ap) && ((aU == ao) && ((aV == aq) && ((aW == ar) && ((aX == au) && ((aY == av) && ((aZ == aw) && ((ba == ax) && ((bb == ay) && ((aC == az) && ((aD == aa) && ((aE == ab) && ((aF == ac) && ((aG == ad) && ((aH == ae) && ((aI == af) && ((aJ == ag) && ((aK == ah) && ((aL == ai) && ((aM == aj) && ((aN == ak) && ((aO == al) && (aP == am))))))))))))))))))))))) = true
 rotate_left
 ·rw [if_neg c4] at H
  exact absurd H (by simp)
 rw [if_pos c4] at H
 obtain ⟨cB, dr, H⟩ := Option.bind_eq_some_iff.mp H
 by_cases c5 : cB = true
 rotate_left
 ·rw [if_neg c5] at H
  exact absurd H (by simp)
 rw [if_pos c5] at H
 by_cases c6 : ((decide (aB = 0)) == (decide (a2 = ao))) = true
 rotate_left
 ·rw [if_neg c6] at H
  exact absurd H (by simp)
 rw [if_pos c6] at H
 by_cases c7 : (an.size : Int) ≤ 400
 rotate_left
 ·rw [if_neg c7] at H
  exact absurd H (by simp)
 rw [if_pos c7] at H
 obtain ⟨cC, ds, H⟩ := Option.bind_eq_some_iff.mp H
 have hret := Option.some.inj H
 clear H
 refine calls_of_wp (fn := Try.f8) (by kernel_rfl) rfl ?_
 have hS := St.enter #[(carillonlaw09_FrameBack.v0 ap ao aq ar au av aw ax ay az aa ab ac ad ae af ag ah ai aj ak al am), .slice A1 l1.length bt, .int .i64 a2] 75 (by simp) [(0, (carillonlaw09_FrameBack.v0 ap ao aq ar au av aw ax ay az aa ab ac ad ae af ag ah ai aj ak al am)), (1, .slice A1 l1.length bt), (2, .int .i64 a2)] (by simp)
 have cf := Below.refl w.heap.size w
 refine wp_seq_k (fun K1 cv => ?_)
 refine reg_seq (I := I1_ w) (ps := [IsB (carillonlaw09_FrameBack.c1 ap ao aq ar au av aw ax ay az aa ab ac ad ae af ag ah ai aj ak al am) 28 w.heap.size, VB false]) (by kernel_rfl) ?_ ?_ rfl hS cf ?_ ?_
 ·exact bs1
 ·exact .cons (Stays.b _ _ _) (.v (.nil))
 ·refine .on rfl (fun a w hS hI hp => does_var (x_box rfl (congrArg Value.cells (hS.get 0 rfl))) (hI).size) ?_
  refine .on rfl (fun a w hS hI hp => does_val (x_assign rfl (rfl)) rfl) ?_
  exact .nil
 clear hS
 intro di w3 hS cA hp
 replace hS := ((hS.nil).cons (hS.get 2 rfl)).cons (hS.get 1 rfl)
 obtain ⟨g4, bP, cU, bc⟩ := (show IsB _ 28 _ (sl _ 3) _ from hp 0 (by decide))
 have hS := hS.cons bP
 clear hp bP
 refine cv _ _ ?_
 refine wp_seq_k (fun K5 cT => ?_)
 refine wp_seq_k (fun K6 cw => ?_)
 refine reg_seq (I := I2_ w w3) (ps := [IsV (.slice A1 l1.length bt), VB t7, VB (!t7)]) (by kernel_rfl) ?_ ?_ rfl hS ⟨cA, (bR w3)⟩ ?_ ?_
 ·exact bs2
 ·exact .v (.v (.v (.nil)))
 ·refine .ms 1 rfl rfl rfl ?_
  refine .on rfl (fun a w hS hI hp => does_call (by kernel_rfl) (ar1 (hp.V 0 rfl rfl)) ((carillonlaw09_few.calls k _ _ l1 t7 _ (Kd.C_below HR1 hI.1) HC1 c8).mono fun _ _ h => ⟨_, h.1, h.2.below, rfl⟩)) ?_
  refine .on rfl (fun a w hS hI hp => does_val (x_not rfl (hp.V 1 rfl rfl)) rfl) ?_
  exact .nil
 clear hS
 intro dj w9 hS bS hp
 have bv : sl _ 17 = .bool (!t7) := hp 2 (by decide)
 have hS := hS.cons bv
 clear hp bv
 refine cw _ _ ?_
 refine wp_cond_false ((hS.get 0 rfl).trans (bF (congrArg (!·) c1))) ?_
 refine wp_skip ?_
 refine cT _ _ ?_
 refine wp_seq_k (fun dh bV => ?_)
 refine reg_any (I := I3_ w w3 w9) (ps := [IsV ((carillonlaw09_FrameBack.v0 ap ao aq ar au av aw ax ay az aa ab ac ad ae af ag ah ai aj ak al am)), IsV (.slice A1 l1.length bt), IsR k43 43 w9.heap.size bx, IsV (.tuple #[.string an, .bool aA]), IsV (.tuple #[.string an, .bool aA]), IsV (.string an), VB aA, IsV (.string an), VB aA]) (by kernel_rfl) (by kernel_rfl) ?_ ?_ rfl hS ⟨bS.1, bS.2, (bR w9)⟩ ?_ ?_
 ·exact bs3
 ·exact .v (.v (.cons (Stays.r _ _ _ _) (.v (.v (.v (.v (.v (.v (.nil)))))))))
 ·refine .on rfl (fun a w hS hI hp => does_loadrow rfl (hS.get 1 rfl) (((hI.2.1).block g4 (blk_lt bc)).trans bc) Try.underlying28 rfl (by kernel_rfl) rfl) ?_
  refine .ms 2 rfl rfl rfl ?_
  refine .on rfl (fun a w hS hI hp => does_call (by kernel_rfl) (ar1 (hp.V 1 rfl rfl)) ((carillonlaw00_Tlvs.calls _ _ l1 bx _ (Kd.C_below HR1 hI.1) HC1 cc).mono fun _ _ h => h.elim fun v0 h => ⟨v0, h.1, h.2.2, Kd.R_lower h.2.1 hI.2.2.size⟩)) ?_
  refine .on rfl (fun a w hS hI hp => (IsC.of_r (hp.V 2 rfl rfl)).elim fun A_ h_ => h_.elim fun c_ h_ => h_.elim fun hv_ h_ => h_.elim fun hl_ hc_ => does_call (by kernel_rfl) (ar2 (hp.V 0 rfl rfl) (hv_)) ((frame_Put.calls k ap ao aq ar au av aw ax ay az aa ab ac ad ae af ag ah ai aj ak al am _ _ bx an aA _ hc_ hl_ c0).mono fun _ _ h => ⟨_, h.1, h.2, rfl⟩)) ?_
  refine .mv 3 rfl rfl rfl rfl ?_
  iterate 2 refine .on rfl (fun a w hS hI hp => does_val (x_extract rfl (hp.V 4 rfl rfl) rfl) rfl) ?_
  refine .asg 5 rfl rfl rfl rfl ?_
  refine .asg 6 rfl rfl rfl rfl ?_
  exact .nil
 clear hS
 intro dt cD hS bY hp
 replace hS := (((hS.nil).cons (hS.get 3 rfl)).cons (hS.get 2 rfl)).cons (hS.get 1 rfl)
 have cy : sl _ 7 = .string an := hp 7 (by decide)
 have cz : sl _ 8 = .bool aA := hp 8 (by decide)
 have hS := hS.cons cy
 have hS := hS.cons cz
 clear hp cy cz
 refine bV _ _ ?_
 refine wp_seq_k (fun dK da => ?_)
 refine wp_seq_k (fun dL cM => ?_)
 refine reg_seq (I := I3_ w w3 cD) (ps := [VB aA, VB (!aA)]) (by kernel_rfl) ?_ ?_ rfl hS ⟨bY.1, bY.2.1, (bR cD)⟩ ?_ ?_
 ·exact bs3
 ·exact .v (.v (.nil))
 ·refine .ms 0 rfl rfl rfl ?_
  refine .on rfl (fun a w hS hI hp => does_val (x_not rfl (hp.V 0 rfl rfl)) rfl) ?_
  exact .nil
 clear hS
 intro du bs hS bJ hp
 replace hS := ((((hS.nil).cons (hS.get 4 rfl)).cons (hS.get 3 rfl)).cons (hS.get 2 rfl)).cons (hS.get 1 rfl)
 have bX : sl _ 27 = .bool (!aA) := hp 1 (by decide)
 have hS := hS.cons bX
 clear hp bX
 refine cM _ _ ?_
 refine wp_cond_false ((hS.get 0 rfl).trans (bF (congrArg (!·) c2))) ?_
 refine wp_skip ?_
 refine da _ _ ?_
 refine wp_seq_k (fun dM cN => ?_)
 refine reg_seq_tail 7 (I := I3_ w w3 bs) (ps := [IsV (.string an), IsT (fun v0_ => #[(carillonlaw09_FrameBack.v0 aT aU aV aW aX aY aZ ba bb aC aD aE aF aG aH aI aJ aK aL aM aN aO aP), v0_, .int .i64 aR]) (IsR k43 43 bs.heap.size aQ), IsT (fun v0_ => #[(carillonlaw09_FrameBack.v0 aT aU aV aW aX aY aZ ba bb aC aD aE aF aG aH aI aJ aK aL aM aN aO aP), v0_, .int .i64 aR]) (IsR k43 43 bs.heap.size aQ), IsV ((carillonlaw09_FrameBack.v0 aT aU aV aW aX aY aZ ba bb aC aD aE aF aG aH aI aJ aK aL aM aN aO aP)), IsR k43 43 bs.heap.size aQ, VI aR, IsB (carillonlaw09_FrameBack.c1 0 0 0 0 0 0 0 0 0 0 0 0 0 0 0 0 0 0 0 0 0 0 0) 28 bs.heap.size]) (by kernel_rfl) ?_ ?_ rfl hS ⟨bJ.1, bJ.2.1, (bR bs)⟩ ?_ ?_
 ·exact bs3
 ·exact .v (.cons (Stays.t _ (Stays.r _ _ _ _)) (.cons (Stays.t _ (Stays.r _ _ _ _)) (.v (.cons (Stays.r _ _ _ _) (.v (.cons (Stays.b _ _ _) (.nil)))))))
 ·refine .ms 1 rfl rfl rfl ?_
  refine .on rfl (fun a w hS hI hp => does_call (by kernel_rfl) (ar1 (hp.V 0 rfl rfl)) ((frame_Get.calls k an aT aU aV aW aX aY aZ ba bb aC aD aE aF aG aH aI aJ aK aL aM aN aO aP aQ aR _  cF).mono fun _ _ h => h.elim fun v0 h => ⟨_, h.1, h.2.2, v0, rfl, Kd.R_lower h.2.1 hI.2.2.size⟩)) ?_
  refine .on rfl (fun a w hS hI hp => does_val (x_move rfl rfl) (hp.V 1 rfl rfl)) ?_
  refine .on rfl (fun a w hS hI hp => (hp.V 2 rfl rfl).elim fun v0 h0 => does_val (x_extract rfl h0.1 rfl) rfl) ?_
  refine .on rfl (fun a w hS hI hp => (hp.V 2 rfl rfl).elim fun v0 h0 => does_val (x_extract rfl h0.1 rfl) h0.2) ?_
  refine .on rfl (fun a w hS hI hp => (hp.V 2 rfl rfl).elim fun v0 h0 => does_val (x_extract rfl h0.1 rfl) rfl) ?_
  refine .on rfl (fun a w hS hI hp => does_var (x_alloc rfl (by kernel_rfl)) (hI.2.2).size) ?_
  exact .nil
 clear hS
 intro dv cb hS bw hp
 replace hS := ((((hS.nil).cons (hS.get 4 rfl)).cons (hS.get 3 rfl)).cons (hS.get 2 rfl)).cons (hS.get 1 rfl)
 have dc : sl _ 36 = (carillonlaw09_FrameBack.v0 aT aU aV aW aX aY aZ ba bb aC aD aE aF aG aH aI aJ aK aL aM aN aO aP) := hp 3 (by decide)
 obtain ⟨cd, ce, cO, dz, dZ⟩ := Kd.R_reads (show Kd.R k43 43 cb bs.heap.size (fun _ => True) (sl _ 37) aQ from hp 4 (by decide))
 have dA : Kd.R k43 43 cb bs.heap.size (fun _ => True) (.slice cd aQ.length ce) aQ := cO ▸ (hp 4 (by decide))
 have dd : sl _ 38 = .int .i64 aR := hp 5 (by decide)
 obtain ⟨cS, dm, bW, bK⟩ := (show IsB _ 28 _ (sl _ 9) _ from hp 6 (by decide))
 have hS := hS.cons dc
 have hS := hS.cons cO
 have hS := hS.cons dd
 have hS := hS.cons dm
 clear hp dc cO dd dm
 show wpList _ _ _ [_, _, _] _ _
 refine list_step rfl (does_storeAll (g := cS) (cs := (carillonlaw09_FrameBack.c1 aT aU aV aW aX aY aZ ba bb aC aD aE aF aG aH aI aJ aK aL aM aN aO aP)) rfl (hS.get 0 rfl) (hS.get 3 rfl) (((bR cb).block cS (blk_lt bK)).trans bK) (by kernel_rfl) (by kernel_rfl) (by kernel_rfl)) ?_
 rintro d3 dg ⟨rfl, cx, hT⟩
 have dB := hT.rowT rfl (((bR cb).block cS (blk_lt bK)).trans bK) (Kd.R_below dA (bR cb)) (by decide)
 have dy := (Kd.R_reads' dB).2.2
 have cV := hT.below bw.1 (Nat.le_trans (bJ.1).size bW) (bw.1).size
 have cH := hT.below bw.2.1 (Nat.le_trans (bJ.2.1).size bW) (bw.2.1).size
 have cg := hT.below bw.2.2 bW (bw.2.2).size
 clear hT
 refine list_step rfl (R := fun v w' => Below _ _ w' ∧ (IsV (.slice cd aQ.length ce)) v w') (does_val (x_assign rfl (hS.get 2 rfl)) rfl) ?_
 rintro dG dQ ⟨hb, he⟩
 have cW := below_step cV hb
 have cI := below_step cH hb
 have ch := below_step cg hb
 have ci := below_step (bR dg) hb
 obtain rfl : dG = .slice cd aQ.length ce := he
 refine hS.next (v := .slice cd aQ.length ce) (d := 10) rfl (by decide) (by rfl) ?_
 clear hS
 intro dT hS
 refine list_step rfl (R := fun v w' => Below _ _ w' ∧ (VI aR) v w') (does_val (x_assign rfl (hS.get 2 rfl)) rfl) ?_
 rintro dH bM ⟨hb, he⟩
 have ca := below_step cW hb
 have bU := below_step cI hb
 have bN := below_step ch hb
 have bO := below_step ci hb
 have dk := below_step (bR dQ) hb
 obtain rfl : dH = .int .i64 aR := he
 refine hS.next (v := .int .i64 aR) (d := 11) rfl (by decide) (by rfl) ?_
 clear hS
 intro dU hS
 refine wpList_nil ?_
 refine cN _ _ ?_
 refine wp_seq_k (fun d5 dw => ?_)
 refine reg_seq_tail 8 (I := I5_ w w3 bs dg bM) (ps := [IsV (.string an), VI a2, IsT (fun v0_ => #[(carillonlaw09_FrameBack.v0 bz bA bB bC bD bE bG bH bI be bf bg bh bi bj bk bl bm bn bo bp bq br), v0_, .int .i64 aB]) (IsR k43 43 bM.heap.size aS), IsT (fun v0_ => #[(carillonlaw09_FrameBack.v0 bz bA bB bC bD bE bG bH bI be bf bg bh bi bj bk bl bm bn bo bp bq br), v0_, .int .i64 aB]) (IsR k43 43 bM.heap.size aS), IsV ((carillonlaw09_FrameBack.v0 bz bA bB bC bD bE bG bH bI be bf bg bh bi bj bk bl bm bn bo bp bq br)), IsR k43 43 bM.heap.size aS, VI aB, IsB (carillonlaw09_FrameBack.c1 0 0 0 0 0 0 0 0 0 0 0 0 0 0 0 0 0 0 0 0 0 0 0) 28 bM.heap.size]) (by kernel_rfl) ?_ ?_ rfl hS ⟨ca, bU, bN, bO, (bR bM)⟩ ?_ ?_
 ·exact bs5
 ·exact .v (.v (.cons (Stays.t _ (Stays.r _ _ _ _)) (.cons (Stays.t _ (Stays.r _ _ _ _)) (.v (.cons (Stays.r _ _ _ _) (.v (.cons (Stays.b _ _ _) (.nil))))))))
 ·refine .ms 6 rfl rfl rfl ?_
  refine .ms 9 rfl rfl rfl ?_
  refine .on rfl (fun a w hS hI hp => does_call (by kernel_rfl) (ar2 (hp.V 0 rfl rfl) (hp.V 1 rfl rfl)) ((frame_Here.calls k an a2 bz bA bB bC bD bE bG bH bI be bf bg bh bi bj bk bl bm bn bo bp bq br aS aB _  dq).mono fun _ _ h => h.elim fun v0 h => ⟨_, h.1, h.2.2, v0, rfl, Kd.R_lower h.2.1 hI.2.2.2.2.size⟩)) ?_
  refine .on rfl (fun a w hS hI hp => does_val (x_move rfl rfl) (hp.V 2 rfl rfl)) ?_
  refine .on rfl (fun a w hS hI hp => (hp.V 3 rfl rfl).elim fun v0 h0 => does_val (x_extract rfl h0.1 rfl) rfl) ?_
  refine .on rfl (fun a w hS hI hp => (hp.V 3 rfl rfl).elim fun v0 h0 => does_val (x_extract rfl h0.1 rfl) h0.2) ?_
  refine .on rfl (fun a w hS hI hp => (hp.V 3 rfl rfl).elim fun v0 h0 => does_val (x_extract rfl h0.1 rfl) rfl) ?_
  refine .on rfl (fun a w hS hI hp => does_var (x_alloc rfl (by kernel_rfl)) (hI.2.2.2.2).size) ?_
  exact .nil
 clear hS
 intro dV cE hS bd hp
 replace hS := (((((((hS.nil).cons (hS.get 9 rfl)).cons (hS.get 8 rfl)).cons (hS.get 7 rfl)).cons (hS.get 6 rfl)).cons (hS.get 2 rfl)).cons (hS.get 1 rfl)).cons (hS.get 0 rfl)
 have de : sl _ 43 = (carillonlaw09_FrameBack.v0 bz bA bB bC bD bE bG bH bI be bf bg bh bi bj bk bl bm bn bo bp bq br) := hp 4 (by decide)
 obtain ⟨cQ, cR, cP, d2, d0⟩ := Kd.R_reads (show Kd.R k43 43 cE bM.heap.size (fun _ => True) (sl _ 44) aS from hp 5 (by decide))
 have dC : Kd.R k43 43 cE bM.heap.size (fun _ => True) (.slice cQ aS.length cR) aS := cP ▸ (hp 5 (by decide))
 have df : sl _ 45 = .int .i64 aB := hp 6 (by decide)
 obtain ⟨c9, db, bu, bL⟩ := (show IsB _ 28 _ (sl _ 12) _ from hp 7 (by decide))
 have hS := hS.cons de
 have hS := hS.cons cP
 have hS := hS.cons df
 have hS := hS.cons db
 clear hp de cP df db
 show wpList _ _ _ [_, _, _] _ _
 refine list_step rfl (does_storeAll (g := c9) (cs := (carillonlaw09_FrameBack.c1 bz bA bB bC bD bE bG bH bI be bf bg bh bi bj bk bl bm bn bo bp bq br)) rfl (hS.get 0 rfl) (hS.get 3 rfl) (((bR cE).block c9 (blk_lt bL)).trans bL) (by kernel_rfl) (by kernel_rfl) (by kernel_rfl)) ?_
 rintro d4 dn ⟨rfl, dN, hT⟩
 have dD := hT.rowT rfl (((bR cE).block c9 (blk_lt bL)).trans bL) (Kd.R_below dC (bR cE)) (by decide)
 have d1 := (Kd.R_reads' dD).2.2
 have cX := hT.below bd.1 (Nat.le_trans (ca).size bu) (bd.1).size
 have cJ := hT.below bd.2.1 (Nat.le_trans (bU).size bu) (bd.2.1).size
 have cj := hT.below bd.2.2.1 (Nat.le_trans (bN).size bu) (bd.2.2.1).size
 have ck := hT.below bd.2.2.2.1 (Nat.le_trans (bO).size bu) (bd.2.2.2.1).size
 have cl := hT.below bd.2.2.2.2 bu (bd.2.2.2.2).size
 clear hT
 refine list_step rfl (R := fun v w' => Below _ _ w' ∧ (IsV (.slice cQ aS.length cR)) v w') (does_val (x_assign rfl (hS.get 2 rfl)) rfl) ?_
 rintro dI dR ⟨hb, he⟩
 have cY := below_step cX hb
 have cK := below_step cJ hb
 have cm := below_step cj hb
 have cn := below_step ck hb
 have co := below_step cl hb
 have cp := below_step (bR dn) hb
 obtain rfl : dI = .slice cQ aS.length cR := he
 refine hS.next (v := .slice cQ aS.length cR) (d := 13) rfl (by decide) (by rfl) ?_
 clear hS
 intro dW hS
 refine list_step rfl (R := fun v w' => Below _ _ w' ∧ (VI aB) v w') (does_val (x_assign rfl (hS.get 2 rfl)) rfl) ?_
 rintro dJ dp ⟨hb, he⟩
 have cZ := below_step cY hb
 have cL := below_step cK hb
 have cq := below_step cm hb
 have cr := below_step cn hb
 have ct := below_step co hb
 have cu := below_step cp hb
 have dl := below_step (bR dR) hb
 obtain rfl : dJ = .int .i64 aB := he
 refine hS.next (v := .int .i64 aB) (d := 14) rfl (by decide) (by rfl) ?_
 clear hS
 intro dX hS
 refine wpList_nil ?_
 refine dw _ _ ?_
 refine wp_seq_k (fun d6 dx => ?_)
 refine reg_seq (I := I7_ w w3 bs dg bM dn dp) (ps := [VI aR, VB (decide (aR = 0)), VB (decide (aR = 0)), IsV ((carillonlaw09_FrameBack.v0 aT aU aV aW aX aY aZ ba bb aC aD aE aF aG aH aI aJ aK aL aM aN aO aP)), IsV ((carillonlaw09_FrameBack.v0 ap ao aq ar au av aw ax ay az aa ab ac ad ae af ag ah ai aj ak al am)), VB ((aT == ap) && ((aU == ao) && ((aV == aq) && ((aW == ar) && ((aX == au) && ((aY == av) && ((aZ == aw) && ((ba == ax) && ((bb == ay) && ((aC == az) && ((aD == aa) && ((aE == ab) && ((aF == ac) && ((aG == ad) && ((aH == ae) && ((aI == af) && ((aJ == ag) && ((aK == ah) && ((aL == ai) && ((aM == aj) && ((aN == ak) && ((aO == al) && (aP == am))))))))))))))))))))))), VB ((aT == ap) && ((aU == ao) && ((aV == aq) && ((aW == ar) && ((aX == au) && ((aY == av) && ((aZ == aw) && ((ba == ax) && ((bb == ay) && ((aC == az) && ((aD == aa) && ((aE == ab) && ((aF == ac) && ((aG == ad) && ((aH == ae) && ((aI == af) && ((aJ == ag) && ((aK == ah) && ((aL == ai) && ((aM == aj) && ((aN == ak) && ((aO == al) && (aP == am))))))))))))))))))))))), VB ((aT == ap) && ((aU == ao) && ((aV == aq) && ((aW == ar) && ((aX == au) && ((aY == av) && ((aZ == aw) && ((ba == ax) && ((bb == ay) && ((aC == az) && ((aD == aa) && ((aE == ab) && ((aF == ac) && ((aG == ad) && ((aH == ae) && ((aI == af) && ((aJ == ag) && ((aK == ah) && ((aL == ai) && ((aM == aj) && ((aN == ak) && ((aO == al) && (aP == am))))))))))))))))))))))), IsV (.slice cd aQ.length ce), IsV (.slice A1 l1.length bt), VB cB, VB cB, VB cB, VI aB, VB (decide (aB = 0)), VI a2, VP g4 1, VI ao, VB (decide (a2 = ao)), VB ((decide (aB = 0)) == (decide (a2 = ao))), VB ((decide (aB = 0)) == (decide (a2 = ao))), VB ((decide (aB = 0)) == (decide (a2 = ao))), IsV (.string an), VI (an.size : Int), VB (decide ((an.size : Int) ≤ 400)), VB (decide ((an.size : Int) ≤ 400)), VB (decide ((an.size : Int) ≤ 400)), VB cC, VB cC, VB cC]) (by kernel_rfl) ?_ ?_ rfl hS ⟨cZ, cL, cq, cr, ct, cu, (bR dp)⟩ ?_ ?_
 ·exact bs7
 ·exact .v (.v (.v (.v (.v (.v (.v (.v (.v (.v (.v (.v (.v (.v (.v (.v (.v (.v (.v (.v (.v (.v (.v (.v (.v (.v (.v (.v (.v (.v (.nil))))))))))))))))))))))))))))))
 ·refine .ms 6 rfl rfl rfl ?_
  refine .on rfl (fun a w hS hI hp => does_val (x_bin rfl (hp.V 0 rfl rfl) (rfl) (b_eql _ _ _ _ _ _)) rfl) ?_
  refine .mv 1 rfl rfl rfl rfl ?_
  refine .oy 2 48 rfl rfl rfl rfl rfl ((decide_eq_true c3)) (fun a w hS hI hp => does_loadrow rfl (hS.get 8 rfl) (((hI.2.2.2.1).block cS (blk_lt cx)).trans cx) Try.underlying28 rfl (by kernel_rfl) rfl) ?_
  refine .oy 2 48 rfl rfl rfl rfl rfl ((decide_eq_true c3)) (fun a w hS hI hp => does_loadrow rfl (hS.get 10 rfl) (((hI.2.1).block g4 (blk_lt bc)).trans bc) Try.underlying28 rfl (by kernel_rfl) rfl) ?_
  refine .oy 2 48 rfl rfl rfl rfl rfl ((decide_eq_true c3)) (fun a w hS hI hp => does_val (x_bin rfl (hp.V 3 rfl rfl) (hp.V 4 rfl rfl) (carillonlaw09_FrameBack.eql28 _ _ _ aT aU aV aW aX aY aZ ba bb aC aD aE aF aG aH aI aJ aK aL aM aN aO aP ap ao aq ar au av aw ax ay az aa ab ac ad ae af ag ah ai aj ak al am)) rfl) ?_
  refine .pt 2 5 rfl rfl rfl rfl ((decide_eq_true c3)) rfl rfl ?_
  refine .mv 6 rfl rfl rfl rfl ?_
  refine .oy 7 53 rfl rfl rfl rfl rfl c4 (fun a w hS hI hp => does_val (x_move rfl (hS.get 7 rfl)) rfl) ?_
  refine .oy 7 53 rfl rfl rfl rfl rfl c4 (fun a w hS hI hp => does_val (x_move rfl (hS.get 11 rfl)) rfl) ?_
  refine .oy 7 53 rfl rfl rfl rfl rfl c4 (fun a w hS hI hp => does_call (by kernel_rfl) (ar2 (hp.V 8 rfl rfl) (hp.V 9 rfl rfl)) ((carillonlaw00_SameTlvs.calls k _ _ aQ _ _ l1 cB _ (Kd.C_below dy hI.2.2.2.1) dz (Kd.C_below HR1 hI.1) HC1 dr).mono fun _ _ h => ⟨_, h.1, h.2.below, rfl⟩)) ?_
  refine .pt 7 10 rfl rfl rfl rfl c4 rfl rfl ?_
  refine .mv 11 rfl rfl rfl rfl ?_
  refine .oy 12 58 rfl rfl rfl rfl rfl c5 (fun a w hS hI hp => does_val (x_move rfl (hS.get 0 rfl)) rfl) ?_
  refine .oy 12 58 rfl rfl rfl rfl rfl c5 (fun a w hS hI hp => does_val (x_bin rfl (hp.V 13 rfl rfl) (rfl) (b_eql _ _ _ _ _ _)) rfl) ?_
  refine .oy 12 58 rfl rfl rfl rfl rfl c5 (fun a w hS hI hp => does_val (x_move rfl (hS.get 12 rfl)) rfl) ?_
  refine .oy 12 58 rfl rfl rfl rfl rfl c5 (fun a w hS hI hp => does_val (x_fieldE (b := 0) rfl (hS.get 10 rfl) Try.underlying28 rfl rfl (by kernel_rfl)) rfl) ?_
  refine .oy 12 58 rfl rfl rfl rfl rfl c5 (fun a w hS hI hp => does_val (x_load1 (d := .int .i64) rfl (hp.V 16 rfl rfl) (by kernel_rfl) rfl ((blk_cell (((hI.2.1).block g4 (blk_lt bc)).trans bc) 1).trans rfl)) rfl) ?_
  refine .oy 12 58 rfl rfl rfl rfl rfl c5 (fun a w hS hI hp => does_val (x_bin rfl (hp.V 15 rfl rfl) (hp.V 17 rfl rfl) (b_eql _ _ _ _ _ _)) rfl) ?_
  refine .oy 12 58 rfl rfl rfl rfl rfl c5 (fun a w hS hI hp => does_val (x_bin rfl (hp.V 14 rfl rfl) (hp.V 18 rfl rfl) (b_eqb _ _ _ _ _ (by kernel_rfl))) rfl) ?_
  refine .pt 12 19 rfl rfl rfl rfl c5 rfl rfl ?_
  refine .mv 20 rfl rfl rfl rfl ?_
  refine .oy 21 67 rfl rfl rfl rfl rfl c6 (fun a w hS hI hp => does_val (x_move rfl (hS.get 9 rfl)) rfl) ?_
  refine .oy 21 67 rfl rfl rfl rfl rfl c6 (fun a w hS hI hp => does_val (x_lenS rfl (by kernel_rfl) (hp.V 22 rfl rfl)) rfl) ?_
  refine .oy 21 67 rfl rfl rfl rfl rfl c6 (fun a w hS hI hp => does_val (x_bin rfl (hp.V 23 rfl rfl) (rfl) (b_leq _ _ _ _ _ _)) rfl) ?_
  refine .pt 21 24 rfl rfl rfl rfl c6 rfl rfl ?_
  refine .mv 25 rfl rfl rfl rfl ?_
  refine .oy 26 72 rfl rfl rfl rfl rfl ((decide_eq_true c7)) (fun a w hS hI hp => does_call (by kernel_rfl) rfl ((carillonlaw09_awake.calls k  cC _  ds).mono fun _ _ h => ⟨_, h.1, h.2, rfl⟩)) ?_
  refine .pt 26 27 rfl rfl rfl rfl ((decide_eq_true c7)) rfl rfl ?_
  refine .asg 28 rfl rfl rfl rfl ?_
  exact .nil
 clear hS
 intro dY d8 hS dF hp
 replace hS := hS.nil
 have bQ : sl _ 6 = .bool cC := hp 29 (by decide)
 have hS := hS.cons bQ
 clear hp bQ
 refine dx _ _ ?_
 refine wp_ret ?_
 (try simp only [Exit.then, Exit.inBlock, Exit.jump, Exit.noGoto])
 exact bodyPost_ret (v := .bool true) (by rw [results_tmp rfl]; exact congrArg (Result.ok · _) ((hS.get 0 rfl).trans (congrArg Value.bool hret))) hS.nodef ⟨rfl, dF.1⟩
def carillonlaw09_FrameBack.Pure : Prop := ∀ (ap ao aq ar au av aw ax ay az aa ab ac ad ae af ag ah ai aj ak al am : Int) (l1 : List (S43)) (a2 : Int), (Lit.int .i64 ap).wf = true → (Lit.int .i64 ao).wf = true → (Lit.int .i64 aq).wf = true → (Lit.int .i64 ar).wf = true → (Lit.int .u64 au).wf = true → (Lit.int .i64 av).wf = true → (Lit.int .i64 aw).wf = true → (Lit.int .i64 ax).wf = true → (Lit.int .i64 ay).wf = true → (Lit.int .u64 az).wf = true → (Lit.int .i64 aa).wf = true → (Lit.int .i64 ab).wf = true → (Lit.int .i64 ac).wf = true → (Lit.int .i64 ad).wf = true → (Lit.int .i64 ae).wf = true → (Lit.int .i64 af).wf = true → (Lit.int .i64 ag).wf = true → (Lit.int .u64 ah).wf = true → (Lit.int .i64 ai).wf = true → (Lit.int .i64 aj).wf = true → (Lit.int .i64 ak).wf = true → (Lit.int .i64 al).wf = true → (Lit.int .i64 am).wf = true → l1.length ≤ maxLen → l1.length * 24 ≤ 140737488351232 → (∀ x ∈ l1, (Lit.int .i64 x.f0).wf = true ∧ x.f1.size ≤ 9223372036854775807) → (Lit.int .i64 a2).wf = true → ∃ k, carillonlaw09_FrameBack.f k ap ao aq ar au av aw ax ay az aa ab ac ad ae af ag ah ai aj ak al am l1 a2 = some true
theorem carillonlaw09_FrameBack.walk (P : carillonlaw09_FrameBack.Pure) (ap ao aq ar au av aw ax ay az aa ab ac ad ae af ag ah ai aj ak al am : Int) (a1 : Option Addr) (cG : Nat) (l1 : List (S43)) (a2 : Int) (w : World) (w0_0 : (Lit.int .i64 ap).wf = true) (w0_1 : (Lit.int .i64 ao).wf = true) (w0_2 : (Lit.int .i64 aq).wf = true) (w0_3 : (Lit.int .i64 ar).wf = true) (w0_4 : (Lit.int .u64 au).wf = true) (w0_5 : (Lit.int .i64 av).wf = true) (w0_6 : (Lit.int .i64 aw).wf = true) (w0_7 : (Lit.int .i64 ax).wf = true) (w0_8 : (Lit.int .i64 ay).wf = true) (w0_9 : (Lit.int .u64 az).wf = true) (w0_10 : (Lit.int .i64 aa).wf = true) (w0_11 : (Lit.int .i64 ab).wf = true) (w0_12 : (Lit.int .i64 ac).wf = true) (w0_13 : (Lit.int .i64 ad).wf = true) (w0_14 : (Lit.int .i64 ae).wf = true) (w0_15 : (Lit.int .i64 af).wf = true) (w0_16 : (Lit.int .i64 ag).wf = true) (w0_17 : (Lit.int .u64 ah).wf = true) (w0_18 : (Lit.int .i64 ai).wf = true) (w0_19 : (Lit.int .i64 aj).wf = true) (w0_20 : (Lit.int .i64 ak).wf = true) (w0_21 : (Lit.int .i64 al).wf = true) (w0_22 : (Lit.int .i64 am).wf = true) (hr1 : Kd.C k43 w a1 l1.length l1) (hc1 : l1.length ≤ cG) (hm1 : l1.length ≤ maxLen) (y1 : l1.length * 24 ≤ 140737488351232) (hw1 : (∀ x ∈ l1, (Lit.int .i64 x.f0).wf = true ∧ x.f1.size ≤ 9223372036854775807)) (w2 : (Lit.int .i64 a2).wf = true) :
  Calls Try.prog 8 #[(carillonlaw09_FrameBack.v0 ap ao aq ar au av aw ax ay az aa ab ac ad ae af ag ah ai aj ak al am), .slice a1 l1.length cG, .int .i64 a2] w fun e w' => e = .returned (.bool true) ∧ Below w.heap.size w w' := by
 obtain ⟨k, h⟩ := P ap ao aq ar au av aw ax ay az aa ab ac ad ae af ag ah ai aj ak al am l1 a2 w0_0 w0_1 w0_2 w0_3 w0_4 w0_5 w0_6 w0_7 w0_8 w0_9 w0_10 w0_11 w0_12 w0_13 w0_14 w0_15 w0_16 w0_17 w0_18 w0_19 w0_20 w0_21 w0_22 hm1 y1 hw1 w2
 refine (carillonlaw09_FrameBack.calls k ap ao aq ar au av aw ax ay az aa ab ac ad ae af ag ah ai aj ak al am a1 cG l1 a2 w hr1 hc1 h).mono ?_
 rintro e w' ⟨rfl, hd⟩
 exact ⟨rfl, hd⟩
/-! ### carillonlaw00_Place: function 15 -/
end Go.Proofs.Ytiomlbkakiienaa.P
