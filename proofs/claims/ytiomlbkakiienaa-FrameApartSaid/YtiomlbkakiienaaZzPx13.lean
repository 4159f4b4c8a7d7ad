/- Functions and loops of the given program as Lean functions, and that the code comes to what they say: written by this session's own program; Lean checks it. -/
import Derived.Test.YtiomlbkakiienaaZzPx0
import Derived.Test.YtiomlbkakiienaaZzPx2
import Derived.Test.YtiomlbkakiienaaZzPx5
import Derived.Test.YtiomlbkakiienaaZzPx11
import Derived.Test.YtiomlbkakiienaaZzPx12
namespace Go.Proofs.Ytiomlbkakiienaa.P
open Go.RowKit Go.Proofs.YtiomlbkakiienaaW.PrintWords Go.Proofs.YtiomlbkakiienaaW.PrintLast Go.Proofs.YtiomlbkakiienaaW.PrintMore
attribute [local go_sem] max2_int min2_int max_two min_two max_three min_three max_four min_four   -- for this text's walks alone
set_option linter.unusedVariables false
set_option linter.unusedSimpArgs false
/-! ### carillonlaw09_FrameApart: function 6: by our own printer -/
def carillonlaw09_FrameApart.f (k : Nat) (a0_0 a0_1 a0_2 a0_3 a0_4 a0_5 a0_6 a0_7 a0_8 a0_9 a0_10 a0_11 a0_12 a0_13 a0_14 a0_15 a0_16 a0_17 a0_18 a0_19 a0_20 a0_21 a0_22 a1_0 a1_1 a1_2 a1_3 a1_4 a1_5 a1_6 a1_7 a1_8 a1_9 a1_10 a1_11 a1_12 a1_13 a1_14 a1_15 a1_16 a1_17 a1_18 a1_19 a1_20 a1_21 a1_22 : Int) (l2 : List (S43)) (l3 : List (S43)) : Option (Bool) := (carillonlaw09_few.f k l2).bind fun t12 => (if t12 = true then ((carillonlaw09_few.f k l3).bind fun t13 => (if t13 = true then ((carillonlaw00_Tlvs.f l2).bind fun t17 => ((frame_Put.f k a0_0 a0_1 a0_2 a0_3 a0_4 a0_5 a0_6 a0_7 a0_8 a0_9 a0_10 a0_11 a0_12 a0_13 a0_14 a0_15 a0_16 a0_17 a0_18 a0_19 a0_20 a0_21 a0_22 t17).bind fun t18 => ((carillonlaw00_Tlvs.f l3).bind fun t22 => ((frame_Put.f k a1_0 a1_1 a1_2 a1_3 a1_4 a1_5 a1_6 a1_7 a1_8 a1_9 a1_10 a1_11 a1_12 a1_13 a1_14 a1_15 a1_16 a1_17 a1_18 a1_19 a1_20 a1_21 a1_22 t22).bind fun t23 => (if t18.2 = true then (if t23.2 = true then (if ((a0_0 == a1_0) && ((a0_1 == a1_1) && ((a0_2 == a1_2) && ((a0_3 == a1_3) && ((a0_4 == a1_4) && ((a0_5 == a1_5) && ((a0_6 == a1_6) && ((a0_7 == a1_7) && ((a0_8 == a1_8) && ((a0_9 == a1_9) && ((a0_10 == a1_10) && ((a0_11 == a1_11) && ((a0_12 == a1_12) && ((a0_13 == a1_13) && ((a0_14 == a1_14) && ((a0_15 == a1_15) && ((a0_16 == a1_16) && ((a0_17 == a1_17) && ((a0_18 == a1_18) && ((a0_19 == a1_19) && ((a0_20 == a1_20) && ((a0_21 == a1_21) && (a0_22 == a1_22))))))))))))))))))))))) = true then ((carillonlaw00_SameTlvs.f k l2 l3).bind fun t31 => (if ((t18.1.toList == t23.1.toList) == t31) = true then ((carillonlaw09_awake.f k ).bind fun t32 => (some t32)) else (some false))) else (if ((t18.1.toList == t23.1.toList) == false) = true then ((carillonlaw09_awake.f k ).bind fun t31 => (some t31)) else (some false))) else ((carillonlaw09_awake.f k ).bind fun t31 => (some t31))) else ((carillonlaw09_awake.f k ).bind fun t31 => (some t31))))))) else ((carillonlaw09_awake.f k ).bind fun t17 => (some t17)))) else ((carillonlaw09_awake.f k ).bind fun t16 => (some t16)))
open Go.Proofs.Ytiomlbkakiienaa.E in
set_option maxRecDepth 100000 in
theorem carillonlaw09_FrameApart.eql28 (x y : Operand) (w : World) (a0 a1 a2 a3 a4 a5 a6 a7 a8 a9 a10 a11 a12 a13 a14 a15 a16 a17 a18 a19 a20 a21 a22 b0 b1 b2 b3 b4 b5 b6 b7 b8 b9 b10 b11 b12 b13 b14 b15 b16 b17 b18 b19 b20 b21 b22 : Int) : (do eqGuard .eql 28 x y (.agg #[.int .i64 a0, .int .i64 a1, .int .i64 a2, .int .i64 a3, .int .u64 a4, .int .i64 a5, .int .i64 a6, .int .i64 a7, .int .i64 a8, .int .u64 a9, .int .i64 a10, .int .i64 a11, .int .i64 a12, .int .i64 a13, .int .i64 a14, .int .i64 a15, .int .i64 a16, .int .u64 a17, .int .i64 a18, .int .i64 a19, .int .i64 a20, .int .i64 a21, .int .i64 a22]) (.agg #[.int .i64 b0, .int .i64 b1, .int .i64 b2, .int .i64 b3, .int .u64 b4, .int .i64 b5, .int .i64 b6, .int .i64 b7, .int .i64 b8, .int .u64 b9, .int .i64 b10, .int .i64 b11, .int .i64 b12, .int .i64 b13, .int .i64 b14, .int .i64 b15, .int .i64 b16, .int .u64 b17, .int .i64 b18, .int .i64 b19, .int .i64 b20, .int .i64 b21, .int .i64 b22]); binOp .eql 28 (.agg #[.int .i64 a0, .int .i64 a1, .int .i64 a2, .int .i64 a3, .int .u64 a4, .int .i64 a5, .int .i64 a6, .int .i64 a7, .int .i64 a8, .int .u64 a9, .int .i64 a10, .int .i64 a11, .int .i64 a12, .int .i64 a13, .int .i64 a14, .int .i64 a15, .int .i64 a16, .int .u64 a17, .int .i64 a18, .int .i64 a19, .int .i64 a20, .int .i64 a21, .int .i64 a22]) (.agg #[.int .i64 b0, .int .i64 b1, .int .i64 b2, .int .i64 b3, .int .u64 b4, .int .i64 b5, .int .i64 b6, .int .i64 b7, .int .i64 b8, .int .u64 b9, .int .i64 b10, .int .i64 b11, .int .i64 b12, .int .i64 b13, .int .i64 b14, .int .i64 b15, .int .i64 b16, .int .u64 b17, .int .i64 b18, .int .i64 b19, .int .i64 b20, .int .i64 b21, .int .i64 b22]) : Sem Value).run Try.prog w = .ok (.bool ((a0 == b0) && ((a1 == b1) && ((a2 == b2) && ((a3 == b3) && ((a4 == b4) && ((a5 == b5) && ((a6 == b6) && ((a7 == b7) && ((a8 == b8) && ((a9 == b9) && ((a10 == b10) && ((a11 == b11) && ((a12 == b12) && ((a13 == b13) && ((a14 == b14) && ((a15 == b15) && ((a16 == b16) && ((a17 == b17) && ((a18 == b18) && ((a19 == b19) && ((a20 == b20) && ((a21 == b21) && (a22 == b22)))))))))))))))))))))))) w := by
  have hu3 := Try.underlying3
  have hu22 := Try.underlying22
  have hu24 := Try.underlying24
  have hu26 := Try.underlying26
  have hu28 := Try.underlying28
  conv => lhs; simp [eqGuard, go_sem, hu3, hu22, hu24, hu26, hu28]
  exact ite_and (ite_and (ite_and (ite_and (ite_and (ite_and (ite_and (ite_and (ite_and (ite_and (ite_and (ite_and (ite_and (ite_and (ite_and (ite_and (ite_and (ite_and (ite_and (ite_and (ite_and (ite_and (ite_last))))))))))))))))))))))
abbrev carillonlaw09_FrameApart.v0 (x0 x1 x2 x3 x4 x5 x6 x7 x8 x9 x10 x11 x12 x13 x14 x15 x16 x17 x18 x19 x20 x21 x22 : Int) : Value := .agg #[.int .i64 x0, .int .i64 x1, .int .i64 x2, .int .i64 x3, .int .u64 x4, .int .i64 x5, .int .i64 x6, .int .i64 x7, .int .i64 x8, .int .u64 x9, .int .i64 x10, .int .i64 x11, .int .i64 x12, .int .i64 x13, .int .i64 x14, .int .i64 x15, .int .i64 x16, .int .u64 x17, .int .i64 x18, .int .i64 x19, .int .i64 x20, .int .i64 x21, .int .i64 x22]
abbrev carillonlaw09_FrameApart.c1 (x0 x1 x2 x3 x4 x5 x6 x7 x8 x9 x10 x11 x12 x13 x14 x15 x16 x17 x18 x19 x20 x21 x22 : Int) : Array Value := #[.int .i64 x0, .int .i64 x1, .int .i64 x2, .int .i64 x3, .int .u64 x4, .int .i64 x5, .int .i64 x6, .int .i64 x7, .int .i64 x8, .int .u64 x9, .int .i64 x10, .int .i64 x11, .int .i64 x12, .int .i64 x13, .int .i64 x14, .int .i64 x15, .int .i64 x16, .int .u64 x17, .int .i64 x18, .int .i64 x19, .int .i64 x20, .int .i64 x21, .int .i64 x22]
open Go.Proofs.Ytiomlbkakiienaa.E in
set_option maxHeartbeats 60000000 in
set_option maxRecDepth 100000 in
theorem carillonlaw09_FrameApart.calls (k : Nat) (aG aH aI aJ aK aL aM aN aO aP aa ab ac ad ae af ag ah ai aj ak al am aQ aR aS aT aU aV aW aX aY aZ an ao ap aq ar au av aw ax ay az aA aB : Int) (A2 : Option Addr) (bl : Nat) (l2 : List (S43)) (A3 : Option Addr) (bn : Nat) (l3 : List (S43)) (w : World) (HR2 : Kd.C k43 w A2 l2.length l2) (HC2 : l2.length ≤ bl) (HR3 : Kd.C k43 w A3 l3.length l3) (HC3 : l3.length ≤ bn) (h : carillonlaw09_FrameApart.f k aG aH aI aJ aK aL aM aN aO aP aa ab ac ad ae af ag ah ai aj ak al am aQ aR aS aT aU aV aW aX aY aZ an ao ap aq ar au av aw ax ay az aA aB l2 l3 = some true) :
    Calls Try.prog 6 #[.agg #[.int .i64 aG, .int .i64 aH, .int .i64 aI, .int .i64 aJ, .int .u64 aK, .int .i64 aL, .int .i64 aM, .int .i64 aN, .int .i64 aO, .int .u64 aP, .int .i64 aa, .int .i64 ab, .int .i64 ac, .int .i64 ad, .int .i64 ae, .int .i64 af, .int .i64 ag, .int .u64 ah, .int .i64 ai, .int .i64 aj, .int .i64 ak, .int .i64 al, .int .i64 am], .agg #[.int .i64 aQ, .int .i64 aR, .int .i64 aS, .int .i64 aT, .int .u64 aU, .int .i64 aV, .int .i64 aW, .int .i64 aX, .int .i64 aY, .int .u64 aZ, .int .i64 an, .int .i64 ao, .int .i64 ap, .int .i64 aq, .int .i64 ar, .int .i64 au, .int .i64 av, .int .u64 aw, .int .i64 ax, .int .i64 ay, .int .i64 az, .int .i64 aA, .int .i64 aB], .slice A2 l2.length bl, .slice A3 l3.length bn] w fun e w' => e = .returned (.bool true) ∧ Below w.heap.size w w' := by
 have H := h
 clear h
 unfold carillonlaw09_FrameApart.f at H
 obtain ⟨bh, bV, H⟩ := Option.bind_eq_some_iff.mp H
 by_cases c1 : bh = true
 rotate_left
 ·rw [if_neg c1] at H
  obtain ⟨cs, cA, H⟩ := Option.bind_eq_some_iff.mp H
  have hret := Option.some.inj H
  clear H
  refine calls_of_wp (fn := Try.f6) (by kernel_rfl) rfl ?_
  have hS := St.enter #[(carillonlaw09_FrameApart.v0 aG aH aI aJ aK aL aM aN aO aP aa ab ac ad ae af ag ah ai aj ak al am), (carillonlaw09_FrameApart.v0 aQ aR aS aT aU aV aW aX aY aZ an ao ap aq ar au av aw ax ay az aA aB), .slice A2 l2.length bl, .slice A3 l3.length bn] 58 (by simp) [(0, (carillonlaw09_FrameApart.v0 aG aH aI aJ aK aL aM aN aO aP aa ab ac ad ae af ag ah ai aj ak al am)), (1, (carillonlaw09_FrameApart.v0 aQ aR aS aT aU aV aW aX aY aZ an ao ap aq ar au av aw ax ay az aA aB)), (2, .slice A2 l2.length bl), (3, .slice A3 l3.length bn)] (by simp)
  have bG := Below.refl w.heap.size w
  refine wp_seq_k (fun K1 bH => ?_)
  refine reg_seq_tail 1 (I := I1_ w) (ps := [IsB (carillonlaw09_FrameApart.c1 aG aH aI aJ aK aL aM aN aO aP aa ab ac ad ae af ag ah ai aj ak al am) 28 w.heap.size]) (by kernel_rfl) ?_ ?_ rfl hS bG ?_ ?_
  ·exact bs1
  ·exact .cons (Stays.b _ _ _) (.nil)
  ·refine .on rfl (fun a w hS hI hp => does_var (x_box rfl (congrArg Value.cells (hS.get 0 rfl))) (hI).size) ?_
   exact .nil
  clear hS
  intro cg w3 hS bJ hp
  replace hS := (((hS.nil).cons (hS.get 3 rfl)).cons (hS.get 2 rfl)).cons (hS.get 1 rfl)
  obtain ⟨g4, bs, bS, ba⟩ := (show IsB _ 28 _ (sl _ 4) _ from hp 0 (by decide))
  have hS := hS.cons bs
  clear hp bs
  show wpList _ _ _ [_, _] _ _
  refine list_step rfl (R := fun v w' => Below _ _ w' ∧ (IsB (carillonlaw09_FrameApart.c1 aQ aR aS aT aU aV aW aX aY aZ an ao ap aq ar au av aw ax ay az aA aB) 28 w3.heap.size) v w') (does_var (x_box rfl (congrArg Value.cells (hS.get 1 rfl))) ((bR w3)).size) ?_
  rintro ck w5 ⟨hb, he⟩
  have bi := below_step bJ hb
  have bc := below_step (bR w3) hb
  obtain ⟨g6, rfl, bU, bb⟩ := he
  refine hS.next (v := .pointer (some ⟨g6, 0, none⟩)) (d := 5) rfl (by decide) (by rfl) ?_
  clear hS
  intro ch hS
  refine list_step rfl (R := fun v w' => Below _ _ w' ∧ (VB false) v w') (does_val (x_assign rfl (rfl)) rfl) ?_
  rintro bK w8 ⟨hb, he⟩
  have bj := below_step bi hb
  have bd := below_step bc hb
  have be := below_step (bR w5) hb
  obtain rfl : bK = .bool false := he
  refine hS.next (v := .bool false) (d := 8) rfl (by decide) (by rfl) ?_
  clear hS
  intro ci hS
  refine wpList_nil ?_
  refine bH _ _ ?_
  refine wp_seq_k (fun ce bC => ?_)
  refine wp_seq_k (fun cf bv => ?_)
  refine reg_seq (I := I4_ w w3 w5 w8) (ps := [IsV (.slice A2 l2.length bl), VB bh, VB (!bh), VB (!bh), VU, VU, VU, VB true]) (by kernel_rfl) ?_ ?_ rfl hS ⟨bj, bd, be, (bR w8)⟩ ?_ ?_
  ·exact bs4
  ·exact .v (.v (.v (.v (.v (.v (.v (.v (.nil))))))))
  ·refine .ms 4 rfl rfl rfl ?_
   refine .on rfl (fun a w hS hI hp => does_call (by kernel_rfl) (ar1 (hp.V 0 rfl rfl)) ((carillonlaw09_few.calls k _ _ l2 bh _ (Kd.C_below HR2 hI.1) HC2 bV).mono fun _ _ h => ⟨_, h.1, h.2.below, rfl⟩)) ?_
   refine .on rfl (fun a w hS hI hp => does_val (x_not rfl (hp.V 1 rfl rfl)) rfl) ?_
   refine .mv 2 rfl rfl rfl rfl ?_
   iterate 3 refine .sn 3 16 rfl rfl rfl rfl rfl ((congrArg (!·) (Bool.eq_false_iff.2 c1))) ?_
   refine .on rfl (fun a w hS hI hp => does_val (x_pickT rfl ((hp.V 3 rfl rfl).trans (bT (congrArg (!·) (Bool.eq_false_iff.2 c1)))) (rfl)) rfl) ?_
   exact .nil
  clear hS
  intro cI cy hS cq hp
  replace hS := ((((hS.nil).cons (hS.get 5 rfl)).cons (hS.get 4 rfl)).cons (hS.get 2 rfl)).cons (hS.get 1 rfl)
  have bk : sl _ 20 = .bool true := hp 7 (by decide)
  have hS := hS.cons bk
  clear hp bk
  refine bv _ _ ?_
  refine wp_cond_true ((hS.get 0 rfl).trans (bT rfl)) ?_
  refine wp_seq_k (fun cM cC => ?_)
  refine reg_seq (I := I4_ w w3 w5 cy) (ps := [VB cs, VB cs]) (by kernel_rfl) ?_ ?_ rfl hS ⟨cq.1, cq.2.1, cq.2.2.1, (bR cy)⟩ ?_ ?_
  ·exact bs4
  ·exact .v (.v (.nil))
  ·refine .on rfl (fun a w hS hI hp => does_call (by kernel_rfl) rfl ((carillonlaw09_awake.calls k  cs _  cA).mono fun _ _ h => ⟨_, h.1, h.2, rfl⟩)) ?_
   refine .asg 0 rfl rfl rfl rfl ?_
   exact .nil
  clear hS
  intro cJ cN hS cD hp
  replace hS := hS.nil
  have bt : sl _ 8 = .bool cs := hp 1 (by decide)
  have hS := hS.cons bt
  clear hp bt
  refine cC _ _ ?_
  refine wp_ret ?_
  (try simp only [Exit.then, Exit.inBlock, Exit.jump, Exit.noGoto])
  exact bodyPost_ret (v := .bool true) (by rw [results_tmp rfl]; exact congrArg (Result.ok · _) ((hS.get 0 rfl).trans (congrArg Value.bool hret))) hS.nodef ⟨rfl, cD.1⟩
 rw [if_pos c1] at H
 obtain ⟨bf, bX, H⟩ := Option.bind_eq_some_iff.mp H
 by_cases c2 : bf = true
 rotate_left
 ·rw [if_neg c2] at H
  obtain ⟨bu, bW, H⟩ := Option.bind_eq_some_iff.mp H
  have hret := Option.some.inj H
  clear H
  refine calls_of_wp (fn := Try.f6) (by kernel_rfl) rfl ?_
  have hS := St.enter #[(carillonlaw09_FrameApart.v0 aG aH aI aJ aK aL aM aN aO aP aa ab ac ad ae af ag ah ai aj ak al am), (carillonlaw09_FrameApart.v0 aQ aR aS aT aU aV aW aX aY aZ an ao ap aq ar au av aw ax ay az aA aB), .slice A2 l2.length bl, .slice A3 l3.length bn] 58 (by simp) [(0, (carillonlaw09_FrameApart.v0 aG aH aI aJ aK aL aM aN aO aP aa ab ac ad ae af ag ah ai aj ak al am)), (1, (carillonlaw09_FrameApart.v0 aQ aR aS aT aU aV aW aX aY aZ an ao ap aq ar au av aw ax ay az aA aB)), (2, .slice A2 l2.length bl), (3, .slice A3 l3.length bn)] (by simp)
  have bG := Below.refl w.heap.size w
  refine wp_seq_k (fun K1 bH => ?_)
  refine reg_seq_tail 1 (I := I1_ w) (ps := [IsB (carillonlaw09_FrameApart.c1 aG aH aI aJ aK aL aM aN aO aP aa ab ac ad ae af ag ah ai aj ak al am) 28 w.heap.size]) (by kernel_rfl) ?_ ?_ rfl hS bG ?_ ?_
  ·exact bs1
  ·exact .cons (Stays.b _ _ _) (.nil)
  ·refine .on rfl (fun a w hS hI hp => does_var (x_box rfl (congrArg Value.cells (hS.get 0 rfl))) (hI).size) ?_
   exact .nil
  clear hS
  intro cg w3 hS bJ hp
  replace hS := (((hS.nil).cons (hS.get 3 rfl)).cons (hS.get 2 rfl)).cons (hS.get 1 rfl)
  obtain ⟨g4, bs, bS, ba⟩ := (show IsB _ 28 _ (sl _ 4) _ from hp 0 (by decide))
  have hS := hS.cons bs
  clear hp bs
  show wpList _ _ _ [_, _] _ _
  refine list_step rfl (R := fun v w' => Below _ _ w' ∧ (IsB (carillonlaw09_FrameApart.c1 aQ aR aS aT aU aV aW aX aY aZ an ao ap aq ar au av aw ax ay az aA aB) 28 w3.heap.size) v w') (does_var (x_box rfl (congrArg Value.cells (hS.get 1 rfl))) ((bR w3)).size) ?_
  rintro ck w5 ⟨hb, he⟩
  have bi := below_step bJ hb
  have bc := below_step (bR w3) hb
  obtain ⟨g6, rfl, bU, bb⟩ := he
  refine hS.next (v := .pointer (some ⟨g6, 0, none⟩)) (d := 5) rfl (by decide) (by rfl) ?_
  clear hS
  intro ch hS
  refine list_step rfl (R := fun v w' => Below _ _ w' ∧ (VB false) v w') (does_val (x_assign rfl (rfl)) rfl) ?_
  rintro bK w8 ⟨hb, he⟩
  have bj := below_step bi hb
  have bd := below_step bc hb
  have be := below_step (bR w5) hb
  obtain rfl : bK = .bool false := he
  refine hS.next (v := .bool false) (d := 8) rfl (by decide) (by rfl) ?_
  clear hS
  intro ci hS
  refine wpList_nil ?_
  refine bH _ _ ?_
  refine wp_seq_k (fun ce bC => ?_)
  refine wp_seq_k (fun cf bv => ?_)
  refine reg_seq (I := I4_ w w3 w5 w8) (ps := [IsV (.slice A2 l2.length bl), VB bh, VB (!bh), VB (!bh), IsV (.slice A3 l3.length bn), VB bf, VB (!bf), VB (!bf)]) (by kernel_rfl) ?_ ?_ rfl hS ⟨bj, bd, be, (bR w8)⟩ ?_ ?_
  ·exact bs4
  ·exact .v (.v (.v (.v (.v (.v (.v (.v (.nil))))))))
  ·refine .ms 4 rfl rfl rfl ?_
   refine .on rfl (fun a w hS hI hp => does_call (by kernel_rfl) (ar1 (hp.V 0 rfl rfl)) ((carillonlaw09_few.calls k _ _ l2 bh _ (Kd.C_below HR2 hI.1) HC2 bV).mono fun _ _ h => ⟨_, h.1, h.2.below, rfl⟩)) ?_
   refine .on rfl (fun a w hS hI hp => does_val (x_not rfl (hp.V 1 rfl rfl)) rfl) ?_
   refine .mv 2 rfl rfl rfl rfl ?_
   refine .oy 3 16 rfl rfl rfl rfl rfl ((congrArg (!·) c1)) (fun a w hS hI hp => does_val (x_move rfl (hS.get 5 rfl)) rfl) ?_
   refine .oy 3 16 rfl rfl rfl rfl rfl ((congrArg (!·) c1)) (fun a w hS hI hp => does_call (by kernel_rfl) (ar1 (hp.V 4 rfl rfl)) ((carillonlaw09_few.calls k _ _ l3 bf _ (Kd.C_below HR3 hI.1) HC3 bX).mono fun _ _ h => ⟨_, h.1, h.2.below, rfl⟩)) ?_
   refine .oy 3 16 rfl rfl rfl rfl rfl ((congrArg (!·) c1)) (fun a w hS hI hp => does_val (x_not rfl (hp.V 5 rfl rfl)) rfl) ?_
   refine .on rfl (fun a w hS hI hp => does_val (x_pickF rfl ((hp.V 3 rfl rfl).trans (bF (congrArg (!·) c1))) (hp.V 6 rfl rfl)) rfl) ?_
   exact .nil
  clear hS
  intro cd br hS bg hp
  replace hS := ((((hS.nil).cons (hS.get 5 rfl)).cons (hS.get 4 rfl)).cons (hS.get 2 rfl)).cons (hS.get 1 rfl)
  have bk : sl _ 20 = .bool (!bf) := hp 7 (by decide)
  have hS := hS.cons bk
  clear hp bk
  refine bv _ _ ?_
  refine wp_cond_true ((hS.get 0 rfl).trans (bT (congrArg (!·) (Bool.eq_false_iff.2 c2)))) ?_
  refine wp_seq_k (fun cr bD => ?_)
  refine reg_seq (I := I4_ w w3 w5 br) (ps := [VB bu, VB bu]) (by kernel_rfl) ?_ ?_ rfl hS ⟨bg.1, bg.2.1, bg.2.2.1, (bR br)⟩ ?_ ?_
  ·exact bs4
  ·exact .v (.v (.nil))
  ·refine .on rfl (fun a w hS hI hp => does_call (by kernel_rfl) rfl ((carillonlaw09_awake.calls k  bu _  bW).mono fun _ _ h => ⟨_, h.1, h.2, rfl⟩)) ?_
   refine .asg 0 rfl rfl rfl rfl ?_
   exact .nil
  clear hS
  intro cK cO hS cE hp
  replace hS := hS.nil
  have bt : sl _ 8 = .bool bu := hp 1 (by decide)
  have hS := hS.cons bt
  clear hp bt
  refine bD _ _ ?_
  refine wp_ret ?_
  (try simp only [Exit.then, Exit.inBlock, Exit.jump, Exit.noGoto])
  exact bodyPost_ret (v := .bool true) (by rw [results_tmp rfl]; exact congrArg (Result.ok · _) ((hS.get 0 rfl).trans (congrArg Value.bool hret))) hS.nodef ⟨rfl, cE.1⟩
 rw [if_pos c2] at H
 obtain ⟨bu, bW, H⟩ := Option.bind_eq_some_iff.mp H
 obtain ⟨cG, ca, H⟩ := Option.bind_eq_some_iff.mp H
 obtain ⟨aE, aC⟩ := cG
 (try dsimp only at H)
 obtain ⟨bE, cb, H⟩ := Option.bind_eq_some_iff.mp H
 obtain ⟨cH, cc, H⟩ := Option.bind_eq_some_iff.mp H
 obtain ⟨aF, aD⟩ := cH
 (try dsimp only at H)
 by_cases c3 : aC = true
 rotate_left
 ·rw [if_neg c3] at H
  obtain ⟨bm, bN, H⟩ := Option.bind_eq_some_iff.mp H
  have hret := Option.some.inj H
  clear H
  refine calls_of_wp (fn := Try.f6) (by kernel_rfl) rfl ?_
  have hS := St.enter #[(carillonlaw09_FrameApart.v0 aG aH aI aJ aK aL aM aN aO aP aa ab ac ad ae af ag ah ai aj ak al am), (carillonlaw09_FrameApart.v0 aQ aR aS aT aU aV aW aX aY aZ an ao ap aq ar au av aw ax ay az aA aB), .slice A2 l2.length bl, .slice A3 l3.length bn] 58 (by simp) [(0, (carillonlaw09_FrameApart.v0 aG aH aI aJ aK aL aM aN aO aP aa ab ac ad ae af ag ah ai aj ak al am)), (1, (carillonlaw09_FrameApart.v0 aQ aR aS aT aU aV aW aX aY aZ an ao ap aq ar au av aw ax ay az aA aB)), (2, .slice A2 l2.length bl), (3, .slice A3 l3.length bn)] (by simp)
  have bG := Below.refl w.heap.size w
  refine wp_seq_k (fun K1 bH => ?_)
  refine reg_seq_tail 1 (I := I1_ w) (ps := [IsB (carillonlaw09_FrameApart.c1 aG aH aI aJ aK aL aM aN aO aP aa ab ac ad ae af ag ah ai aj ak al am) 28 w.heap.size]) (by kernel_rfl) ?_ ?_ rfl hS bG ?_ ?_
  ·exact bs1
  ·exact .cons (Stays.b _ _ _) (.nil)
  ·refine .on rfl (fun a w hS hI hp => does_var (x_box rfl (congrArg Value.cells (hS.get 0 rfl))) (hI).size) ?_
   exact .nil
  clear hS
  intro cg w3 hS bJ hp
  replace hS := (((hS.nil).cons (hS.get 3 rfl)).cons (hS.get 2 rfl)).cons (hS.get 1 rfl)
  obtain ⟨g4, bs, bS, ba⟩ := (show IsB _ 28 _ (sl _ 4) _ from hp 0 (by decide))
  have hS := hS.cons bs
  clear hp bs
  show wpList _ _ _ [_, _] _ _
  refine list_step rfl (R := fun v w' => Below _ _ w' ∧ (IsB (carillonlaw09_FrameApart.c1 aQ aR aS aT aU aV aW aX aY aZ an ao ap aq ar au av aw ax ay az aA aB) 28 w3.heap.size) v w') (does_var (x_box rfl (congrArg Value.cells (hS.get 1 rfl))) ((bR w3)).size) ?_
  rintro ck w5 ⟨hb, he⟩
  have bi := below_step bJ hb
  have bc := below_step (bR w3) hb
  obtain ⟨g6, rfl, bU, bb⟩ := he
  refine hS.next (v := .pointer (some ⟨g6, 0, none⟩)) (d := 5) rfl (by decide) (by rfl) ?_
  clear hS
  intro ch hS
  refine list_step rfl (R := fun v w' => Below _ _ w' ∧ (VB false) v w') (does_val (x_assign rfl (rfl)) rfl) ?_
  rintro bK w8 ⟨hb, he⟩
  have bj := below_step bi hb
  have bd := below_step bc hb
  have be := below_step (bR w5) hb
  obtain rfl : bK = .bool false := he
  refine hS.next (v := .bool false) (d := 8) rfl (by decide) (by rfl) ?_
  clear hS
  intro ci hS
  refine wpList_nil ?_
  refine bH _ _ ?_
  refine wp_seq_k (fun ce bC => ?_)
  refine wp_seq_k (fun cf bv => ?_)
  refine reg_seq (I := I4_ w w3 w5 w8) (ps := [IsV (.slice A2 l2.length bl), VB bh, VB (!bh), VB (!bh), IsV (.slice A3 l3.length bn), VB bf, VB (!bf), VB (!bf)]) (by kernel_rfl) ?_ ?_ rfl hS ⟨bj, bd, be, (bR w8)⟩ ?_ ?_
  ·exact bs4
  ·exact .v (.v (.v (.v (.v (.v (.v (.v (.nil))))))))
  ·refine .ms 4 rfl rfl rfl ?_
   refine .on rfl (fun a w hS hI hp => does_call (by kernel_rfl) (ar1 (hp.V 0 rfl rfl)) ((carillonlaw09_few.calls k _ _ l2 bh _ (Kd.C_below HR2 hI.1) HC2 bV).mono fun _ _ h => ⟨_, h.1, h.2.below, rfl⟩)) ?_
   refine .on rfl (fun a w hS hI hp => does_val (x_not rfl (hp.V 1 rfl rfl)) rfl) ?_
   refine .mv 2 rfl rfl rfl rfl ?_
   refine .oy 3 16 rfl rfl rfl rfl rfl ((congrArg (!·) c1)) (fun a w hS hI hp => does_val (x_move rfl (hS.get 5 rfl)) rfl) ?_
   refine .oy 3 16 rfl rfl rfl rfl rfl ((congrArg (!·) c1)) (fun a w hS hI hp => does_call (by kernel_rfl) (ar1 (hp.V 4 rfl rfl)) ((carillonlaw09_few.calls k _ _ l3 bf _ (Kd.C_below HR3 hI.1) HC3 bX).mono fun _ _ h => ⟨_, h.1, h.2.below, rfl⟩)) ?_
   refine .oy 3 16 rfl rfl rfl rfl rfl ((congrArg (!·) c1)) (fun a w hS hI hp => does_val (x_not rfl (hp.V 5 rfl rfl)) rfl) ?_
   refine .on rfl (fun a w hS hI hp => does_val (x_pickF rfl ((hp.V 3 rfl rfl).trans (bF (congrArg (!·) c1))) (hp.V 6 rfl rfl)) rfl) ?_
   exact .nil
  clear hS
  intro cd br hS bg hp
  replace hS := ((((hS.nil).cons (hS.get 5 rfl)).cons (hS.get 4 rfl)).cons (hS.get 2 rfl)).cons (hS.get 1 rfl)
  have bk : sl _ 20 = .bool (!bf) := hp 7 (by decide)
  have hS := hS.cons bk
  clear hp bk
  refine bv _ _ ?_
  refine wp_cond_false ((hS.get 0 rfl).trans (bF (congrArg (!·) c2))) ?_
  refine wp_skip ?_
  refine bC _ _ ?_
  refine wp_seq_k (fun cr bD => ?_)
  refine reg_any (I := I4_ w w3 w5 br) (ps := [IsV ((carillonlaw09_FrameApart.v0 aG aH aI aJ aK aL aM aN aO aP aa ab ac ad ae af ag ah ai aj ak al am)), IsV (.slice A2 l2.length bl), IsR k43 43 br.heap.size bu, IsV (.tuple #[.string aE, .bool aC]), IsV (.tuple #[.string aE, .bool aC]), IsV (.string aE), VB aC, IsV (.string aE), VB aC]) (by kernel_rfl) (by kernel_rfl) ?_ ?_ rfl hS ⟨bg.1, bg.2.1, bg.2.2.1, (bR br)⟩ ?_ ?_
  ·exact bs4
  ·exact .v (.v (.cons (Stays.r _ _ _ _) (.v (.v (.v (.v (.v (.v (.nil)))))))))
  ·refine .on rfl (fun a w hS hI hp => does_loadrow rfl (hS.get 2 rfl) (((hI.2.1).block g4 (blk_lt ba)).trans ba) Try.underlying28 rfl (by kernel_rfl) rfl) ?_
   refine .ms 3 rfl rfl rfl ?_
   refine .on rfl (fun a w hS hI hp => does_call (by kernel_rfl) (ar1 (hp.V 1 rfl rfl)) ((carillonlaw00_Tlvs.calls _ _ l2 bu _ (Kd.C_below HR2 hI.1) HC2 bW).mono fun _ _ h => h.elim fun v0 h => ⟨v0, h.1, h.2.2, Kd.R_lower h.2.1 hI.2.2.2.size⟩)) ?_
   refine .on rfl (fun a w hS hI hp => (IsC.of_r (hp.V 2 rfl rfl)).elim fun A_ h_ => h_.elim fun c_ h_ => h_.elim fun hv_ h_ => h_.elim fun hl_ hc_ => does_call (by kernel_rfl) (ar2 (hp.V 0 rfl rfl) (hv_)) ((frame_Put.calls k aG aH aI aJ aK aL aM aN aO aP aa ab ac ad ae af ag ah ai aj ak al am _ _ bu aE aC _ hc_ hl_ ca).mono fun _ _ h => ⟨_, h.1, h.2, rfl⟩)) ?_
   refine .mv 3 rfl rfl rfl rfl ?_
   iterate 2 refine .on rfl (fun a w hS hI hp => does_val (x_extract rfl (hp.V 4 rfl rfl) rfl) rfl) ?_
   refine .asg 5 rfl rfl rfl rfl ?_
   refine .asg 6 rfl rfl rfl rfl ?_
   exact .nil
  clear hS
  intro cl bB hS bo hp
  replace hS := ((((hS.nil).cons (hS.get 4 rfl)).cons (hS.get 3 rfl)).cons (hS.get 2 rfl)).cons (hS.get 1 rfl)
  have bI : sl _ 9 = .string aE := hp 7 (by decide)
  have bw : sl _ 10 = .bool aC := hp 8 (by decide)
  have hS := hS.cons bI
  have hS := hS.cons bw
  clear hp bI bw
  refine bD _ _ ?_
  refine wp_seq_k (fun ct bO => ?_)
  refine reg_any (I := I4_ w w3 w5 bB) (ps := [IsV ((carillonlaw09_FrameApart.v0 aQ aR aS aT aU aV aW aX aY aZ an ao ap aq ar au av aw ax ay az aA aB)), IsV (.slice A3 l3.length bn), IsR k43 43 bB.heap.size bE, IsV (.tuple #[.string aF, .bool aD]), IsV (.tuple #[.string aF, .bool aD]), IsV (.string aF), VB aD, IsV (.string aF), VB aD]) (by kernel_rfl) (by kernel_rfl) ?_ ?_ rfl hS ⟨bo.1, bo.2.1, bo.2.2.1, (bR bB)⟩ ?_ ?_
  ·exact bs4
  ·exact .v (.v (.cons (Stays.r _ _ _ _) (.v (.v (.v (.v (.v (.v (.nil)))))))))
  ·refine .on rfl (fun a w hS hI hp => does_loadrow rfl (hS.get 2 rfl) (((hI.2.2.1).block g6 (blk_lt bb)).trans bb) Try.underlying28 rfl (by kernel_rfl) rfl) ?_
   refine .ms 5 rfl rfl rfl ?_
   refine .on rfl (fun a w hS hI hp => does_call (by kernel_rfl) (ar1 (hp.V 1 rfl rfl)) ((carillonlaw00_Tlvs.calls _ _ l3 bE _ (Kd.C_below HR3 hI.1) HC3 cb).mono fun _ _ h => h.elim fun v0 h => ⟨v0, h.1, h.2.2, Kd.R_lower h.2.1 hI.2.2.2.size⟩)) ?_
   refine .on rfl (fun a w hS hI hp => (IsC.of_r (hp.V 2 rfl rfl)).elim fun A_ h_ => h_.elim fun c_ h_ => h_.elim fun hv_ h_ => h_.elim fun hl_ hc_ => does_call (by kernel_rfl) (ar2 (hp.V 0 rfl rfl) (hv_)) ((frame_Put.calls k aQ aR aS aT aU aV aW aX aY aZ an ao ap aq ar au av aw ax ay az aA aB _ _ bE aF aD _ hc_ hl_ cc).mono fun _ _ h => ⟨_, h.1, h.2, rfl⟩)) ?_
   refine .mv 3 rfl rfl rfl rfl ?_
   iterate 2 refine .on rfl (fun a w hS hI hp => does_val (x_extract rfl (hp.V 4 rfl rfl) rfl) rfl) ?_
   refine .asg 5 rfl rfl rfl rfl ?_
   refine .asg 6 rfl rfl rfl rfl ?_
   exact .nil
  clear hS
  intro cm bL hS bp hp
  have bx : sl _ 11 = .string aF := hp 7 (by decide)
  have bz : sl _ 12 = .bool aD := hp 8 (by decide)
  have hS := hS.cons bx
  have hS := hS.cons bz
  clear hp bx bz
  refine bO _ _ ?_
  refine wp_seq_k (fun cu bY => ?_)
  refine wp_seq_k (fun cv bP => ?_)
  refine reg_seq (I := I4_ w w3 w5 bL) (ps := [VB aC, VB (!aC), VB (!aC), VU, VU, VB true]) (by kernel_rfl) ?_ ?_ rfl hS ⟨bp.1, bp.2.1, bp.2.2.1, (bR bL)⟩ ?_ ?_
  ·exact bs4
  ·exact .v (.v (.v (.v (.v (.v (.nil))))))
  ·refine .ms 2 rfl rfl rfl ?_
   refine .on rfl (fun a w hS hI hp => does_val (x_not rfl (hp.V 0 rfl rfl)) rfl) ?_
   refine .mv 1 rfl rfl rfl rfl ?_
   iterate 2 refine .sn 2 38 rfl rfl rfl rfl rfl ((congrArg (!·) (Bool.eq_false_iff.2 c3))) ?_
   refine .on rfl (fun a w hS hI hp => does_val (x_pickT rfl ((hp.V 2 rfl rfl).trans (bT (congrArg (!·) (Bool.eq_false_iff.2 c3)))) (rfl)) rfl) ?_
   exact .nil
  clear hS
  intro cn bM hS bq hp
  replace hS := ((((((hS.nil).cons (hS.get 7 rfl)).cons (hS.get 6 rfl)).cons (hS.get 5 rfl)).cons (hS.get 4 rfl)).cons (hS.get 3 rfl)).cons (hS.get 1 rfl)
  have bA : sl _ 41 = .bool true := hp 5 (by decide)
  have hS := hS.cons bA
  clear hp bA
  refine bP _ _ ?_
  refine wp_cond_true ((hS.get 0 rfl).trans (bT rfl)) ?_
  refine wp_seq_k (fun cw bQ => ?_)
  refine reg_seq (I := I4_ w w3 w5 bM) (ps := [VB bm, VB bm]) (by kernel_rfl) ?_ ?_ rfl hS ⟨bq.1, bq.2.1, bq.2.2.1, (bR bM)⟩ ?_ ?_
  ·exact bs4
  ·exact .v (.v (.nil))
  ·refine .on rfl (fun a w hS hI hp => does_call (by kernel_rfl) rfl ((carillonlaw09_awake.calls k  bm _  bN).mono fun _ _ h => ⟨_, h.1, h.2, rfl⟩)) ?_
   refine .asg 0 rfl rfl rfl rfl ?_
   exact .nil
  clear hS
  intro cx cz hS bZ hp
  replace hS := hS.nil
  have bt : sl _ 8 = .bool bm := hp 1 (by decide)
  have hS := hS.cons bt
  clear hp bt
  refine bQ _ _ ?_
  refine wp_ret ?_
  (try simp only [Exit.then, Exit.inBlock, Exit.jump, Exit.noGoto])
  exact bodyPost_ret (v := .bool true) (by rw [results_tmp rfl]; exact congrArg (Result.ok · _) ((hS.get 0 rfl).trans (congrArg Value.bool hret))) hS.nodef ⟨rfl, bZ.1⟩
 rw [if_pos c3] at H
 by_cases c4 : aD = true
 rotate_left
 ·rw [if_neg c4] at H
  obtain ⟨bm, bN, H⟩ := Option.bind_eq_some_iff.mp H
  have hret := Option.some.inj H
  clear H
  refine calls_of_wp (fn := Try.f6) (by kernel_rfl) rfl ?_
  have hS := St.enter #[(carillonlaw09_FrameApart.v0 aG aH aI aJ aK aL aM aN aO aP aa ab ac ad ae af ag ah ai aj ak al am), (carillonlaw09_FrameApart.v0 aQ aR aS aT aU aV aW aX aY aZ an ao ap aq ar au av aw ax ay az aA aB), .slice A2 l2.length bl, .slice A3 l3.length bn] 58 (by simp) [(0, (carillonlaw09_FrameApart.v0 aG aH aI aJ aK aL aM aN aO aP aa ab ac ad ae af ag ah ai aj ak al am)), (1, (carillonlaw09_FrameApart.v0 aQ aR aS aT aU aV aW aX aY aZ an ao ap aq ar au av aw ax ay az aA aB)), (2, .slice A2 l2.length bl), (3, .slice A3 l3.length bn)] (by simp)
  have bG := Below.refl w.heap.size w
  refine wp_seq_k (fun K1 bH => ?_)
  refine reg_seq_tail 1 (I := I1_ w) (ps := [IsB (carillonlaw09_FrameApart.c1 aG aH aI aJ aK aL aM aN aO aP aa ab ac ad ae af ag ah ai aj ak al am) 28 w.heap.size]) (by kernel_rfl) ?_ ?_ rfl hS bG ?_ ?_
  ·exact bs1
  ·exact .cons (Stays.b _ _ _) (.nil)
  ·refine .on rfl (fun a w hS hI hp => does_var (x_box rfl (congrArg Value.cells (hS.get 0 rfl))) (hI).size) ?_
   exact .nil
  clear hS
  intro cg w3 hS bJ hp
  replace hS := (((hS.nil).cons (hS.get 3 rfl)).cons (hS.get 2 rfl)).cons (hS.get 1 rfl)
  obtain ⟨g4, bs, bS, ba⟩ := (show IsB _ 28 _ (sl _ 4) _ from hp 0 (by decide))
  have hS := hS.cons bs
  clear hp bs
  show wpList _ _ _ [_, _] _ _
  refine list_step rfl (R := fun v w' => Below _ _ w' ∧ (IsB (carillonlaw09_FrameApart.c1 aQ aR aS aT aU aV aW aX aY aZ an ao ap aq ar au av aw ax ay az aA aB) 28 w3.heap.size) v w') (does_var (x_box rfl (congrArg Value.cells (hS.get 1 rfl))) ((bR w3)).size) ?_
  rintro ck w5 ⟨hb, he⟩
  have bi := below_step bJ hb
  have bc := below_step (bR w3) hb
  obtain ⟨g6, rfl, bU, bb⟩ := he
  refine hS.next (v := .pointer (some ⟨g6, 0, none⟩)) (d := 5) rfl (by decide) (by rfl) ?_
  clear hS
  intro ch hS
  refine list_step rfl (R := fun v w' => Below _ _ w' ∧ (VB false) v w') (does_val (x_assign rfl (rfl)) rfl) ?_
  rintro bK w8 ⟨hb, he⟩
  have bj := below_step bi hb
  have bd := below_step bc hb
  have be := below_step (bR w5) hb
  obtain rfl : bK = .bool false := he
  refine hS.next (v := .bool false) (d := 8) rfl (by decide) (by rfl) ?_
  clear hS
  intro ci hS
  refine wpList_nil ?_
  refine bH _ _ ?_
  refine wp_seq_k (fun ce bC => ?_)
  refine wp_seq_k (fun cf bv => ?_)
  refine reg_seq (I := I4_ w w3 w5 w8) (ps := [IsV (.slice A2 l2.length bl), VB bh, VB (!bh), VB (!bh), IsV (.slice A3 l3.length bn), VB bf, VB (!bf), VB (!bf)]) (by kernel_rfl) ?_ ?_ rfl hS ⟨bj, bd, be, (bR w8)⟩ ?_ ?_
  ·exact bs4
  ·exact .v (.v (.v (.v (.v (.v (.v (.v (.nil))))))))
  ·refine .ms 4 rfl rfl rfl ?_
   refine .on rfl (fun a w hS hI hp => does_call (by kernel_rfl) (ar1 (hp.V 0 rfl rfl)) ((carillonlaw09_few.calls k _ _ l2 bh _ (Kd.C_below HR2 hI.1) HC2 bV).mono fun _ _ h => ⟨_, h.1, h.2.below, rfl⟩)) ?_
   refine .on rfl (fun a w hS hI hp => does_val (x_not rfl (hp.V 1 rfl rfl)) rfl) ?_
   refine .mv 2 rfl rfl rfl rfl ?_
   refine .oy 3 16 rfl rfl rfl rfl rfl ((congrArg (!·) c1)) (fun a w hS hI hp => does_val (x_move rfl (hS.get 5 rfl)) rfl) ?_
   refine .oy 3 16 rfl rfl rfl rfl rfl ((congrArg (!·) c1)) (fun a w hS hI hp => does_call (by kernel_rfl) (ar1 (hp.V 4 rfl rfl)) ((carillonlaw09_few.calls k _ _ l3 bf _ (Kd.C_below HR3 hI.1) HC3 bX).mono fun _ _ h => ⟨_, h.1, h.2.below, rfl⟩)) ?_
   refine .oy 3 16 rfl rfl rfl rfl rfl ((congrArg (!·) c1)) (fun a w hS hI hp => does_val (x_not rfl (hp.V 5 rfl rfl)) rfl) ?_
   refine .on rfl (fun a w hS hI hp => does_val (x_pickF rfl ((hp.V 3 rfl rfl).trans (bF (congrArg (!·) c1))) (hp.V 6 rfl rfl)) rfl) ?_
   exact .nil
  clear hS
  intro cd br hS bg hp
  replace hS := ((((hS.nil).cons (hS.get 5 rfl)).cons (hS.get 4 rfl)).cons (hS.get 2 rfl)).cons (hS.get 1 rfl)
  have bk : sl _ 20 = .bool (!bf) := hp 7 (by decide)
  have hS := hS.cons bk
  clear hp bk
  refine bv _ _ ?_
  refine wp_cond_false ((hS.get 0 rfl).trans (bF (congrArg (!·) c2))) ?_
  refine wp_skip ?_
  refine bC _ _ ?_
  refine wp_seq_k (fun cr bD => ?_)
  refine reg_any (I := I4_ w w3 w5 br) (ps := [IsV ((carillonlaw09_FrameApart.v0 aG aH aI aJ aK aL aM aN aO aP aa ab ac ad ae af ag ah ai aj ak al am)), IsV (.slice A2 l2.length bl), IsR k43 43 br.heap.size bu, IsV (.tuple #[.string aE, .bool aC]), IsV (.tuple #[.string aE, .bool aC]), IsV (.string aE), VB aC, IsV (.string aE), VB aC]) (by kernel_rfl) (by kernel_rfl) ?_ ?_ rfl hS ⟨bg.1, bg.2.1, bg.2.2.1, (bR br)⟩ ?_ ?_
  ·exact bs4
  ·exact .v (.v (.cons (Stays.r _ _ _ _) (.v (.v (.v (.v (.v (.v (.nil)))))))))
  ·refine .on rfl (fun a w hS hI hp => does_loadrow rfl (hS.get 2 rfl) (((hI.2.1).block g4 (blk_lt ba)).trans ba) Try.underlying28 rfl (by kernel_rfl) rfl) ?_
   refine .ms 3 rfl rfl rfl ?_
   refine .on rfl (fun a w hS hI hp => does_call (by kernel_rfl) (ar1 (hp.V 1 rfl rfl)) ((carillonlaw00_Tlvs.calls _ _ l2 bu _ (Kd.C_below HR2 hI.1) HC2 bW).mono fun _ _ h => h.elim fun v0 h => ⟨v0, h.1, h.2.2, Kd.R_lower h.2.1 hI.2.2.2.size⟩)) ?_
   refine .on rfl (fun a w hS hI hp => (IsC.of_r (hp.V 2 rfl rfl)).elim fun A_ h_ => h_.elim fun c_ h_ => h_.elim fun hv_ h_ => h_.elim fun hl_ hc_ => does_call (by kernel_rfl) (ar2 (hp.V 0 rfl rfl) (hv_)) ((frame_Put.calls k aG aH aI aJ aK aL aM aN aO aP aa ab ac ad ae af ag ah ai aj ak al am _ _ bu aE aC _ hc_ hl_ ca).mono fun _ _ h => ⟨_, h.1, h.2, rfl⟩)) ?_
   refine .mv 3 rfl rfl rfl rfl ?_
   iterate 2 refine .on rfl (fun a w hS hI hp => does_val (x_extract rfl (hp.V 4 rfl rfl) rfl) rfl) ?_
   refine .asg 5 rfl rfl rfl rfl ?_
   refine .asg 6 rfl rfl rfl rfl ?_
   exact .nil
  clear hS
  intro cl bB hS bo hp
  replace hS := ((((hS.nil).cons (hS.get 4 rfl)).cons (hS.get 3 rfl)).cons (hS.get 2 rfl)).cons (hS.get 1 rfl)
  have bI : sl _ 9 = .string aE := hp 7 (by decide)
  have bw : sl _ 10 = .bool aC := hp 8 (by decide)
  have hS := hS.cons bI
  have hS := hS.cons bw
  clear hp bI bw
  refine bD _ _ ?_
  refine wp_seq_k (fun ct bO => ?_)
  refine reg_any (I := I4_ w w3 w5 bB) (ps := [IsV ((carillonlaw09_FrameApart.v0 aQ aR aS aT aU aV aW aX aY aZ an ao ap aq ar au av aw ax ay az aA aB)), IsV (.slice A3 l3.length bn), IsR k43 43 bB.heap.size bE, IsV (.tuple #[.string aF, .bool aD]), IsV (.tuple #[.string aF, .bool aD]), IsV (.string aF), VB aD, IsV (.string aF), VB aD]) (by kernel_rfl) (by kernel_rfl) ?_ ?_ rfl hS ⟨bo.1, bo.2.1, bo.2.2.1, (bR bB)⟩ ?_ ?_
  ·exact bs4
  ·exact .v (.v (.cons (Stays.r _ _ _ _) (.v (.v (.v (.v (.v (.v (.nil)))))))))
  ·refine .on rfl (fun a w hS hI hp => does_loadrow rfl (hS.get 2 rfl) (((hI.2.2.1).block g6 (blk_lt bb)).trans bb) Try.underlying28 rfl (by kernel_rfl) rfl) ?_
   refine .ms 5 rfl rfl rfl ?_
   refine .on rfl (fun a w hS hI hp => does_call (by kernel_rfl) (ar1 (hp.V 1 rfl rfl)) ((carillonlaw00_Tlvs.calls _ _ l3 bE _ (Kd.C_below HR3 hI.1) HC3 cb).mono fun _ _ h => h.elim fun v0 h => ⟨v0, h.1, h.2.2, Kd.R_lower h.2.1 hI.2.2.2.size⟩)) ?_
   refine .on rfl (fun a w hS hI hp => (IsC.of_r (hp.V 2 rfl rfl)).elim fun A_ h_ => h_.elim fun c_ h_ => h_.elim fun hv_ h_ => h_.elim fun hl_ hc_ => does_call (by kernel_rfl) (ar2 (hp.V 0 rfl rfl) (hv_)) ((frame_Put.calls k aQ aR aS aT aU aV aW aX aY aZ an ao ap aq ar au av aw ax ay az aA aB _ _ bE aF aD _ hc_ hl_ cc).mono fun _ _ h => ⟨_, h.1, h.2, rfl⟩)) ?_
   refine .mv 3 rfl rfl rfl rfl ?_
   iterate 2 refine .on rfl (fun a w hS hI hp => does_val (x_extract rfl (hp.V 4 rfl rfl) rfl) rfl) ?_
   refine .asg 5 rfl rfl rfl rfl ?_
   refine .asg 6 rfl rfl rfl rfl ?_
   exact .nil
  clear hS
  intro cm bL hS bp hp
  have bx : sl _ 11 = .string aF := hp 7 (by decide)
  have bz : sl _ 12 = .bool aD := hp 8 (by decide)
  have hS := hS.cons bx
  have hS := hS.cons bz
  clear hp bx bz
  refine bO _ _ ?_
  refine wp_seq_k (fun cu bY => ?_)
  refine wp_seq_k (fun cv bP => ?_)
  refine reg_seq (I := I4_ w w3 w5 bL) (ps := [VB aC, VB (!aC), VB (!aC), VB aD, VB (!aD), VB (!aD)]) (by kernel_rfl) ?_ ?_ rfl hS ⟨bp.1, bp.2.1, bp.2.2.1, (bR bL)⟩ ?_ ?_
  ·exact bs4
  ·exact .v (.v (.v (.v (.v (.v (.nil))))))
  ·refine .ms 2 rfl rfl rfl ?_
   refine .on rfl (fun a w hS hI hp => does_val (x_not rfl (hp.V 0 rfl rfl)) rfl) ?_
   refine .mv 1 rfl rfl rfl rfl ?_
   refine .oy 2 38 rfl rfl rfl rfl rfl ((congrArg (!·) c3)) (fun a w hS hI hp => does_val (x_move rfl (hS.get 0 rfl)) rfl) ?_
   refine .oy 2 38 rfl rfl rfl rfl rfl ((congrArg (!·) c3)) (fun a w hS hI hp => does_val (x_not rfl (hp.V 3 rfl rfl)) rfl) ?_
   refine .on rfl (fun a w hS hI hp => does_val (x_pickF rfl ((hp.V 2 rfl rfl).trans (bF (congrArg (!·) c3))) (hp.V 4 rfl rfl)) rfl) ?_
   exact .nil
  clear hS
  intro cn bM hS bq hp
  replace hS := ((((((hS.nil).cons (hS.get 7 rfl)).cons (hS.get 6 rfl)).cons (hS.get 5 rfl)).cons (hS.get 4 rfl)).cons (hS.get 3 rfl)).cons (hS.get 1 rfl)
  have bA : sl _ 41 = .bool (!aD) := hp 5 (by decide)
  have hS := hS.cons bA
  clear hp bA
  refine bP _ _ ?_
  refine wp_cond_true ((hS.get 0 rfl).trans (bT (congrArg (!·) (Bool.eq_false_iff.2 c4)))) ?_
  refine wp_seq_k (fun cw bQ => ?_)
  refine reg_seq (I := I4_ w w3 w5 bM) (ps := [VB bm, VB bm]) (by kernel_rfl) ?_ ?_ rfl hS ⟨bq.1, bq.2.1, bq.2.2.1, (bR bM)⟩ ?_ ?_
  ·exact bs4
  ·exact .v (.v (.nil))
  ·refine .on rfl (fun a w hS hI hp => does_call (by kernel_rfl) rfl ((carillonlaw09_awake.calls k  bm _  bN).mono fun _ _ h => ⟨_, h.1, h.2, rfl⟩)) ?_
   refine .asg 0 rfl rfl rfl rfl ?_
   exact .nil
  clear hS
  intro cx cz hS bZ hp
  replace hS := hS.nil
  have bt : sl _ 8 = .bool bm := hp 1 (by decide)
  have hS := hS.cons bt
  clear hp bt
  refine bQ _ _ ?_
  refine wp_ret ?_
  (try simp only [Exit.then, Exit.inBlock, Exit.jump, Exit.noGoto])
  exact bodyPost_ret (v := .bool true) (by rw [results_tmp rfl]; exact congrArg (Result.ok · _) ((hS.get 0 rfl).trans (congrArg Value.bool hret))) hS.nodef ⟨rfl, bZ.1⟩
 rw [if_pos c4] at H
 by_cases c5 : ((aG == aQ) && ((aH == aR) && ((aI == aS) && ((aJ == aT) && ((aK == aU) && ((aL == aV) && ((aM == aW) && ((aN == aX) && ((aO == aY) && ((aP == aZ) && ((aa == an) && ((ab == ao) && ((ac == ap) && ((ad == aq) && ((ae == ar) && ((af == au) && ((ag == av) && ((ah == aw) && ((ai == ax) && ((aj == ay) && ((ak == az) && ((al == aA) && (am == aB))))))))))))))))))))))) = true
 rotate_left
 ·rw [if_neg c5] at H
  by_cases c6 : ((aE.toList == aF.toList) == false) = true
  rotate_left
  ·rw [if_neg c6] at H
   exact absurd H (by simp)
  rw [if_pos c6] at H
  obtain ⟨bm, bN, H⟩ := Option.bind_eq_some_iff.mp H
  have hret := Option.some.inj H
  clear H
  refine calls_of_wp (fn := Try.f6) (by kernel_rfl) rfl ?_
  have hS := St.enter #[(carillonlaw09_FrameApart.v0 aG aH aI aJ aK aL aM aN aO aP aa ab ac ad ae af ag ah ai aj ak al am), (carillonlaw09_FrameApart.v0 aQ aR aS aT aU aV aW aX aY aZ an ao ap aq ar au av aw ax ay az aA aB), .slice A2 l2.length bl, .slice A3 l3.length bn] 58 (by simp) [(0, (carillonlaw09_FrameApart.v0 aG aH aI aJ aK aL aM aN aO aP aa ab ac ad ae af ag ah ai aj ak al am)), (1, (carillonlaw09_FrameApart.v0 aQ aR aS aT aU aV aW aX aY aZ an ao ap aq ar au av aw ax ay az aA aB)), (2, .slice A2 l2.length bl), (3, .slice A3 l3.length bn)] (by simp)
  have bG := Below.refl w.heap.size w
  refine wp_seq_k (fun K1 bH => ?_)
  refine reg_seq_tail 1 (I := I1_ w) (ps := [IsB (carillonlaw09_FrameApart.c1 aG aH aI aJ aK aL aM aN aO aP aa ab ac ad ae af ag ah ai aj ak al am) 28 w.heap.size]) (by kernel_rfl) ?_ ?_ rfl hS bG ?_ ?_
  ·exact bs1
  ·exact .cons (Stays.b _ _ _) (.nil)
  ·refine .on rfl (fun a w hS hI hp => does_var (x_box rfl (congrArg Value.cells (hS.get 0 rfl))) (hI).size) ?_
   exact .nil
  clear hS
  intro cg w3 hS bJ hp
  replace hS := (((hS.nil).cons (hS.get 3 rfl)).cons (hS.get 2 rfl)).cons (hS.get 1 rfl)
  obtain ⟨g4, bs, bS, ba⟩ := (show IsB _ 28 _ (sl _ 4) _ from hp 0 (by decide))
  have hS := hS.cons bs
  clear hp bs
  show wpList _ _ _ [_, _] _ _
  refine list_step rfl (R := fun v w' => Below _ _ w' ∧ (IsB (carillonlaw09_FrameApart.c1 aQ aR aS aT aU aV aW aX aY aZ an ao ap aq ar au av aw ax ay az aA aB) 28 w3.heap.size) v w') (does_var (x_box rfl (congrArg Value.cells (hS.get 1 rfl))) ((bR w3)).size) ?_
  rintro ck w5 ⟨hb, he⟩
  have bi := below_step bJ hb
  have bc := below_step (bR w3) hb
  obtain ⟨g6, rfl, bU, bb⟩ := he
  refine hS.next (v := .pointer (some ⟨g6, 0, none⟩)) (d := 5) rfl (by decide) (by rfl) ?_
  clear hS
  intro ch hS
  refine list_step rfl (R := fun v w' => Below _ _ w' ∧ (VB false) v w') (does_val (x_assign rfl (rfl)) rfl) ?_
  rintro bK w8 ⟨hb, he⟩
  have bj := below_step bi hb
  have bd := below_step bc hb
  have be := below_step (bR w5) hb
  obtain rfl : bK = .bool false := he
  refine hS.next (v := .bool false) (d := 8) rfl (by decide) (by rfl) ?_
  clear hS
  intro ci hS
  refine wpList_nil ?_
  refine bH _ _ ?_
  refine wp_seq_k (fun ce bC => ?_)
  refine wp_seq_k (fun cf bv => ?_)
  refine reg_seq (I := I4_ w w3 w5 w8) (ps := [IsV (.slice A2 l2.length bl), VB bh, VB (!bh), VB (!bh), IsV (.slice A3 l3.length bn), VB bf, VB (!bf), VB (!bf)]) (by kernel_rfl) ?_ ?_ rfl hS ⟨bj, bd, be, (bR w8)⟩ ?_ ?_
  ·exact bs4
  ·exact .v (.v (.v (.v (.v (.v (.v (.v (.nil))))))))
  ·refine .ms 4 rfl rfl rfl ?_
   refine .on rfl (fun a w hS hI hp => does_call (by kernel_rfl) (ar1 (hp.V 0 rfl rfl)) ((carillonlaw09_few.calls k _ _ l2 bh _ (Kd.C_below HR2 hI.1) HC2 bV).mono fun _ _ h => ⟨_, h.1, h.2.below, rfl⟩)) ?_
   refine .on rfl (fun a w hS hI hp => does_val (x_not rfl (hp.V 1 rfl rfl)) rfl) ?_
   refine .mv 2 rfl rfl rfl rfl ?_
   refine .oy 3 16 rfl rfl rfl rfl rfl ((congrArg (!·) c1)) (fun a w hS hI hp => does_val (x_move rfl (hS.get 5 rfl)) rfl) ?_
   refine .oy 3 16 rfl rfl rfl rfl rfl ((congrArg (!·) c1)) (fun a w hS hI hp => does_call (by kernel_rfl) (ar1 (hp.V 4 rfl rfl)) ((carillonlaw09_few.calls k _ _ l3 bf _ (Kd.C_below HR3 hI.1) HC3 bX).mono fun _ _ h => ⟨_, h.1, h.2.below, rfl⟩)) ?_
   refine .oy 3 16 rfl rfl rfl rfl rfl ((congrArg (!·) c1)) (fun a w hS hI hp => does_val (x_not rfl (hp.V 5 rfl rfl)) rfl) ?_
   refine .on rfl (fun a w hS hI hp => does_val (x_pickF rfl ((hp.V 3 rfl rfl).trans (bF (congrArg (!·) c1))) (hp.V 6 rfl rfl)) rfl) ?_
   exact .nil
  clear hS
  intro cd br hS bg hp
  replace hS := ((((hS.nil).cons (hS.get 5 rfl)).cons (hS.get 4 rfl)).cons (hS.get 2 rfl)).cons (hS.get 1 rfl)
  have bk : sl _ 20 = .bool (!bf) := hp 7 (by decide)
  have hS := hS.cons bk
  clear hp bk
  refine bv _ _ ?_
  refine wp_cond_false ((hS.get 0 rfl).trans (bF (congrArg (!·) c2))) ?_
  refine wp_skip ?_
  refine bC _ _ ?_
  refine wp_seq_k (fun cr bD => ?_)
  refine reg_any (I := I4_ w w3 w5 br) (ps := [IsV ((carillonlaw09_FrameApart.v0 aG aH aI aJ aK aL aM aN aO aP aa ab ac ad ae af ag ah ai aj ak al am)), IsV (.slice A2 l2.length bl), IsR k43 43 br.heap.size bu, IsV (.tuple #[.string aE, .bool aC]), IsV (.tuple #[.string aE, .bool aC]), IsV (.string aE), VB aC, IsV (.string aE), VB aC]) (by kernel_rfl) (by kernel_rfl) ?_ ?_ rfl hS ⟨bg.1, bg.2.1, bg.2.2.1, (bR br)⟩ ?_ ?_
  ·exact bs4
  ·exact .v (.v (.cons (Stays.r _ _ _ _) (.v (.v (.v (.v (.v (.v (.nil)))))))))
  ·refine .on rfl (fun a w hS hI hp => does_loadrow rfl (hS.get 2 rfl) (((hI.2.1).block g4 (blk_lt ba)).trans ba) Try.underlying28 rfl (by kernel_rfl) rfl) ?_
   refine .ms 3 rfl rfl rfl ?_
   refine .on rfl (fun a w hS hI hp => does_call (by kernel_rfl) (ar1 (hp.V 1 rfl rfl)) ((carillonlaw00_Tlvs.calls _ _ l2 bu _ (Kd.C_below HR2 hI.1) HC2 bW).mono fun _ _ h => h.elim fun v0 h => ⟨v0, h.1, h.2.2, Kd.R_lower h.2.1 hI.2.2.2.size⟩)) ?_
   refine .on rfl (fun a w hS hI hp => (IsC.of_r (hp.V 2 rfl rfl)).elim fun A_ h_ => h_.elim fun c_ h_ => h_.elim fun hv_ h_ => h_.elim fun hl_ hc_ => does_call (by kernel_rfl) (ar2 (hp.V 0 rfl rfl) (hv_)) ((frame_Put.calls k aG aH aI aJ aK aL aM aN aO aP aa ab ac ad ae af ag ah ai aj ak al am _ _ bu aE aC _ hc_ hl_ ca).mono fun _ _ h => ⟨_, h.1, h.2, rfl⟩)) ?_
   refine .mv 3 rfl rfl rfl rfl ?_
   iterate 2 refine .on rfl (fun a w hS hI hp => does_val (x_extract rfl (hp.V 4 rfl rfl) rfl) rfl) ?_
   refine .asg 5 rfl rfl rfl rfl ?_
   refine .asg 6 rfl rfl rfl rfl ?_
   exact .nil
  clear hS
  intro cl bB hS bo hp
  replace hS := ((((hS.nil).cons (hS.get 4 rfl)).cons (hS.get 3 rfl)).cons (hS.get 2 rfl)).cons (hS.get 1 rfl)
  have bI : sl _ 9 = .string aE := hp 7 (by decide)
  have bw : sl _ 10 = .bool aC := hp 8 (by decide)
  have hS := hS.cons bI
  have hS := hS.cons bw
  clear hp bI bw
  refine bD _ _ ?_
  refine wp_seq_k (fun ct bO => ?_)
  refine reg_any (I := I4_ w w3 w5 bB) (ps := [IsV ((carillonlaw09_FrameApart.v0 aQ aR aS aT aU aV aW aX aY aZ an ao ap aq ar au av aw ax ay az aA aB)), IsV (.slice A3 l3.length bn), IsR k43 43 bB.heap.size bE, IsV (.tuple #[.string aF, .bool aD]), IsV (.tuple #[.string aF, .bool aD]), IsV (.string aF), VB aD, IsV (.string aF), VB aD]) (by kernel_rfl) (by kernel_rfl) ?_ ?_ rfl hS ⟨bo.1, bo.2.1, bo.2.2.1, (bR bB)⟩ ?_ ?_
  ·exact bs4
  ·exact .v (.v (.cons (Stays.r _ _ _ _) (.v (.v (.v (.v (.v (.v (.nil)))))))))
  ·refine .on rfl (fun a w hS hI hp => does_loadrow rfl (hS.get 2 rfl) (((hI.2.2.1).block g6 (blk_lt bb)).trans bb) Try.underlying28 rfl (by kernel_rfl) rfl) ?_
   refine .ms 5 rfl rfl rfl ?_
   refine .on rfl (fun a w hS hI hp => does_call (by kernel_rfl) (ar1 (hp.V 1 rfl rfl)) ((carillonlaw00_Tlvs.calls _ _ l3 bE _ (Kd.C_below HR3 hI.1) HC3 cb).mono fun _ _ h => h.elim fun v0 h => ⟨v0, h.1, h.2.2, Kd.R_lower h.2.1 hI.2.2.2.size⟩)) ?_
   refine .on rfl (fun a w hS hI hp => (IsC.of_r (hp.V 2 rfl rfl)).elim fun A_ h_ => h_.elim fun c_ h_ => h_.elim fun hv_ h_ => h_.elim fun hl_ hc_ => does_call (by kernel_rfl) (ar2 (hp.V 0 rfl rfl) (hv_)) ((frame_Put.calls k aQ aR aS aT aU aV aW aX aY aZ an ao ap aq ar au av aw ax ay az aA aB _ _ bE aF aD _ hc_ hl_ cc).mono fun _ _ h => ⟨_, h.1, h.2, rfl⟩)) ?_
   refine .mv 3 rfl rfl rfl rfl ?_
   iterate 2 refine .on rfl (fun a w hS hI hp => does_val (x_extract rfl (hp.V 4 rfl rfl) rfl) rfl) ?_
   refine .asg 5 rfl rfl rfl rfl ?_
   refine .asg 6 rfl rfl rfl rfl ?_
   exact .nil
  clear hS
  intro cm bL hS bp hp
  have bx : sl _ 11 = .string aF := hp 7 (by decide)
  have bz : sl _ 12 = .bool aD := hp 8 (by decide)
  have hS := hS.cons bx
  have hS := hS.cons bz
  clear hp bx bz
  refine bO _ _ ?_
  refine wp_seq_k (fun cu bY => ?_)
  refine wp_seq_k (fun cv bP => ?_)
  refine reg_seq (I := I4_ w w3 w5 bL) (ps := [VB aC, VB (!aC), VB (!aC), VB aD, VB (!aD), VB (!aD)]) (by kernel_rfl) ?_ ?_ rfl hS ⟨bp.1, bp.2.1, bp.2.2.1, (bR bL)⟩ ?_ ?_
  ·exact bs4
  ·exact .v (.v (.v (.v (.v (.v (.nil))))))
  ·refine .ms 2 rfl rfl rfl ?_
   refine .on rfl (fun a w hS hI hp => does_val (x_not rfl (hp.V 0 rfl rfl)) rfl) ?_
   refine .mv 1 rfl rfl rfl rfl ?_
   refine .oy 2 38 rfl rfl rfl rfl rfl ((congrArg (!·) c3)) (fun a w hS hI hp => does_val (x_move rfl (hS.get 0 rfl)) rfl) ?_
   refine .oy 2 38 rfl rfl rfl rfl rfl ((congrArg (!·) c3)) (fun a w hS hI hp => does_val (x_not rfl (hp.V 3 rfl rfl)) rfl) ?_
   refine .on rfl (fun a w hS hI hp => does_val (x_pickF rfl ((hp.V 2 rfl rfl).trans (bF (congrArg (!·) c3))) (hp.V 4 rfl rfl)) rfl) ?_
   exact .nil
  clear hS
  intro cn bM hS bq hp
  replace hS := ((((((hS.nil).cons (hS.get 7 rfl)).cons (hS.get 6 rfl)).cons (hS.get 5 rfl)).cons (hS.get 4 rfl)).cons (hS.get 3 rfl)).cons (hS.get 1 rfl)
  have bA : sl _ 41 = .bool (!aD) := hp 5 (by decide)
  have hS := hS.cons bA
  clear hp bA
  refine bP _ _ ?_
  refine wp_cond_false ((hS.get 0 rfl).trans (bF (congrArg (!·) c4))) ?_
  refine wp_skip ?_
  refine bY _ _ ?_
  refine wp_seq_k (fun cw bQ => ?_)
  refine reg_seq (I := I4_ w w3 w5 bM) (ps := [IsV (.string aE), IsV (.string aF), VB (aE.toList == aF.toList), IsV ((carillonlaw09_FrameApart.v0 aG aH aI aJ aK aL aM aN aO aP aa ab ac ad ae af ag ah ai aj ak al am)), IsV ((carillonlaw09_FrameApart.v0 aQ aR aS aT aU aV aW aX aY aZ an ao ap aq ar au av aw ax ay az aA aB)), VB ((aG == aQ) && ((aH == aR) && ((aI == aS) && ((aJ == aT) && ((aK == aU) && ((aL == aV) && ((aM == aW) && ((aN == aX) && ((aO == aY) && ((aP == aZ) && ((aa == an) && ((ab == ao) && ((ac == ap) && ((ad == aq) && ((ae == ar) && ((af == au) && ((ag == av) && ((ah == aw) && ((ai == ax) && ((aj == ay) && ((ak == az) && ((al == aA) && (am == aB))))))))))))))))))))))), VB ((aG == aQ) && ((aH == aR) && ((aI == aS) && ((aJ == aT) && ((aK == aU) && ((aL == aV) && ((aM == aW) && ((aN == aX) && ((aO == aY) && ((aP == aZ) && ((aa == an) && ((ab == ao) && ((ac == ap) && ((ad == aq) && ((ae == ar) && ((af == au) && ((ag == av) && ((ah == aw) && ((ai == ax) && ((aj == ay) && ((ak == az) && ((al == aA) && (am == aB))))))))))))))))))))))), VU, VU, VU, VB false, VB ((aE.toList == aF.toList) == false), VB ((aE.toList == aF.toList) == false), VB bm, VB bm, VB bm]) (by kernel_rfl) ?_ ?_ rfl hS ⟨bq.1, bq.2.1, bq.2.2.1, (bR bM)⟩ ?_ ?_
  ·exact bs4
  ·exact .v (.v (.v (.v (.v (.v (.v (.v (.v (.v (.v (.v (.v (.v (.v (.v (.nil))))))))))))))))
  ·refine .ms 2 rfl rfl rfl ?_
   refine .ms 1 rfl rfl rfl ?_
   refine .on rfl (fun a w hS hI hp => does_val (x_bin rfl (hp.V 0 rfl rfl) (hp.V 1 rfl rfl) (b_eqs _ _ _ _ _)) rfl) ?_
   refine .on rfl (fun a w hS hI hp => does_loadrow rfl (hS.get 4 rfl) (((hI.2.1).block g4 (blk_lt ba)).trans ba) Try.underlying28 rfl (by kernel_rfl) rfl) ?_
   refine .on rfl (fun a w hS hI hp => does_loadrow rfl (hS.get 3 rfl) (((hI.2.2.1).block g6 (blk_lt bb)).trans bb) Try.underlying28 rfl (by kernel_rfl) rfl) ?_
   refine .on rfl (fun a w hS hI hp => does_val (x_bin rfl (hp.V 3 rfl rfl) (hp.V 4 rfl rfl) (carillonlaw09_FrameApart.eql28 _ _ _ aG aH aI aJ aK aL aM aN aO aP aa ab ac ad ae af ag ah ai aj ak al am aQ aR aS aT aU aV aW aX aY aZ an ao ap aq ar au av aw ax ay az aA aB)) rfl) ?_
   refine .mv 5 rfl rfl rfl rfl ?_
   iterate 3 refine .sn 6 49 rfl rfl rfl rfl rfl ((Bool.eq_false_iff.2 c5)) ?_
   refine .pf 6 rfl rfl rfl rfl ((Bool.eq_false_iff.2 c5)) (fun _ => rfl) ?_
   refine .on rfl (fun a w hS hI hp => does_val (x_bin rfl (hp.V 2 rfl rfl) (hp.V 10 rfl rfl) (b_eqb _ _ _ _ _ (by kernel_rfl))) rfl) ?_
   refine .mv 11 rfl rfl rfl rfl ?_
   refine .oy 12 55 rfl rfl rfl rfl rfl c6 (fun a w hS hI hp => does_call (by kernel_rfl) rfl ((carillonlaw09_awake.calls k  bm _  bN).mono fun _ _ h => ⟨_, h.1, h.2, rfl⟩)) ?_
   refine .pt 12 13 rfl rfl rfl rfl c6 rfl rfl ?_
   refine .asg 14 rfl rfl rfl rfl ?_
   exact .nil
  clear hS
  intro cx cz hS bZ hp
  replace hS := hS.nil
  have bt : sl _ 8 = .bool bm := hp 15 (by decide)
  have hS := hS.cons bt
  clear hp bt
  refine bQ _ _ ?_
  refine wp_ret ?_
  (try simp only [Exit.then, Exit.inBlock, Exit.jump, Exit.noGoto])
  exact bodyPost_ret (v := .bool true) (by rw [results_tmp rfl]; exact congrArg (Result.ok · _) ((hS.get 0 rfl).trans (congrArg Value.bool hret))) hS.nodef ⟨rfl, bZ.1⟩
 rw [if_pos c5] at H
 obtain ⟨bm, bN, H⟩ := Option.bind_eq_some_iff.mp H
 by_cases c6 : ((aE.toList == aF.toList) == bm) = true
 rotate_left
 ·rw [if_neg c6] at H
  exact absurd H (by simp)
 rw [if_pos c6] at H
 obtain ⟨cj, cB, H⟩ := Option.bind_eq_some_iff.mp H
 have hret := Option.some.inj H
 clear H
 refine calls_of_wp (fn := Try.f6) (by kernel_rfl) rfl ?_
 have hS := St.enter #[(carillonlaw09_FrameApart.v0 aG aH aI aJ aK aL aM aN aO aP aa ab ac ad ae af ag ah ai aj ak al am), (carillonlaw09_FrameApart.v0 aQ aR aS aT aU aV aW aX aY aZ an ao ap aq ar au av aw ax ay az aA aB), .slice A2 l2.length bl, .slice A3 l3.length bn] 58 (by simp) [(0, (carillonlaw09_FrameApart.v0 aG aH aI aJ aK aL aM aN aO aP aa ab ac ad ae af ag ah ai aj ak al am)), (1, (carillonlaw09_FrameApart.v0 aQ aR aS aT aU aV aW aX aY aZ an ao ap aq ar au av aw ax ay az aA aB)), (2, .slice A2 l2.length bl), (3, .slice A3 l3.length bn)] (by simp)
 have bG := Below.refl w.heap.size w
 refine wp_seq_k (fun K1 bH => ?_)
 refine reg_seq_tail 1 (I := I1_ w) (ps := [IsB (carillonlaw09_FrameApart.c1 aG aH aI aJ aK aL aM aN aO aP aa ab ac ad ae af ag ah ai aj ak al am) 28 w.heap.size]) (by kernel_rfl) ?_ ?_ rfl hS bG ?_ ?_
 ·exact bs1
 ·exact .cons (Stays.b _ _ _) (.nil)
 ·refine .on rfl (fun a w hS hI hp => does_var (x_box rfl (congrArg Value.cells (hS.get 0 rfl))) (hI).size) ?_
  exact .nil
 clear hS
 intro cg w3 hS bJ hp
 replace hS := (((hS.nil).cons (hS.get 3 rfl)).cons (hS.get 2 rfl)).cons (hS.get 1 rfl)
 obtain ⟨g4, bs, bS, ba⟩ := (show IsB _ 28 _ (sl _ 4) _ from hp 0 (by decide))
 have hS := hS.cons bs
 clear hp bs
 show wpList _ _ _ [_, _] _ _
 refine list_step rfl (R := fun v w' => Below _ _ w' ∧ (IsB (carillonlaw09_FrameApart.c1 aQ aR aS aT aU aV aW aX aY aZ an ao ap aq ar au av aw ax ay az aA aB) 28 w3.heap.size) v w') (does_var (x_box rfl (congrArg Value.cells (hS.get 1 rfl))) ((bR w3)).size) ?_
 rintro ck w5 ⟨hb, he⟩
 have bi := below_step bJ hb
 have bc := below_step (bR w3) hb
 obtain ⟨g6, rfl, bU, bb⟩ := he
 refine hS.next (v := .pointer (some ⟨g6, 0, none⟩)) (d := 5) rfl (by decide) (by rfl) ?_
 clear hS
 intro ch hS
 refine list_step rfl (R := fun v w' => Below _ _ w' ∧ (VB false) v w') (does_val (x_assign rfl (rfl)) rfl) ?_
 rintro bK w8 ⟨hb, he⟩
 have bj := below_step bi hb
 have bd := below_step bc hb
 have be := below_step (bR w5) hb
 obtain rfl : bK = .bool false := he
 refine hS.next (v := .bool false) (d := 8) rfl (by decide) (by rfl) ?_
 clear hS
 intro ci hS
 refine wpList_nil ?_
 refine bH _ _ ?_
 refine wp_seq_k (fun ce bC => ?_)
 refine wp_seq_k (fun cf bv => ?_)
 refine reg_seq (I := I4_ w w3 w5 w8) (ps := [IsV (.slice A2 l2.length bl), VB bh, VB (!bh), VB (!bh), IsV (.slice A3 l3.length bn), VB bf, VB (!bf), VB (!bf)]) (by kernel_rfl) ?_ ?_ rfl hS ⟨bj, bd, be, (bR w8)⟩ ?_ ?_
 ·exact bs4
 ·exact .v (.v (.v (.v (.v (.v (.v (.v (.nil))))))))
 ·refine .ms 4 rfl rfl rfl ?_
  refine .on rfl (fun a w hS hI hp => does_call (by kernel_rfl) (ar1 (hp.V 0 rfl rfl)) ((carillonlaw09_few.calls k _ _ l2 bh _ (Kd.C_below HR2 hI.1) HC2 bV).mono fun _ _ h => ⟨_, h.1, h.2.below, rfl⟩)) ?_
  refine .on rfl (fun a w hS hI hp => does_val (x_not rfl (hp.V 1 rfl rfl)) rfl) ?_
  refine .mv 2 rfl rfl rfl rfl ?_
  refine .oy 3 16 rfl rfl rfl rfl rfl ((congrArg (!·) c1)) (fun a w hS hI hp => does_val (x_move rfl (hS.get 5 rfl)) rfl) ?_
  refine .oy 3 16 rfl rfl rfl rfl rfl ((congrArg (!·) c1)) (fun a w hS hI hp => does_call (by kernel_rfl) (ar1 (hp.V 4 rfl rfl)) ((carillonlaw09_few.calls k _ _ l3 bf _ (Kd.C_below HR3 hI.1) HC3 bX).mono fun _ _ h => ⟨_, h.1, h.2.below, rfl⟩)) ?_
  refine .oy 3 16 rfl rfl rfl rfl rfl ((congrArg (!·) c1)) (fun a w hS hI hp => does_val (x_not rfl (hp.V 5 rfl rfl)) rfl) ?_
  refine .on rfl (fun a w hS hI hp => does_val (x_pickF rfl ((hp.V 3 rfl rfl).trans (bF (congrArg (!·) c1))) (hp.V 6 rfl rfl)) rfl) ?_
  exact .nil
 clear hS
 intro cd br hS bg hp
 replace hS := ((((hS.nil).cons (hS.get 5 rfl)).cons (hS.get 4 rfl)).cons (hS.get 2 rfl)).cons (hS.get 1 rfl)
 have bk : sl _ 20 = .bool (!bf) := hp 7 (by decide)
 have hS := hS.cons bk
 clear hp bk
 refine bv _ _ ?_
 refine wp_cond_false ((hS.get 0 rfl).trans (bF (congrArg (!·) c2))) ?_
 refine wp_skip ?_
 refine bC _ _ ?_
 refine wp_seq_k (fun cr bD => ?_)
 refine reg_any (I := I4_ w w3 w5 br) (ps := [IsV ((carillonlaw09_FrameApart.v0 aG aH aI aJ aK aL aM aN aO aP aa ab ac ad ae af ag ah ai aj ak al am)), IsV (.slice A2 l2.length bl), IsR k43 43 br.heap.size bu, IsV (.tuple #[.string aE, .bool aC]), IsV (.tuple #[.string aE, .bool aC]), IsV (.string aE), VB aC, IsV (.string aE), VB aC]) (by kernel_rfl) (by kernel_rfl) ?_ ?_ rfl hS ⟨bg.1, bg.2.1, bg.2.2.1, (bR br)⟩ ?_ ?_
 ·exact bs4
 ·exact .v (.v (.cons (Stays.r _ _ _ _) (.v (.v (.v (.v (.v (.v (.nil)))))))))
 ·refine .on rfl (fun a w hS hI hp => does_loadrow rfl (hS.get 2 rfl) (((hI.2.1).block g4 (blk_lt ba)).trans ba) Try.underlying28 rfl (by kernel_rfl) rfl) ?_
  refine .ms 3 rfl rfl rfl ?_
  refine .on rfl (fun a w hS hI hp => does_call (by kernel_rfl) (ar1 (hp.V 1 rfl rfl)) ((carillonlaw00_Tlvs.calls _ _ l2 bu _ (Kd.C_below HR2 hI.1) HC2 bW).mono fun _ _ h => h.elim fun v0 h => ⟨v0, h.1, h.2.2, Kd.R_lower h.2.1 hI.2.2.2.size⟩)) ?_
  refine .on rfl (fun a w hS hI hp => (IsC.of_r (hp.V 2 rfl rfl)).elim fun A_ h_ => h_.elim fun c_ h_ => h_.elim fun hv_ h_ => h_.elim fun hl_ hc_ => does_call (by kernel_rfl) (ar2 (hp.V 0 rfl rfl) (hv_)) ((frame_Put.calls k aG aH aI aJ aK aL aM aN aO aP aa ab ac ad ae af ag ah ai aj ak al am _ _ bu aE aC _ hc_ hl_ ca).mono fun _ _ h => ⟨_, h.1, h.2, rfl⟩)) ?_
  refine .mv 3 rfl rfl rfl rfl ?_
  iterate 2 refine .on rfl (fun a w hS hI hp => does_val (x_extract rfl (hp.V 4 rfl rfl) rfl) rfl) ?_
  refine .asg 5 rfl rfl rfl rfl ?_
  refine .asg 6 rfl rfl rfl rfl ?_
  exact .nil
 clear hS
 intro cl bB hS bo hp
 replace hS := ((((hS.nil).cons (hS.get 4 rfl)).cons (hS.get 3 rfl)).cons (hS.get 2 rfl)).cons (hS.get 1 rfl)
 have bI : sl _ 9 = .string aE := hp 7 (by decide)
 have bw : sl _ 10 = .bool aC := hp 8 (by decide)
 have hS := hS.cons bI
 have hS := hS.cons bw
 clear hp bI bw
 refine bD _ _ ?_
 refine wp_seq_k (fun ct bO => ?_)
 refine reg_any (I := I4_ w w3 w5 bB) (ps := [IsV ((carillonlaw09_FrameApart.v0 aQ aR aS aT aU aV aW aX aY aZ an ao ap aq ar au av aw ax ay az aA aB)), IsV (.slice A3 l3.length bn), IsR k43 43 bB.heap.size bE, IsV (.tuple #[.string aF, .bool aD]), IsV (.tuple #[.string aF, .bool aD]), IsV (.string aF), VB aD, IsV (.string aF), VB aD]) (by kernel_rfl) (by kernel_rfl) ?_ ?_ rfl hS ⟨bo.1, bo.2.1, bo.2.2.1, (bR bB)⟩ ?_ ?_
 ·exact bs4
 ·exact .v (.v (.cons (Stays.r _ _ _ _) (.v (.v (.v (.v (.v (.v (.nil)))))))))
 ·refine .on rfl (fun a w hS hI hp => does_loadrow rfl (hS.get 2 rfl) (((hI.2.2.1).block g6 (blk_lt bb)).trans bb) Try.underlying28 rfl (by kernel_rfl) rfl) ?_
  refine .ms 5 rfl rfl rfl ?_
  refine .on rfl (fun a w hS hI hp => does_call (by kernel_rfl) (ar1 (hp.V 1 rfl rfl)) ((carillonlaw00_Tlvs.calls _ _ l3 bE _ (Kd.C_below HR3 hI.1) HC3 cb).mono fun _ _ h => h.elim fun v0 h => ⟨v0, h.1, h.2.2, Kd.R_lower h.2.1 hI.2.2.2.size⟩)) ?_
  refine .on rfl (fun a w hS hI hp => (IsC.of_r (hp.V 2 rfl rfl)).elim fun A_ h_ => h_.elim fun c_ h_ => h_.elim fun hv_ h_ => h_.elim fun hl_ hc_ => does_call (by kernel_rfl) (ar2 (hp.V 0 rfl rfl) (hv_)) ((frame_Put.calls k aQ aR aS aT aU aV aW aX aY aZ an ao ap aq ar au av aw ax ay az aA aB _ _ bE aF aD _ hc_ hl_ cc).mono fun _ _ h => ⟨_, h.1, h.2, rfl⟩)) ?_
  refine .mv 3 rfl rfl rfl rfl ?_
  iterate 2 refine .on rfl (fun a w hS hI hp => does_val (x_extract rfl (hp.V 4 rfl rfl) rfl) rfl) ?_
  refine .asg 5 rfl rfl rfl rfl ?_
  refine .asg 6 rfl rfl rfl rfl ?_
  exact .nil
 clear hS
 intro cm bL hS bp hp
 have bx : sl _ 11 = .string aF := hp 7 (by decide)
 have bz : sl _ 12 = .bool aD := hp 8 (by decide)
 have hS := hS.cons bx
 have hS := hS.cons bz
 clear hp bx bz
 refine bO _ _ ?_
 refine wp_seq_k (fun cu bY => ?_)
 refine wp_seq_k (fun cv bP => ?_)
 refine reg_seq (I := I4_ w w3 w5 bL) (ps := [VB aC, VB (!aC), VB (!aC), VB aD, VB (!aD), VB (!aD)]) (by kernel_rfl) ?_ ?_ rfl hS ⟨bp.1, bp.2.1, bp.2.2.1, (bR bL)⟩ ?_ ?_
 ·exact bs4
 ·exact .v (.v (.v (.v (.v (.v (.nil))))))
 ·refine .ms 2 rfl rfl rfl ?_
  refine .on rfl (fun a w hS hI hp => does_val (x_not rfl (hp.V 0 rfl rfl)) rfl) ?_
  refine .mv 1 rfl rfl rfl rfl ?_
  refine .oy 2 38 rfl rfl rfl rfl rfl ((congrArg (!·) c3)) (fun a w hS hI hp => does_val (x_move rfl (hS.get 0 rfl)) rfl) ?_
  refine .oy 2 38 rfl rfl rfl rfl rfl ((congrArg (!·) c3)) (fun a w hS hI hp => does_val (x_not rfl (hp.V 3 rfl rfl)) rfl) ?_
  refine .on rfl (fun a w hS hI hp => does_val (x_pickF rfl ((hp.V 2 rfl rfl).trans (bF (congrArg (!·) c3))) (hp.V 4 rfl rfl)) rfl) ?_
  exact .nil
 clear hS
 intro cn bM hS bq hp
 replace hS := ((((((hS.nil).cons (hS.get 7 rfl)).cons (hS.get 6 rfl)).cons (hS.get 5 rfl)).cons (hS.get 4 rfl)).cons (hS.get 3 rfl)).cons (hS.get 1 rfl)
 have bA : sl _ 41 = .bool (!aD) := hp 5 (by decide)
 have hS := hS.cons bA
 clear hp bA
 refine bP _ _ ?_
 refine wp_cond_false ((hS.get 0 rfl).trans (bF (congrArg (!·) c4))) ?_
 refine wp_skip ?_
 refine bY _ _ ?_
 refine wp_seq_k (fun cw bQ => ?_)
 refine reg_seq (I := I4_ w w3 w5 bM) (ps := [IsV (.string aE), IsV (.string aF), VB (aE.toList == aF.toList), IsV ((carillonlaw09_FrameApart.v0 aG aH aI aJ aK aL aM aN aO aP aa ab ac ad ae af ag ah ai aj ak al am)), IsV ((carillonlaw09_FrameApart.v0 aQ aR aS aT aU aV aW aX aY aZ an ao ap aq ar au av aw ax ay az aA aB)), VB ((aG == aQ) && ((aH == aR) && ((aI == aS) && ((aJ == aT) && ((aK == aU) && ((aL == aV) && ((aM == aW) && ((aN == aX) && ((aO == aY) && ((aP == aZ) && ((aa == an) && ((ab == ao) && ((ac == ap) && ((ad == aq) && ((ae == ar) && ((af == au) && ((ag == av) && ((ah == aw) && ((ai == ax) && ((aj == ay) && ((ak == az) && ((al == aA) && (am == aB))))))))))))))))))))))), VB ((aG == aQ) && ((aH == aR) && ((aI == aS) && ((aJ == aT) && ((aK == aU) && ((aL == aV) && ((aM == aW) && ((aN == aX) && ((aO == aY) && ((aP == aZ) && ((aa == an) && ((ab == ao) && ((ac == ap) && ((ad == aq) && ((ae == ar) && ((af == au) && ((ag == av) && ((ah == aw) && ((ai == ax) && ((aj == ay) && ((ak == az) && ((al == aA) && (am == aB))))))))))))))))))))))), IsV (.slice A2 l2.length bl), IsV (.slice A3 l3.length bn), VB bm, VB bm, VB ((aE.toList == aF.toList) == bm), VB ((aE.toList == aF.toList) == bm), VB cj, VB cj, VB cj]) (by kernel_rfl) ?_ ?_ rfl hS ⟨bq.1, bq.2.1, bq.2.2.1, (bR bM)⟩ ?_ ?_
 ·exact bs4
 ·exact .v (.v (.v (.v (.v (.v (.v (.v (.v (.v (.v (.v (.v (.v (.v (.v (.nil))))))))))))))))
 ·refine .ms 2 rfl rfl rfl ?_
  refine .ms 1 rfl rfl rfl ?_
  refine .on rfl (fun a w hS hI hp => does_val (x_bin rfl (hp.V 0 rfl rfl) (hp.V 1 rfl rfl) (b_eqs _ _ _ _ _)) rfl) ?_
  refine .on rfl (fun a w hS hI hp => does_loadrow rfl (hS.get 4 rfl) (((hI.2.1).block g4 (blk_lt ba)).trans ba) Try.underlying28 rfl (by kernel_rfl) rfl) ?_
  refine .on rfl (fun a w hS hI hp => does_loadrow rfl (hS.get 3 rfl) (((hI.2.2.1).block g6 (blk_lt bb)).trans bb) Try.underlying28 rfl (by kernel_rfl) rfl) ?_
  refine .on rfl (fun a w hS hI hp => does_val (x_bin rfl (hp.V 3 rfl rfl) (hp.V 4 rfl rfl) (carillonlaw09_FrameApart.eql28 _ _ _ aG aH aI aJ aK aL aM aN aO aP aa ab ac ad ae af ag ah ai aj ak al am aQ aR aS aT aU aV aW aX aY aZ an ao ap aq ar au av aw ax ay az aA aB)) rfl) ?_
  refine .mv 5 rfl rfl rfl rfl ?_
  refine .oy 6 49 rfl rfl rfl rfl rfl c5 (fun a w hS hI hp => does_val (x_move rfl (hS.get 5 rfl)) rfl) ?_
  refine .oy 6 49 rfl rfl rfl rfl rfl c5 (fun a w hS hI hp => does_val (x_move rfl (hS.get 6 rfl)) rfl) ?_
  refine .oy 6 49 rfl rfl rfl rfl rfl c5 (fun a w hS hI hp => does_call (by kernel_rfl) (ar2 (hp.V 7 rfl rfl) (hp.V 8 rfl rfl)) ((carillonlaw00_SameTlvs.calls k _ _ l2 _ _ l3 bm _ (Kd.C_below HR2 hI.1) HC2 (Kd.C_below HR3 hI.1) HC3 bN).mono fun _ _ h => ⟨_, h.1, h.2.below, rfl⟩)) ?_
  refine .pt 6 9 rfl rfl rfl rfl c5 rfl rfl ?_
  refine .on rfl (fun a w hS hI hp => does_val (x_bin rfl (hp.V 2 rfl rfl) (hp.V 10 rfl rfl) (b_eqb _ _ _ _ _ (by kernel_rfl))) rfl) ?_
  refine .mv 11 rfl rfl rfl rfl ?_
  refine .oy 12 55 rfl rfl rfl rfl rfl c6 (fun a w hS hI hp => does_call (by kernel_rfl) rfl ((carillonlaw09_awake.calls k  cj _  cB).mono fun _ _ h => ⟨_, h.1, h.2, rfl⟩)) ?_
  refine .pt 12 13 rfl rfl rfl rfl c6 rfl rfl ?_
  refine .asg 14 rfl rfl rfl rfl ?_
  exact .nil
 clear hS
 intro cL cP hS cF hp
 replace hS := hS.nil
 have bt : sl _ 8 = .bool cj := hp 15 (by decide)
 have hS := hS.cons bt
 clear hp bt
 refine bQ _ _ ?_
 refine wp_ret ?_
 (try simp only [Exit.then, Exit.inBlock, Exit.jump, Exit.noGoto])
 exact bodyPost_ret (v := .bool true) (by rw [results_tmp rfl]; exact congrArg (Result.ok · _) ((hS.get 0 rfl).trans (congrArg Value.bool hret))) hS.nodef ⟨rfl, cF.1⟩
def carillonlaw09_FrameApart.Pure : Prop := ∀ (aG aH aI aJ aK aL aM aN aO aP aa ab ac ad ae af ag ah ai aj ak al am aQ aR aS aT aU aV aW aX aY aZ an ao ap aq ar au av aw ax ay az aA aB : Int) (l2 : List (S43)) (l3 : List (S43)), (Lit.int .i64 aG).wf = true → (Lit.int .i64 aH).wf = true → (Lit.int .i64 aI).wf = true → (Lit.int .i64 aJ).wf = true → (Lit.int .u64 aK).wf = true → (Lit.int .i64 aL).wf = true → (Lit.int .i64 aM).wf = true → (Lit.int .i64 aN).wf = true → (Lit.int .i64 aO).wf = true → (Lit.int .u64 aP).wf = true → (Lit.int .i64 aa).wf = true → (Lit.int .i64 ab).wf = true → (Lit.int .i64 ac).wf = true → (Lit.int .i64 ad).wf = true → (Lit.int .i64 ae).wf = true → (Lit.int .i64 af).wf = true → (Lit.int .i64 ag).wf = true → (Lit.int .u64 ah).wf = true → (Lit.int .i64 ai).wf = true → (Lit.int .i64 aj).wf = true → (Lit.int .i64 ak).wf = true → (Lit.int .i64 al).wf = true → (Lit.int .i64 am).wf = true → (Lit.int .i64 aQ).wf = true → (Lit.int .i64 aR).wf = true → (Lit.int .i64 aS).wf = true → (Lit.int .i64 aT).wf = true → (Lit.int .u64 aU).wf = true → (Lit.int .i64 aV).wf = true → (Lit.int .i64 aW).wf = true → (Lit.int .i64 aX).wf = true → (Lit.int .i64 aY).wf = true → (Lit.int .u64 aZ).wf = true → (Lit.int .i64 an).wf = true → (Lit.int .i64 ao).wf = true → (Lit.int .i64 ap).wf = true → (Lit.int .i64 aq).wf = true → (Lit.int .i64 ar).wf = true → (Lit.int .i64 au).wf = true → (Lit.int .i64 av).wf = true → (Lit.int .u64 aw).wf = true → (Lit.int .i64 ax).wf = true → (Lit.int .i64 ay).wf = true → (Lit.int .i64 az).wf = true → (Lit.int .i64 aA).wf = true → (Lit.int .i64 aB).wf = true → l2.length ≤ maxLen → l2.length * 24 ≤ 140737488351232 → (∀ x ∈ l2, (Lit.int .i64 x.f0).wf = true ∧ x.f1.size ≤ 9223372036854775807) → l3.length ≤ maxLen → l3.length * 24 ≤ 140737488351232 → (∀ x ∈ l3, (Lit.int .i64 x.f0).wf = true ∧ x.f1.size ≤ 9223372036854775807) → ∃ k, carillonlaw09_FrameApart.f k aG aH aI aJ aK aL aM aN aO aP aa ab ac ad ae af ag ah ai aj ak al am aQ aR aS aT aU aV aW aX aY aZ an ao ap aq ar au av aw ax ay az aA aB l2 l3 = some true
theorem carillonlaw09_FrameApart.walk (P : carillonlaw09_FrameApart.Pure) (aG aH aI aJ aK aL aM aN aO aP aa ab ac ad ae af ag ah ai aj ak al am aQ aR aS aT aU aV aW aX aY aZ an ao ap aq ar au av aw ax ay az aA aB : Int) (a2 : Option Addr) (co : Nat) (l2 : List (S43)) (a3 : Option Addr) (cp : Nat) (l3 : List (S43)) (w : World) (w0_0 : (Lit.int .i64 aG).wf = true) (w0_1 : (Lit.int .i64 aH).wf = true) (w0_2 : (Lit.int .i64 aI).wf = true) (w0_3 : (Lit.int .i64 aJ).wf = true) (w0_4 : (Lit.int .u64 aK).wf = true) (w0_5 : (Lit.int .i64 aL).wf = true) (w0_6 : (Lit.int .i64 aM).wf = true) (w0_7 : (Lit.int .i64 aN).wf = true) (w0_8 : (Lit.int .i64 aO).wf = true) (w0_9 : (Lit.int .u64 aP).wf = true) (w0_10 : (Lit.int .i64 aa).wf = true) (w0_11 : (Lit.int .i64 ab).wf = true) (w0_12 : (Lit.int .i64 ac).wf = true) (w0_13 : (Lit.int .i64 ad).wf = true) (w0_14 : (Lit.int .i64 ae).wf = true) (w0_15 : (Lit.int .i64 af).wf = true) (w0_16 : (Lit.int .i64 ag).wf = true) (w0_17 : (Lit.int .u64 ah).wf = true) (w0_18 : (Lit.int .i64 ai).wf = true) (w0_19 : (Lit.int .i64 aj).wf = true) (w0_20 : (Lit.int .i64 ak).wf = true) (w0_21 : (Lit.int .i64 al).wf = true) (w0_22 : (Lit.int .i64 am).wf = true) (w1_0 : (Lit.int .i64 aQ).wf = true) (w1_1 : (Lit.int .i64 aR).wf = true) (w1_2 : (Lit.int .i64 aS).wf = true) (w1_3 : (Lit.int .i64 aT).wf = true) (w1_4 : (Lit.int .u64 aU).wf = true) (w1_5 : (Lit.int .i64 aV).wf = true) (w1_6 : (Lit.int .i64 aW).wf = true) (w1_7 : (Lit.int .i64 aX).wf = true) (w1_8 : (Lit.int .i64 aY).wf = true) (w1_9 : (Lit.int .u64 aZ).wf = true) (w1_10 : (Lit.int .i64 an).wf = true) (w1_11 : (Lit.int .i64 ao).wf = true) (w1_12 : (Lit.int .i64 ap).wf = true) (w1_13 : (Lit.int .i64 aq).wf = true) (w1_14 : (Lit.int .i64 ar).wf = true) (w1_15 : (Lit.int .i64 au).wf = true) (w1_16 : (Lit.int .i64 av).wf = true) (w1_17 : (Lit.int .u64 aw).wf = true) (w1_18 : (Lit.int .i64 ax).wf = true) (w1_19 : (Lit.int .i64 ay).wf = true) (w1_20 : (Lit.int .i64 az).wf = true) (w1_21 : (Lit.int .i64 aA).wf = true) (w1_22 : (Lit.int .i64 aB).wf = true) (hr2 : Kd.C k43 w a2 l2.length l2) (hc2 : l2.length ≤ co) (hm2 : l2.length ≤ maxLen) (y2 : l2.length * 24 ≤ 140737488351232) (hw2 : (∀ x ∈ l2, (Lit.int .i64 x.f0).wf = true ∧ x.f1.size ≤ 9223372036854775807)) (hr3 : Kd.C k43 w a3 l3.length l3) (hc3 : l3.length ≤ cp) (hm3 : l3.length ≤ maxLen) (y3 : l3.length * 24 ≤ 140737488351232) (hw3 : (∀ x ∈ l3, (Lit.int .i64 x.f0).wf = true ∧ x.f1.size ≤ 9223372036854775807)) :
  Calls Try.prog 6 #[(carillonlaw09_FrameApart.v0 aG aH aI aJ aK aL aM aN aO aP aa ab ac ad ae af ag ah ai aj ak al am), (carillonlaw09_FrameApart.v0 aQ aR aS aT aU aV aW aX aY aZ an ao ap aq ar au av aw ax ay az aA aB), .slice a2 l2.length co, .slice a3 l3.length cp] w fun e w' => e = .returned (.bool true) ∧ Below w.heap.size w w' := by
 obtain ⟨k, h⟩ := P aG aH aI aJ aK aL aM aN aO aP aa ab ac ad ae af ag ah ai aj ak al am aQ aR aS aT aU aV aW aX aY aZ an ao ap aq ar au av aw ax ay az aA aB l2 l3 w0_0 w0_1 w0_2 w0_3 w0_4 w0_5 w0_6 w0_7 w0_8 w0_9 w0_10 w0_11 w0_12 w0_13 w0_14 w0_15 w0_16 w0_17 w0_18 w0_19 w0_20 w0_21 w0_22 w1_0 w1_1 w1_2 w1_3 w1_4 w1_5 w1_6 w1_7 w1_8 w1_9 w1_10 w1_11 w1_12 w1_13 w1_14 w1_15 w1_16 w1_17 w1_18 w1_19 w1_20 w1_21 w1_22 hm2 y2 hw2 hm3 y3 hw3
 refine (carillonlaw09_FrameApart.calls k aG aH aI aJ aK aL aM aN aO aP aa ab ac ad ae af ag ah ai aj ak al am aQ aR aS aT aU aV aW aX aY aZ an ao ap aq ar au av aw ax ay az aA aB a2 co l2 a3 cp l3 w hr2 hc2 hr3 hc3 h).mono ?_
 rintro e w' ⟨rfl, hd⟩
 exact ⟨rfl, hd⟩
end Go.Proofs.Ytiomlbkakiienaa.P
