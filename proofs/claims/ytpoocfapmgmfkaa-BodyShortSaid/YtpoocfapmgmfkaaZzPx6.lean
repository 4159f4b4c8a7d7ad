/- Functions and loops of the given program as Lean functions, and that the code comes to what they say: written by this session's own program; Lean checks it. -/
import Derived.Test.YtpoocfapmgmfkaaZzPx0
import Derived.Test.YtpoocfapmgmfkaaZzPx3
import Derived.Test.YtpoocfapmgmfkaaZzPx4
import Derived.Test.YtpoocfapmgmfkaaZzPx5
namespace Go.Proofs.Ytpoocfapmgmfkaa.P
open Go.RowKit Go.Proofs.YtpoocfapmgmfkaaW.PrintWords Go.Proofs.YtpoocfapmgmfkaaW.PrintLast Go.Proofs.YtpoocfapmgmfkaaW.PrintMore
attribute [local go_sem] max2_int min2_int max_two min_two max_three min_three max_four min_four   -- for this text's walks alone
set_option linter.unusedVariables false
set_option linter.unusedSimpArgs false
/-! ### carillonlaw07_BodyShort: function 7: by our own printer -/
def carillonlaw07_BodyShort.f (k : Nat) (a0_0 a0_1 a0_2 a0_3 a0_4 a0_5 a0_6 a0_7 a0_8 a0_9 a0_10 a0_11 a0_12 a0_13 a0_14 a0_15 a0_16 a0_17 a0_18 a0_19 a0_20 a0_21 a0_22 : Int) (l1 : List Int) : Option (Bool) := (body_Put.f k [] a0_0 a0_1 a0_2 a0_3 a0_4 a0_5 a0_6 a0_7 a0_8 a0_9 a0_10 a0_11 a0_12 a0_13 a0_14 a0_15 a0_16 a0_17 a0_18 a0_19 a0_20 a0_21 a0_22).bind fun t6 => (if t6.2 = true then (if 0 ≤ (wrap64 ((t6.1.length : Int) - 1)) then (if (wrap64 ((t6.1.length : Int) - 1)) ≤ (t6.1.length : Int) then ((body_Get.f k a0_0 0 0 0 0 0 0 0 0 0 0 0 0 0 0 0 0 0 0 0 0 0 0 (t6.1.take (wrap64 ((t6.1.length : Int) - 1) : Int).toNat) 0).bind fun t20 => ((carillonlaw00_Bytes.f t6.1).bind fun t31 => (if (t31.length + l1.length) * 1 ≤ 140737488355328 then ((body_Get.f k a0_0 0 0 0 0 0 0 0 0 0 0 0 0 0 0 0 0 0 0 0 0 0 0 (t31 ++ l1 : List Int) 0).bind fun t32 => ((body_Get.f k a0_0 0 0 0 0 0 0 0 0 0 0 0 0 0 0 0 0 0 0 0 0 0 0 t6.1 1).bind fun t43 => (if t20.2.2.2.2.2.2.2.2.2.2.2.2.2.2.2.2.2.2.2.2.2.2.2.2 = 2 then (if t32.2.2.2.2.2.2.2.2.2.2.2.2.2.2.2.2.2.2.2.2.2.2.2.2 = 0 then (if t32.2.2.2.2.2.2.2.2.2.2.2.2.2.2.2.2.2.2.2.2.2.2.2.1 = (t6.1.length : Int) then (if t32.2.2.2.2.2.2.2.2.1 = a0_8 then (if ((t32.2.2.2.2.2.2.2.2.2.1 == a0_9) && (t32.2.2.2.2.2.2.2.2.2.2.1 == a0_10)) = true then (if t32.2.2.2.2.2.2.2.2.2.2.2.2.2.2.2.2.2.1 = a0_17 then (if t43.2.2.2.2.2.2.2.2.2.2.2.2.2.2.2.2.2.2.2.2.2.2.2.2 = 2 then ((carillonlaw07_awake.f k ).bind fun t53 => (some t53)) else (some false)) else (some false)) else (some false)) else (some false)) else (some false)) else (some false)) else (some false)))) else (none)))) else (none)) else (none)) else (if (t6.1.length : Int) = 0 then ((carillonlaw07_awake.f k ).bind fun t15 => (some t15)) else (some false)))
open Go.Proofs.Ytpoocfapmgmfkaa.E in
set_option maxRecDepth 100000 in
theorem carillonlaw07_BodyShort.eql25 (x y : Operand) (w : World) (a0 a1 b0 b1 : Int) : (do eqGuard .eql 25 x y (.agg #[.int .u64 a0, .int .i64 a1]) (.agg #[.int .u64 b0, .int .i64 b1]); binOp .eql 25 (.agg #[.int .u64 a0, .int .i64 a1]) (.agg #[.int .u64 b0, .int .i64 b1]) : Sem Value).run Try.prog w = .ok (.bool ((a0 == b0) && (a1 == b1))) w := by
  have hu3 := Try.underlying3
  have hu23 := Try.underlying23
  have hu25 := Try.underlying25
  conv => lhs; simp [eqGuard, go_sem, hu3, hu23, hu25]
  exact ite_and (ite_last)
abbrev carillonlaw07_BodyShort.v0 (x0 x1 x2 x3 x4 x5 x6 x7 x8 x9 x10 x11 x12 x13 x14 x15 x16 x17 x18 x19 x20 x21 x22 : Int) : Value := .agg #[.int .i64 x0, .int .i64 x1, .int .i64 x2, .int .i64 x3, .int .u64 x4, .int .i64 x5, .int .i64 x6, .int .i64 x7, .int .i64 x8, .int .u64 x9, .int .i64 x10, .int .i64 x11, .int .i64 x12, .int .i64 x13, .int .i64 x14, .int .i64 x15, .int .i64 x16, .int .u64 x17, .int .i64 x18, .int .i64 x19, .int .i64 x20, .int .i64 x21, .int .i64 x22]
abbrev carillonlaw07_BodyShort.c1 (x0 x1 x2 x3 x4 x5 x6 x7 x8 x9 x10 x11 x12 x13 x14 x15 x16 x17 x18 x19 x20 x21 x22 : Int) : Array Value := #[.int .i64 x0, .int .i64 x1, .int .i64 x2, .int .i64 x3, .int .u64 x4, .int .i64 x5, .int .i64 x6, .int .i64 x7, .int .i64 x8, .int .u64 x9, .int .i64 x10, .int .i64 x11, .int .i64 x12, .int .i64 x13, .int .i64 x14, .int .i64 x15, .int .i64 x16, .int .u64 x17, .int .i64 x18, .int .i64 x19, .int .i64 x20, .int .i64 x21, .int .i64 x22]
open Go.Proofs.Ytpoocfapmgmfkaa.E in
set_option maxHeartbeats 60000000 in
set_option maxRecDepth 100000 in
theorem carillonlaw07_BodyShort.calls (k : Nat) (ac aC aD aE aF aG aH aI ah ae ab ai aj ak al am an ad ao ap aq ar au : Int) (A1 : Option Addr) (dM : Nat) (l1 : List Int) (w : World) (HR1 : Kd.C (Kd.int .u8) w A1 l1.length l1) (HC1 : l1.length ≤ dM) (h : carillonlaw07_BodyShort.f k ac aC aD aE aF aG aH aI ah ae ab ai aj ak al am an ad ao ap aq ar au l1 = some true) :
    Calls Try.prog 7 #[.agg #[.int .i64 ac, .int .i64 aC, .int .i64 aD, .int .i64 aE, .int .u64 aF, .int .i64 aG, .int .i64 aH, .int .i64 aI, .int .i64 ah, .int .u64 ae, .int .i64 ab, .int .i64 ai, .int .i64 aj, .int .i64 ak, .int .i64 al, .int .i64 am, .int .i64 an, .int .u64 ad, .int .i64 ao, .int .i64 ap, .int .i64 aq, .int .i64 ar, .int .i64 au], .slice A1 l1.length dM] w fun e w' => e = .returned (.bool true) ∧ Below w.heap.size w w' := by
 have H := h
 clear h
 unfold carillonlaw07_BodyShort.f at H
 obtain ⟨t6, eg, H⟩ := Option.bind_eq_some_iff.mp H
 obtain ⟨aa, az⟩ := t6
 (try dsimp only at H)
 by_cases c1 : az = true
 rotate_left
 ·rw [if_neg c1] at H
  by_cases c2 : (aa.length : Int) = 0
  rotate_left
  ·rw [if_neg c2] at H
   exact absurd H (by simp)
  rw [if_pos c2] at H
  obtain ⟨dt, eq, H⟩ := Option.bind_eq_some_iff.mp H
  have hret := Option.some.inj H
  clear H
  refine calls_of_wp (fn := Try.f7) (by kernel_rfl) rfl ?_
  have hS := St.enter #[(carillonlaw07_BodyShort.v0 ac aC aD aE aF aG aH aI ah ae ab ai aj ak al am an ad ao ap aq ar au), .slice A1 l1.length dM] 101 (by simp) [(0, (carillonlaw07_BodyShort.v0 ac aC aD aE aF aG aH aI ah ae ab ai aj ak al am an ad ao ap aq ar au)), (1, .slice A1 l1.length dM)] (by simp)
  have dX := Below.refl w.heap.size w
  refine wp_seq_k (fun K1 dY => ?_)
  refine reg_seq (I := I1_ w) (ps := [IsB (carillonlaw07_BodyShort.c1 ac aC aD aE aF aG aH aI ah ae ab ai aj ak al am an ad ao ap aq ar au) 29 w.heap.size, VB false]) (by kernel_rfl) ?_ ?_ rfl hS dX ?_ ?_
  ·exact bs1
  ·exact .cons (Stays.b _ _ _) (.v (.nil))
  ·refine .on rfl (fun a w hS hI hp => does_var (x_box rfl (congrArg Value.cells (hS.get 0 rfl))) (hI).size) ?_
   refine .on rfl (fun a w hS hI hp => does_val (x_assign rfl (rfl)) rfl) ?_
   exact .nil
  clear hS
  intro eM w3 hS ed hp
  replace hS := (hS.nil).cons (hS.get 1 rfl)
  obtain ⟨g4, dn, ef, aJ⟩ := (show IsB _ 29 _ (sl _ 2) _ from hp 0 (by decide))
  have hS := hS.cons dn
  clear hp dn
  refine dY _ _ ?_
  refine wp_seq_k (fun K5 d0 => ?_)
  refine reg_seq (I := I2_ w w3) (ps := [IsV ((carillonlaw07_BodyShort.v0 ac aC aD aE aF aG aH aI ah ae ab ai aj ak al am an ad ao ap aq ar au)), IsT (fun v0_ => #[v0_, .bool az]) (IsC (Kd.int .u8) aa), IsT (fun v0_ => #[v0_, .bool az]) (IsC (Kd.int .u8) aa), IsC (Kd.int .u8) aa, VB az, IsC (Kd.int .u8) aa, VB az]) (by kernel_rfl) ?_ ?_ rfl hS ⟨ed, (bR w3)⟩ ?_ ?_
  ·exact bs2
  ·exact .v (.cons (Stays.t _ (Stays.c _ _)) (.cons (Stays.t _ (Stays.c _ _)) (.cons (Stays.c _ _) (.v (.cons (Stays.c _ _) (.v (.nil)))))))
  ·refine .on rfl (fun a w hS hI hp => does_loadrow rfl (hS.get 0 rfl) (((hI.2).block g4 (blk_lt aJ)).trans aJ) Try.underlying29 rfl (by kernel_rfl) rfl) ?_
   refine .on rfl (fun a w hS hI hp => does_call (by kernel_rfl) (ar2 (rfl) (hp.V 0 rfl rfl)) ((body_Put.calls k _ _ [] ac aC aD aE aF aG aH aI ah ae ab ai aj ak al am an ad ao ap aq ar au aa az _ (Kd.C_nil _ _) (Nat.le_refl _) eg).mono fun _ _ h => h.elim fun v0 h => ⟨_, h.1, h.2.2, v0, rfl, h.2.1⟩)) ?_
   refine .on rfl (fun a w hS hI hp => does_val (x_move rfl rfl) (hp.V 1 rfl rfl)) ?_
   refine .on rfl (fun a w hS hI hp => (hp.V 2 rfl rfl).elim fun v0 h0 => does_val (x_extract rfl h0.1 rfl) h0.2) ?_
   refine .on rfl (fun a w hS hI hp => (hp.V 2 rfl rfl).elim fun v0 h0 => does_val (x_extract rfl h0.1 rfl) rfl) ?_
   refine .on rfl (fun a w hS hI hp => does_val (x_assign rfl rfl) (hp.V 3 rfl rfl)) ?_
   refine .asg 4 rfl rfl rfl rfl ?_
   exact .nil
  clear hS
  intro eN w8 hS ds hp
  obtain ⟨A9, C9, dq, dm, dN⟩ := (show IsC (Kd.int .u8) aa (sl _ 5) w8 from hp 5 (by decide))
  have dr : sl _ 6 = .bool az := hp 6 (by decide)
  have hS := hS.cons dq
  have hS := hS.cons dr
  clear hp dq dr
  refine d0 _ _ ?_
  refine wp_seq_k (fun eJ dZ => ?_)
  refine wp_seq_k (fun eK dJ => ?_)
  refine reg_seq (I := I3_ w w3 w8) (ps := [VB az, VB (!az)]) (by kernel_rfl) ?_ ?_ rfl hS ⟨ds.1, ds.2, (bR w8)⟩ ?_ ?_
  ·exact bs3
  ·exact .v (.v (.nil))
  ·refine .ms 0 rfl rfl rfl ?_
   refine .on rfl (fun a w hS hI hp => does_val (x_not rfl (hp.V 0 rfl rfl)) rfl) ?_
   exact .nil
  clear hS
  intro ew ca hS bh hp
  replace hS := (((hS.nil).cons (hS.get 3 rfl)).cons (hS.get 2 rfl)).cons (hS.get 1 rfl)
  have ct : sl _ 23 = .bool (!az) := hp 1 (by decide)
  have hS := hS.cons ct
  clear hp ct
  refine dJ _ _ ?_
  refine wp_cond_true ((hS.get 0 rfl).trans (bT (congrArg (!·) (Bool.eq_false_iff.2 c1)))) ?_
  refine wp_seq_k (fun eL dK => ?_)
  refine reg_seq (I := I4_ w w3 w8 ca) (ps := [IsV (.slice A9 aa.length C9), VI (aa.length : Int), VB (decide ((aa.length : Int) = 0)), VB (decide ((aa.length : Int) = 0)), VB dt, VB dt, VB dt]) (by kernel_rfl) ?_ ?_ rfl hS ⟨bh.1, bh.2.1, bh.2.2, (bR ca)⟩ ?_ ?_
  ·exact bs4
  ·exact .v (.v (.v (.v (.v (.v (.v (.nil)))))))
  ·refine .ms 1 rfl rfl rfl ?_
   refine .on rfl (fun a w hS hI hp => does_val (x_len (e := 5) rfl (by kernel_rfl) (hp.V 0 rfl rfl)) rfl) ?_
   refine .on rfl (fun a w hS hI hp => does_val (x_bin rfl (hp.V 1 rfl rfl) (rfl) (b_eql _ _ _ _ _ _)) rfl) ?_
   refine .mv 2 rfl rfl rfl rfl ?_
   refine .oy 3 27 rfl rfl rfl rfl rfl ((decide_eq_true c2)) (fun a w hS hI hp => does_call (by kernel_rfl) rfl ((carillonlaw07_awake.calls k  dt _  eq).mono fun _ _ h => ⟨_, h.1, h.2, rfl⟩)) ?_
   refine .pt 3 4 rfl rfl rfl rfl ((decide_eq_true c2)) rfl rfl ?_
   refine .asg 5 rfl rfl rfl rfl ?_
   exact .nil
  clear hS
  intro e5 fp hS eB hp
  replace hS := hS.nil
  have dp : sl _ 4 = .bool dt := hp 6 (by decide)
  have hS := hS.cons dp
  clear hp dp
  refine dK _ _ ?_
  refine wp_ret ?_
  (try simp only [Exit.then, Exit.inBlock, Exit.jump, Exit.noGoto])
  exact bodyPost_ret (v := .bool true) (by rw [results_tmp rfl]; exact congrArg (Result.ok · _) ((hS.get 0 rfl).trans (congrArg Value.bool hret))) hS.nodef ⟨rfl, eB.1⟩
 rw [if_pos c1] at H
 by_cases c2 : 0 ≤ (wrap64 ((aa.length : Int) - 1))
 rotate_left
 ·rw [if_neg c2] at H
  exact absurd H (by simp)
 rw [if_pos c2] at H
 by_cases c3 : (wrap64 ((aa.length : Int) - 1)) ≤ (aa.length : Int)
 rotate_left
 ·rw [if_neg c3] at H
  exact absurd H (by simp)
 rw [if_pos c3] at H
 obtain ⟨eU, er, H⟩ := Option.bind_eq_some_iff.mp H
 obtain ⟨bA, bB, bC, bD, bE, bG, bH, bI, bJ, aQ, aR, aS, aT, aU, aV, aW, aX, aY, aZ, a2, a3, a4, a5, aK, av⟩ := eU
 (try dsimp only at H)
 obtain ⟨cw, es, H⟩ := Option.bind_eq_some_iff.mp H
 by_cases c4 : (cw.length + l1.length) * 1 ≤ 140737488355328
 rotate_left
 ·rw [if_neg c4] at H
  exact absurd H (by simp)
 rw [if_pos c4] at H
 obtain ⟨eV, et, H⟩ := Option.bind_eq_some_iff.mp H
 obtain ⟨bK, bL, bM, bN, bO, bP, bQ, bS, aL, aw, ax, a6, a7, a8, a9, ba, bb, aA, bc, bd, be, bf, bg, af, ag⟩ := eV
 (try dsimp only at H)
 obtain ⟨eW, eu, H⟩ := Option.bind_eq_some_iff.mp H
 obtain ⟨bZ, b2, b3, b4, b5, b6, b7, b8, b9, bl, bm, bn, bo, bp, bq, br, bs, bt, bu, bv, bw, bx, bz, aO, ay⟩ := eW
 (try dsimp only at H)
 by_cases c5 : av = 2
 rotate_left
 ·rw [if_neg c5] at H
  exact absurd H (by simp)
 rw [if_pos c5] at H
 by_cases c6 : ag = 0
 rotate_left
 ·rw [if_neg c6] at H
  exact absurd H (by simp)
 rw [if_pos c6] at H
 by_cases c7 : af = (aa.length : Int)
 rotate_left
 ·rw [if_neg c7] at H
  exact absurd H (by simp)
 rw [if_pos c7] at H
 by_cases c8 : aL = ah
 rotate_left
 ·rw [if_neg c8] at H
  exact absurd H (by simp)
 rw [if_pos c8] at H
 by_cases c9 : ((aw == ae) && (ax == ab)) = true
 rotate_left
 ·rw [if_neg c9] at H
  exact absurd H (by simp)
 rw [if_pos c9] at H
 by_cases cz : aA = ad
 rotate_left
 ·rw [if_neg cz] at H
  exact absurd H (by simp)
 rw [if_pos cz] at H
 by_cases dL : ay = 2
 rotate_left
 ·rw [if_neg dL] at H
  exact absurd H (by simp)
 rw [if_pos dL] at H
 obtain ⟨du, ev, H⟩ := Option.bind_eq_some_iff.mp H
 have hret := Option.some.inj H
 clear H
 refine calls_of_wp (fn := Try.f7) (by kernel_rfl) rfl ?_
 have hS := St.enter #[(carillonlaw07_BodyShort.v0 ac aC aD aE aF aG aH aI ah ae ab ai aj ak al am an ad ao ap aq ar au), .slice A1 l1.length dM] 101 (by simp) [(0, (carillonlaw07_BodyShort.v0 ac aC aD aE aF aG aH aI ah ae ab ai aj ak al am an ad ao ap aq ar au)), (1, .slice A1 l1.length dM)] (by simp)
 have dX := Below.refl w.heap.size w
 refine wp_seq_k (fun K1 dY => ?_)
 refine reg_seq (I := I1_ w) (ps := [IsB (carillonlaw07_BodyShort.c1 ac aC aD aE aF aG aH aI ah ae ab ai aj ak al am an ad ao ap aq ar au) 29 w.heap.size, VB false]) (by kernel_rfl) ?_ ?_ rfl hS dX ?_ ?_
 ·exact bs1
 ·exact .cons (Stays.b _ _ _) (.v (.nil))
 ·refine .on rfl (fun a w hS hI hp => does_var (x_box rfl (congrArg Value.cells (hS.get 0 rfl))) (hI).size) ?_
  refine .on rfl (fun a w hS hI hp => does_val (x_assign rfl (rfl)) rfl) ?_
  exact .nil
 clear hS
 intro eM w3 hS ed hp
 replace hS := (hS.nil).cons (hS.get 1 rfl)
 obtain ⟨g4, dn, ef, aJ⟩ := (show IsB _ 29 _ (sl _ 2) _ from hp 0 (by decide))
 have hS := hS.cons dn
 clear hp dn
 refine dY _ _ ?_
 refine wp_seq_k (fun K5 d0 => ?_)
 refine reg_seq (I := I2_ w w3) (ps := [IsV ((carillonlaw07_BodyShort.v0 ac aC aD aE aF aG aH aI ah ae ab ai aj ak al am an ad ao ap aq ar au)), IsT (fun v0_ => #[v0_, .bool az]) (IsC (Kd.int .u8) aa), IsT (fun v0_ => #[v0_, .bool az]) (IsC (Kd.int .u8) aa), IsC (Kd.int .u8) aa, VB az, IsC (Kd.int .u8) aa, VB az]) (by kernel_rfl) ?_ ?_ rfl hS ⟨ed, (bR w3)⟩ ?_ ?_
 ·exact bs2
 ·exact .v (.cons (Stays.t _ (Stays.c _ _)) (.cons (Stays.t _ (Stays.c _ _)) (.cons (Stays.c _ _) (.v (.cons (Stays.c _ _) (.v (.nil)))))))
 ·refine .on rfl (fun a w hS hI hp => does_loadrow rfl (hS.get 0 rfl) (((hI.2).block g4 (blk_lt aJ)).trans aJ) Try.underlying29 rfl (by kernel_rfl) rfl) ?_
  refine .on rfl (fun a w hS hI hp => does_call (by kernel_rfl) (ar2 (rfl) (hp.V 0 rfl rfl)) ((body_Put.calls k _ _ [] ac aC aD aE aF aG aH aI ah ae ab ai aj ak al am an ad ao ap aq ar au aa az _ (Kd.C_nil _ _) (Nat.le_refl _) eg).mono fun _ _ h => h.elim fun v0 h => ⟨_, h.1, h.2.2, v0, rfl, h.2.1⟩)) ?_
  refine .on rfl (fun a w hS hI hp => does_val (x_move rfl rfl) (hp.V 1 rfl rfl)) ?_
  refine .on rfl (fun a w hS hI hp => (hp.V 2 rfl rfl).elim fun v0 h0 => does_val (x_extract rfl h0.1 rfl) h0.2) ?_
  refine .on rfl (fun a w hS hI hp => (hp.V 2 rfl rfl).elim fun v0 h0 => does_val (x_extract rfl h0.1 rfl) rfl) ?_
  refine .on rfl (fun a w hS hI hp => does_val (x_assign rfl rfl) (hp.V 3 rfl rfl)) ?_
  refine .asg 4 rfl rfl rfl rfl ?_
  exact .nil
 clear hS
 intro eN w8 hS ds hp
 obtain ⟨A9, C9, dq, dm, dN⟩ := (show IsC (Kd.int .u8) aa (sl _ 5) w8 from hp 5 (by decide))
 have dr : sl _ 6 = .bool az := hp 6 (by decide)
 have hS := hS.cons dq
 have hS := hS.cons dr
 clear hp dq dr
 refine d0 _ _ ?_
 refine wp_seq_k (fun eJ dZ => ?_)
 refine wp_seq_k (fun eK dJ => ?_)
 refine reg_seq (I := I3_ w w3 w8) (ps := [VB az, VB (!az)]) (by kernel_rfl) ?_ ?_ rfl hS ⟨ds.1, ds.2, (bR w8)⟩ ?_ ?_
 ·exact bs3
 ·exact .v (.v (.nil))
 ·refine .ms 0 rfl rfl rfl ?_
  refine .on rfl (fun a w hS hI hp => does_val (x_not rfl (hp.V 0 rfl rfl)) rfl) ?_
  exact .nil
 clear hS
 intro ew ca hS bh hp
 replace hS := (((hS.nil).cons (hS.get 3 rfl)).cons (hS.get 2 rfl)).cons (hS.get 1 rfl)
 have ct : sl _ 23 = .bool (!az) := hp 1 (by decide)
 have hS := hS.cons ct
 clear hp ct
 refine dJ _ _ ?_
 refine wp_cond_false ((hS.get 0 rfl).trans (bF (congrArg (!·) c1))) ?_
 refine wp_skip ?_
 refine dZ _ _ ?_
 refine wp_seq_k (fun eL dK => ?_)
 refine reg_seq_tail 4 (I := I4_ w w3 w8 ca) (ps := [VP g4 0, VI ac, IsV ((carillonlaw07_BodyShort.v0 ac 0 0 0 0 0 0 0 0 0 0 0 0 0 0 0 0 0 0 0 0 0 0)), IsB (carillonlaw07_BodyShort.c1 0 0 0 0 0 0 0 0 0 0 0 0 0 0 0 0 0 0 0 0 0 0 0) 29 ca.heap.size]) (by kernel_rfl) ?_ ?_ rfl hS ⟨bh.1, bh.2.1, bh.2.2, (bR ca)⟩ ?_ ?_
 ·exact bs4
 ·exact .v (.v (.v (.cons (Stays.b _ _ _) (.nil))))
 ·refine .on rfl (fun a w hS hI hp => does_val (x_fieldE (b := 0) rfl (hS.get 2 rfl) Try.underlying29 rfl rfl (by kernel_rfl)) rfl) ?_
  refine .on rfl (fun a w hS hI hp => does_val (x_load1 (d := .int .i64) rfl (hp.V 0 rfl rfl) (by kernel_rfl) rfl ((blk_cell (((hI.2.1).block g4 (blk_lt aJ)).trans aJ) 0).trans rfl)) rfl) ?_
  refine .on rfl (fun a w hS hI hp => does_val (x_build (vs := [(0, .int .i64 ac)]) rfl (by rw [Array.toList_map]; exact (show [(0, a.eval (.tmp 31))] = _ from (li_cons (hp.V 1 rfl rfl) rfl))) (by kernel_rfl)) rfl) ?_
  refine .on rfl (fun a w hS hI hp => does_var (x_alloc rfl (by kernel_rfl)) (hI.2.2.2).size) ?_
  exact .nil
 clear hS
 intro e4 eX hS bY hp
 replace hS := (((hS.nil).cons (hS.get 3 rfl)).cons (hS.get 2 rfl)).cons (hS.get 1 rfl)
 have d3 : sl _ 32 = (carillonlaw07_BodyShort.v0 ac 0 0 0 0 0 0 0 0 0 0 0 0 0 0 0 0 0 0 0 0 0 0) := hp 2 (by decide)
 obtain ⟨cA, em, ce, di⟩ := (show IsB _ 29 _ (sl _ 7) _ from hp 3 (by decide))
 have hS := hS.cons d3
 have hS := hS.cons em
 clear hp d3 em
 show wpList _ _ _ [_] _ _
 refine list_step rfl (does_storeAll (g := cA) (cs := (carillonlaw07_BodyShort.c1 ac 0 0 0 0 0 0 0 0 0 0 0 0 0 0 0 0 0 0 0 0 0 0)) rfl (hS.get 0 rfl) (hS.get 1 rfl) (((bR eX).block cA (blk_lt di)).trans di) (by kernel_rfl) (by kernel_rfl) (by kernel_rfl)) ?_
 rintro fg cx ⟨rfl, bj, hT⟩
 have cu := hT.below bY.1 (Nat.le_trans (bh.1).size ce) (bY.1).size
 have co := hT.below bY.2.1 (Nat.le_trans (bh.2.1).size ce) (bY.2.1).size
 have cp := hT.below bY.2.2.1 (Nat.le_trans (bh.2.2).size ce) (bY.2.2.1).size
 have ch := hT.below bY.2.2.2 ce (bY.2.2.2).size
 clear hT
 refine wpList_nil ?_
 refine dK _ _ ?_
 refine wp_seq_k (fun fk ex => ?_)
 refine reg_mixed (I := I5_ w w3 w8 ca cx) (ps := [IsV ((carillonlaw07_BodyShort.v0 ac 0 0 0 0 0 0 0 0 0 0 0 0 0 0 0 0 0 0 0 0 0 0)), IsV (.slice A9 aa.length C9), IsV (.slice A9 aa.length C9), VI (aa.length : Int), VI (wrap64 ((aa.length : Int) - 1)), IsV (.slice A9 ((aa.take (wrap64 ((aa.length : Int) - 1) : Int).toNat).length) C9), IsV (.tuple #[(carillonlaw07_BodyShort.v0 bA bB bC bD bE bG bH bI bJ aQ aR aS aT aU aV aW aX aY aZ a2 a3 a4 a5), .int .i64 aK, .int .i64 av]), IsV (.tuple #[(carillonlaw07_BodyShort.v0 bA bB bC bD bE bG bH bI bJ aQ aR aS aT aU aV aW aX aY aZ a2 a3 a4 a5), .int .i64 aK, .int .i64 av]), IsV ((carillonlaw07_BodyShort.v0 bA bB bC bD bE bG bH bI bJ aQ aR aS aT aU aV aW aX aY aZ a2 a3 a4 a5)), VI aK, VI av, IsB (carillonlaw07_BodyShort.c1 0 0 0 0 0 0 0 0 0 0 0 0 0 0 0 0 0 0 0 0 0 0 0) 29 cx.heap.size]) (C := fun x => True) 12 [true, true, true, true, true, true, true, true, true, true, true, true, false, false, false] [false, false, false, false, false, false, false, false, false, true, true, false, false, false, false] [undef, undef, undef, undef, undef, undef, undef, undef, undef, .int .i64 aK, .int .i64 av, undef, undef, undef, undef] [0, 0, 0, 4, 12, 30, 63, 127, 255, 255, 255, 0, 2559, 7167, 16383] (by kernel_rfl) (by kernel_rfl) (by kernel_rfl) (by kernel_rfl) rfl ?_ ?_ rfl hS ⟨cu, co, cp, ch, (bR cx)⟩ (.t (.t (.t (.t (.t (.t (.t (.t (.t (.g (.g (.t (.f (.f (.f .nil))))))))))))))) ?_ ?_ ?_ ?_
 ·exact bs5
 ·exact .v (.v (.v (.v (.v (.v (.v (.v (.v (.v (.v (.cons (Stays.b _ _ _) (.nil))))))))))))
 ·refine .on rfl (fun a w hS hI hp => does_loadrow rfl (hS.get 0 rfl) (((hI.2.2.2.2).block cA (blk_lt bj)).trans bj) Try.underlying29 rfl (by kernel_rfl) rfl) ?_
  iterate 2 refine .ms 2 rfl rfl rfl ?_
  refine .on rfl (fun a w hS hI hp => does_val (x_len (e := 5) rfl (by kernel_rfl) (hp.V 2 rfl rfl)) rfl) ?_
  refine .on rfl (fun a w hS hI hp => does_val (x_bin rfl (hp.V 3 rfl rfl) (rfl) (b_sub _ _ _ _ _)) rfl) ?_
  refine .on rfl (fun a w hS hI hp => does_val (x_cuthi rfl (e := 5) (xs := aa) (by kernel_rfl) (by kernel_rfl) (hp.V 1 rfl rfl) (hp.V 4 rfl rfl) c2 c3 dm) rfl) ?_
  refine .on rfl (fun a w hS hI hp => does_call (by kernel_rfl) (ar3 (hp.V 0 rfl rfl) (hp.V 5 rfl rfl) (rfl)) ((body_Get.calls k ac 0 0 0 0 0 0 0 0 0 0 0 0 0 0 0 0 0 0 0 0 0 0 _ _ (aa.take (wrap64 ((aa.length : Int) - 1) : Int).toNat) 0 bA bB bC bD bE bG bH bI bJ aQ aR aS aT aU aV aW aX aY aZ a2 a3 a4 a5 aK av _ (Kd.C_take (m := (wrap64 ((aa.length : Int) - 1) : Int).toNat) (Kd.C_below dN hI.2.2.1) (by have := c3; omega)) (Nat.le_trans (List.length_take_le' _ _) dm) er).mono fun _ _ h => ⟨_, h.1, h.2, rfl⟩)) ?_
  refine .mv 6 rfl rfl rfl rfl ?_
  iterate 3 refine .on rfl (fun a w hS hI hp => does_val (x_extract rfl (hp.V 7 rfl rfl) rfl) rfl) ?_
  refine .on rfl (fun a w hS hI hp => does_var (x_alloc rfl (by kernel_rfl)) (hI.2.2.2.2).size) ?_
  exact .nil
 ·exact fun a x hS hI hp => trivial
 ·intro a x hS hI hp
  iterate 9 refine .t ?_
  iterate 2 refine .g (fun w hC => GRun.on rfl (x_extract rfl ((show sl _ 33 = .tuple #[(carillonlaw07_BodyShort.v0 bA bB bC bD bE bG bH bI bJ aQ aR aS aT aU aV aW aX aY aZ a2 a3 a4 a5), .int .i64 aK, .int .i64 av] from hp 7 (by decide))) rfl)) ?_
  iterate 4 refine .t ?_
  exact .nil
 clear hS
 intro e6 eY hS bi hp
 replace hS := ((((hS.nil).cons (hS.get 4 rfl)).cons (hS.get 3 rfl)).cons (hS.get 2 rfl)).cons (hS.get 0 rfl)
 have d4 : sl _ 41 = (carillonlaw07_BodyShort.v0 bA bB bC bD bE bG bH bI bJ aQ aR aS aT aU aV aW aX aY aZ a2 a3 a4 a5) := hp 8 (by decide)
 have d5 : sl _ 42 = .int .i64 aK := hp 9 (by decide)
 have d6 : sl _ 43 = .int .i64 av := hp 10 (by decide)
 obtain ⟨eh, en, bX, dj⟩ := (show IsB _ 29 _ (sl _ 8) _ from hp 11 (by decide))
 have hS := hS.cons d4
 have hS := hS.cons d5
 have hS := hS.cons d6
 have hS := hS.cons en
 clear hp d4 d5 d6 en
 show ListC _ _ _ _ [_, _, _] _ _
 refine lc_step rfl (does_storeAll (g := eh) (cs := (carillonlaw07_BodyShort.c1 bA bB bC bD bE bG bH bI bJ aQ aR aS aT aU aV aW aX aY aZ a2 a3 a4 a5)) rfl (hS.get 0 rfl) (hS.get 3 rfl) (((bR eY).block eh (blk_lt dj)).trans dj) (by kernel_rfl) (by kernel_rfl) (by kernel_rfl)) ?_
 rintro fh dO ⟨rfl, eO, hT⟩
 have dQ := hT.below bi.1 (Nat.le_trans (cu).size bX) (bi.1).size
 have dv := hT.below bi.2.1 (Nat.le_trans (co).size bX) (bi.2.1).size
 have dw := hT.below bi.2.2.1 (Nat.le_trans (cp).size bX) (bi.2.2.1).size
 have cB := hT.below bi.2.2.2.1 (Nat.le_trans (ch).size bX) (bi.2.2.2.1).size
 have cC := hT.below bi.2.2.2.2 bX (bi.2.2.2.2).size
 clear hT
 refine ⟨trivial, ?_⟩
 refine lc_step rfl (R := fun v w' => Below _ _ w' ∧ (VI aK) v w') (does_val (x_assign rfl (hS.get 2 rfl)) rfl) ?_
 rintro eD eZ ⟨hb, he⟩
 have dR := below_step dQ hb
 have dx := below_step dv hb
 have dy := below_step dw hb
 have cD := below_step cB hb
 have cE := below_step cC hb
 have cF := below_step (bR dO) hb
 obtain rfl : eD = .int .i64 aK := he
 refine ⟨trivial, ?_⟩
 refine hS.nextC (v := .int .i64 aK) (d := 9) rfl (by decide) (by rfl) ?_
 clear hS
 intro e7 hS
 refine lc_step rfl (R := fun v w' => Below _ _ w' ∧ (VI av) v w') (does_val (x_assign rfl (hS.get 2 rfl)) rfl) ?_
 rintro eE cb ⟨hb, he⟩
 have cf := below_step dR hb
 have cc := below_step dx hb
 have cd := below_step dy hb
 have bU := below_step cD hb
 have bV := below_step cE hb
 have bW := below_step cF hb
 have ej := below_step (bR eZ) hb
 obtain rfl : eE = .int .i64 av := he
 refine ⟨trivial, ?_⟩
 refine hS.nextC (v := .int .i64 av) (d := 10) rfl (by decide) (by rfl) ?_
 clear hS
 intro e8 hS
 refine lc_nil ?_
 refine ex _ _ ?_
 refine wp_seq_k (fun fl ey => ?_)
 refine reg_mixedS (I := I7_ w w3 w8 ca cx dO cb) (ps := [IsV ((carillonlaw07_BodyShort.v0 ac 0 0 0 0 0 0 0 0 0 0 0 0 0 0 0 0 0 0 0 0 0 0)), IsV (.slice A9 aa.length C9), IsR (Kd.int .u8) 5 cb.heap.size cw, IsV (.slice A1 l1.length dM), IsR (Kd.int .u8) 5 cb.heap.size (cw ++ l1 : List Int), IsV (.tuple #[(carillonlaw07_BodyShort.v0 bK bL bM bN bO bP bQ bS aL aw ax a6 a7 a8 a9 ba bb aA bc bd be bf bg), .int .i64 af, .int .i64 ag]), IsV (.tuple #[(carillonlaw07_BodyShort.v0 bK bL bM bN bO bP bQ bS aL aw ax a6 a7 a8 a9 ba bb aA bc bd be bf bg), .int .i64 af, .int .i64 ag]), IsV ((carillonlaw07_BodyShort.v0 bK bL bM bN bO bP bQ bS aL aw ax a6 a7 a8 a9 ba bb aA bc bd be bf bg)), VI af, VI ag, IsB (carillonlaw07_BodyShort.c1 0 0 0 0 0 0 0 0 0 0 0 0 0 0 0 0 0 0 0 0 0 0 0) 29 cb.heap.size]) (C := fun x => True) 11 [true, true, true, true, true, true, true, true, true, true, true, false, false, false] [false, false, false, false, false, false, false, false, true, true, false, false, false, false] [undef, undef, undef, undef, undef, undef, undef, undef, .int .i64 af, .int .i64 ag, undef, undef, undef, undef] [0, 0, 2, 0, 14, 31, 63, 127, 127, 127, 0, 1279, 3583, 8191] 2 4 [true, true, false, true, false, true, true, true, true, true, true] (fun x y => Below cb.heap.size cb y ∧ KeepT 5 x y) (by kernel_rfl) (by kernel_rfl) (by kernel_rfl) (by kernel_rfl) rfl (by kernel_rfl) (by decide) rfl ?_ ?_ ?_ ?_ rfl hS ⟨cf, cc, cd, bU, bV, bW, (bR cb)⟩ (.t (.t (.t (.t (.t (.t (.t (.t (.g (.g (.t (.f (.f (.f .nil)))))))))))))) ?_ ?_ rfl ?_ ?_ ?_ ?_
 ·exact bs7
 ·exact fun x y hI hQ => ⟨below_step cf hQ.1, below_step cc hQ.1, below_step cd hQ.1, below_step bU hQ.1, below_step bV hQ.1, below_step bW hQ.1, hQ.1⟩
 ·exact .v (.v (.cons (Stays.r _ _ _ _) (.v (.cons (Stays.r _ _ _ _) (.v (.v (.v (.v (.v (.cons (Stays.b _ _ _) (.nil)))))))))))
 ·exact .k keep_v (.k keep_v (.s (.k keep_v (.s (.k keep_v (.k keep_v (.k keep_v (.k keep_v (.k keep_v (.k (keep_b (by decide)) (.nil)))))))))))
 ·refine .on rfl (fun a w hS hI hp => does_loadrow rfl (hS.get 6 rfl) (((hI.2.2.2.2.1).block cA (blk_lt bj)).trans bj) Try.underlying29 rfl (by kernel_rfl) rfl) ?_
  refine .ms 7 rfl rfl rfl ?_
  refine .on rfl (fun a w hS hI hp => does_call (by kernel_rfl) (ar1 (hp.V 1 rfl rfl)) ((carillonlaw00_Bytes.calls _ _ aa cw _ (Kd.C_below dN hI.2.2.1) dm es).mono fun _ _ h => h.elim fun v0 h => ⟨v0, h.1, h.2.2, Kd.R_lower h.2.1 hI.2.2.2.2.2.2.size⟩)) ?_
  refine .ms 9 rfl rfl rfl ?_
  exact .nil
 ·refine .on rfl (fun a w hS hI hp => (IsC.of_r (hp.V 4 rfl rfl)).elim fun A_ h_ => h_.elim fun c_ h_ => h_.elim fun hv_ h_ => h_.elim fun hl_ hc_ => does_call (by kernel_rfl) (ar3 (hp.V 0 rfl rfl) (hv_) (rfl)) ((body_Get.calls k ac 0 0 0 0 0 0 0 0 0 0 0 0 0 0 0 0 0 0 0 0 0 0 _ _ (cw ++ l1 : List Int) 0 bK bL bM bN bO bP bQ bS aL aw ax a6 a7 a8 a9 ba bb aA bc bd be bf bg af ag _ hc_ hl_ et).mono fun _ _ h => ⟨_, h.1, h.2, rfl⟩)) ?_
  refine .mv 5 rfl rfl rfl rfl ?_
  iterate 3 refine .on rfl (fun a w hS hI hp => does_val (x_extract rfl (hp.V 6 rfl rfl) rfl) rfl) ?_
  refine .on rfl (fun a w hS hI hp => does_var (x_alloc rfl (by kernel_rfl)) (hI.2.2.2.2.2.2).size) ?_
  exact .nil
 ·exact fun a w hS hI hp => ⟨want_on rfl, (does_more (W := cb) (.tmp 47) (.tmp 48) 22 5 1 rfl (by kernel_rfl) (by kernel_rfl) (by decide) _ cw l1 _ _ rfl ((hp.get 3 (by rfl) rfl rfl)) (hp.get 2 (by rfl) rfl rfl) (Kd.C_below HR1 hI.1) hI.2.2.2.2.2.2 c4).mono fun _ _ h => ⟨⟨h.1, h.2.2⟩, h.2.1⟩⟩
 ·exact fun a x hS hI hp => trivial
 ·intro a x hS hI hp
  iterate 8 refine .t ?_
  iterate 2 refine .g (fun w hC => GRun.on rfl (x_extract rfl ((show sl _ 44 = .tuple #[(carillonlaw07_BodyShort.v0 bK bL bM bN bO bP bQ bS aL aw ax a6 a7 a8 a9 ba bb aA bc bd be bf bg), .int .i64 af, .int .i64 ag] from hp 6 (by decide))) rfl)) ?_
  iterate 4 refine .t ?_
  exact .nil
 clear hS
 intro e9 e0 hS aN hp
 replace hS := ((((hS.nil).cons (hS.get 8 rfl)).cons (hS.get 7 rfl)).cons (hS.get 6 rfl)).cons (hS.get 0 rfl)
 have d7 : sl _ 51 = (carillonlaw07_BodyShort.v0 bK bL bM bN bO bP bQ bS aL aw ax a6 a7 a8 a9 ba bb aA bc bd be bf bg) := hp 7 (by decide)
 have d8 : sl _ 52 = .int .i64 af := hp 8 (by decide)
 have d9 : sl _ 53 = .int .i64 ag := hp 9 (by decide)
 obtain ⟨cg, d1, aP, dk⟩ := (show IsB _ 29 _ (sl _ 11) _ from hp 10 (by decide))
 have hS := hS.cons d7
 have hS := hS.cons d8
 have hS := hS.cons d9
 have hS := hS.cons d1
 clear hp d7 d8 d9 d1
 show ListC _ _ _ _ [_, _, _] _ _
 refine lc_step rfl (does_storeAll (g := cg) (cs := (carillonlaw07_BodyShort.c1 bK bL bM bN bO bP bQ bS aL aw ax a6 a7 a8 a9 ba bb aA bc bd be bf bg)) rfl (hS.get 0 rfl) (hS.get 3 rfl) (((bR e0).block cg (blk_lt dk)).trans dk) (by kernel_rfl) (by kernel_rfl) (by kernel_rfl)) ?_
 rintro fi ee ⟨rfl, bk, hT⟩
 have dS := hT.below aN.1 (Nat.le_trans (cf).size aP) (aN.1).size
 have dz := hT.below aN.2.1 (Nat.le_trans (cc).size aP) (aN.2.1).size
 have dA := hT.below aN.2.2.1 (Nat.le_trans (cd).size aP) (aN.2.2.1).size
 have cG := hT.below aN.2.2.2.1 (Nat.le_trans (bU).size aP) (aN.2.2.2.1).size
 have cH := hT.below aN.2.2.2.2.1 (Nat.le_trans (bV).size aP) (aN.2.2.2.2.1).size
 have cI := hT.below aN.2.2.2.2.2.1 (Nat.le_trans (bW).size aP) (aN.2.2.2.2.2.1).size
 have cJ := hT.below aN.2.2.2.2.2.2 aP (aN.2.2.2.2.2.2).size
 clear hT
 refine ⟨trivial, ?_⟩
 refine lc_step rfl (R := fun v w' => Below _ _ w' ∧ (VI af) v w') (does_val (x_assign rfl (hS.get 2 rfl)) rfl) ?_
 rintro eF e1 ⟨hb, he⟩
 have dT := below_step dS hb
 have dB := below_step dz hb
 have dC := below_step dA hb
 have cK := below_step cG hb
 have cL := below_step cH hb
 have cM := below_step cI hb
 have cN := below_step cJ hb
 have cO := below_step (bR ee) hb
 obtain rfl : eF = .int .i64 af := he
 refine ⟨trivial, ?_⟩
 refine hS.nextC (v := .int .i64 af) (d := 12) rfl (by decide) (by rfl) ?_
 clear hS
 intro fa hS
 refine lc_step rfl (R := fun v w' => Below _ _ w' ∧ (VI ag) v w') (does_val (x_assign rfl (hS.get 2 rfl)) rfl) ?_
 rintro eG dP ⟨hb, he⟩
 have cv := below_step dT hb
 have cq := below_step dB hb
 have cr := below_step dC hb
 have ci := below_step cK hb
 have cj := below_step cL hb
 have ck := below_step cM hb
 have cl := below_step cN hb
 have cm := below_step cO hb
 have ek := below_step (bR e1) hb
 obtain rfl : eG = .int .i64 ag := he
 refine ⟨trivial, ?_⟩
 refine hS.nextC (v := .int .i64 ag) (d := 13) rfl (by decide) (by rfl) ?_
 clear hS
 intro fb hS
 refine lc_nil ?_
 refine ey _ _ ?_
 refine wp_seq_k (fun fm ez => ?_)
 refine reg_seq_tail 8 (I := I9_ w w3 w8 ca cx dO cb ee dP) (ps := [IsV ((carillonlaw07_BodyShort.v0 ac 0 0 0 0 0 0 0 0 0 0 0 0 0 0 0 0 0 0 0 0 0 0)), IsV (.slice A9 aa.length C9), IsV (.tuple #[(carillonlaw07_BodyShort.v0 bZ b2 b3 b4 b5 b6 b7 b8 b9 bl bm bn bo bp bq br bs bt bu bv bw bx bz), .int .i64 aO, .int .i64 ay]), IsV (.tuple #[(carillonlaw07_BodyShort.v0 bZ b2 b3 b4 b5 b6 b7 b8 b9 bl bm bn bo bp bq br bs bt bu bv bw bx bz), .int .i64 aO, .int .i64 ay]), IsV ((carillonlaw07_BodyShort.v0 bZ b2 b3 b4 b5 b6 b7 b8 b9 bl bm bn bo bp bq br bs bt bu bv bw bx bz)), VI aO, VI ay, IsB (carillonlaw07_BodyShort.c1 0 0 0 0 0 0 0 0 0 0 0 0 0 0 0 0 0 0 0 0 0 0 0) 29 dP.heap.size]) (by kernel_rfl) ?_ ?_ rfl hS ⟨cv, cq, cr, ci, cj, ck, cl, cm, (bR dP)⟩ ?_ ?_
 ·exact bs9
 ·exact .v (.v (.v (.v (.v (.v (.v (.cons (Stays.b _ _ _) (.nil))))))))
 ·refine .on rfl (fun a w hS hI hp => does_loadrow rfl (hS.get 7 rfl) (((hI.2.2.2.2.1).block cA (blk_lt bj)).trans bj) Try.underlying29 rfl (by kernel_rfl) rfl) ?_
  refine .ms 8 rfl rfl rfl ?_
  refine .on rfl (fun a w hS hI hp => does_call (by kernel_rfl) (ar3 (hp.V 0 rfl rfl) (hp.V 1 rfl rfl) (rfl)) ((body_Get.calls k ac 0 0 0 0 0 0 0 0 0 0 0 0 0 0 0 0 0 0 0 0 0 0 _ _ aa 1 bZ b2 b3 b4 b5 b6 b7 b8 b9 bl bm bn bo bp bq br bs bt bu bv bw bx bz aO ay _ (Kd.C_below dN hI.2.2.1) dm eu).mono fun _ _ h => ⟨_, h.1, h.2, rfl⟩)) ?_
  refine .mv 2 rfl rfl rfl rfl ?_
  iterate 3 refine .on rfl (fun a w hS hI hp => does_val (x_extract rfl (hp.V 3 rfl rfl) rfl) rfl) ?_
  refine .on rfl (fun a w hS hI hp => does_var (x_alloc rfl (by kernel_rfl)) (hI.2.2.2.2.2.2.2.2).size) ?_
  exact .nil
 clear hS
 intro fc e2 hS aB hp
 replace hS := ((((((hS.nil).cons (hS.get 9 rfl)).cons (hS.get 8 rfl)).cons (hS.get 6 rfl)).cons (hS.get 2 rfl)).cons (hS.get 1 rfl)).cons (hS.get 0 rfl)
 have ea : sl _ 58 = (carillonlaw07_BodyShort.v0 bZ b2 b3 b4 b5 b6 b7 b8 b9 bl bm bn bo bp bq br bs bt bu bv bw bx bz) := hp 4 (by decide)
 have eb : sl _ 59 = .int .i64 aO := hp 5 (by decide)
 have ec : sl _ 60 = .int .i64 ay := hp 6 (by decide)
 obtain ⟨ei, d2, aM, dl⟩ := (show IsB _ 29 _ (sl _ 14) _ from hp 7 (by decide))
 have hS := hS.cons ea
 have hS := hS.cons eb
 have hS := hS.cons ec
 have hS := hS.cons d2
 clear hp ea eb ec d2
 show wpList _ _ _ [_, _, _] _ _
 refine list_step rfl (does_storeAll (g := ei) (cs := (carillonlaw07_BodyShort.c1 bZ b2 b3 b4 b5 b6 b7 b8 b9 bl bm bn bo bp bq br bs bt bu bv bw bx bz)) rfl (hS.get 0 rfl) (hS.get 3 rfl) (((bR e2).block ei (blk_lt dl)).trans dl) (by kernel_rfl) (by kernel_rfl) (by kernel_rfl)) ?_
 rintro fj eo ⟨rfl, eP, hT⟩
 have dU := hT.below aB.1 (Nat.le_trans (cv).size aM) (aB.1).size
 have dD := hT.below aB.2.1 (Nat.le_trans (cq).size aM) (aB.2.1).size
 have dE := hT.below aB.2.2.1 (Nat.le_trans (cr).size aM) (aB.2.2.1).size
 have cP := hT.below aB.2.2.2.1 (Nat.le_trans (ci).size aM) (aB.2.2.2.1).size
 have cQ := hT.below aB.2.2.2.2.1 (Nat.le_trans (cj).size aM) (aB.2.2.2.2.1).size
 have cR := hT.below aB.2.2.2.2.2.1 (Nat.le_trans (ck).size aM) (aB.2.2.2.2.2.1).size
 have cS := hT.below aB.2.2.2.2.2.2.1 (Nat.le_trans (cl).size aM) (aB.2.2.2.2.2.2.1).size
 have cT := hT.below aB.2.2.2.2.2.2.2.1 (Nat.le_trans (cm).size aM) (aB.2.2.2.2.2.2.2.1).size
 have cU := hT.below aB.2.2.2.2.2.2.2.2 aM (aB.2.2.2.2.2.2.2.2).size
 clear hT
 refine list_step rfl (R := fun v w' => Below _ _ w' ∧ (VI aO) v w') (does_val (x_assign rfl (hS.get 2 rfl)) rfl) ?_
 rintro eH e3 ⟨hb, he⟩
 have dV := below_step dU hb
 have dF := below_step dD hb
 have dG := below_step dE hb
 have cV := below_step cP hb
 have cW := below_step cQ hb
 have cX := below_step cR hb
 have cY := below_step cS hb
 have cZ := below_step cT hb
 have c0 := below_step cU hb
 have da := below_step (bR eo) hb
 obtain rfl : eH = .int .i64 aO := he
 refine hS.next (v := .int .i64 aO) (d := 15) rfl (by decide) (by rfl) ?_
 clear hS
 intro fd hS
 refine list_step rfl (R := fun v w' => Below _ _ w' ∧ (VI ay) v w') (does_val (x_assign rfl (hS.get 2 rfl)) rfl) ?_
 rintro eI ep ⟨hb, he⟩
 have dW := below_step dV hb
 have dH := below_step dF hb
 have dI := below_step dG hb
 have db := below_step cV hb
 have dc := below_step cW hb
 have dd := below_step cX hb
 have de := below_step cY hb
 have df := below_step cZ hb
 have dg := below_step c0 hb
 have dh := below_step da hb
 have el := below_step (bR e3) hb
 obtain rfl : eI = .int .i64 ay := he
 refine hS.next (v := .int .i64 ay) (d := 16) rfl (by decide) (by rfl) ?_
 clear hS
 intro fe hS
 refine wpList_nil ?_
 refine ez _ _ ?_
 refine wp_seq_k (fun fo eA => ?_)
 refine reg_seq (I := I11_ w w3 w8 ca cx dO cb ee dP eo ep) (ps := [VI av, VB (decide (av = 2)), VB (decide (av = 2)), VI ag, VB (decide (ag = 0)), VB (decide (ag = 0)), VB (decide (ag = 0)), VI af, IsV (.slice A9 aa.length C9), VI (aa.length : Int), VB (decide (af = (aa.length : Int))), VB (decide (af = (aa.length : Int))), VB (decide (af = (aa.length : Int))), VP cg 8, VI aL, VP g4 8, VI ah, VB (decide (aL = ah)), VB (decide (aL = ah)), VB (decide (aL = ah)), VP cg 9, IsV (.agg #[.int .u64 aw, .int .i64 ax]), VP g4 9, IsV (.agg #[.int .u64 ae, .int .i64 ab]), VB ((aw == ae) && (ax == ab)), VB ((aw == ae) && (ax == ab)), VB ((aw == ae) && (ax == ab)), VP cg 17, IsV (.int .u64 aA), VP g4 17, IsV (.int .u64 ad), VB (decide (aA = ad)), VB (decide (aA = ad)), VB (decide (aA = ad)), VI ay, VB (decide (ay = 2)), VB (decide (ay = 2)), VB (decide (ay = 2)), VB du, VB du, VB du]) (by kernel_rfl) ?_ ?_ rfl hS ⟨dW, dH, dI, db, dc, dd, de, df, dg, dh, (bR ep)⟩ ?_ ?_
 ·exact bs11
 ·exact .v (.v (.v (.v (.v (.v (.v (.v (.v (.v (.v (.v (.v (.v (.v (.v (.v (.v (.v (.v (.v (.v (.v (.v (.v (.v (.v (.v (.v (.v (.v (.v (.v (.v (.v (.v (.v (.v (.v (.v (.v (.nil)))))))))))))))))))))))))))))))))))))))))
 ·refine .ms 9 rfl rfl rfl ?_
  refine .on rfl (fun a w hS hI hp => does_val (x_bin rfl (hp.V 0 rfl rfl) (rfl) (b_eql _ _ _ _ _ _)) rfl) ?_
  refine .mv 1 rfl rfl rfl rfl ?_
  refine .oy 2 63 rfl rfl rfl rfl rfl ((decide_eq_true c5)) (fun a w hS hI hp => does_val (x_move rfl (hS.get 6 rfl)) rfl) ?_
  refine .oy 2 63 rfl rfl rfl rfl rfl ((decide_eq_true c5)) (fun a w hS hI hp => does_val (x_bin rfl (hp.V 3 rfl rfl) (rfl) (b_eql _ _ _ _ _ _)) rfl) ?_
  refine .pt 2 4 rfl rfl rfl rfl ((decide_eq_true c5)) rfl rfl ?_
  refine .mv 5 rfl rfl rfl rfl ?_
  refine .oy 6 67 rfl rfl rfl rfl rfl ((decide_eq_true c6)) (fun a w hS hI hp => does_val (x_move rfl (hS.get 7 rfl)) rfl) ?_
  refine .oy 6 67 rfl rfl rfl rfl rfl ((decide_eq_true c6)) (fun a w hS hI hp => does_val (x_move rfl (hS.get 10 rfl)) rfl) ?_
  refine .oy 6 67 rfl rfl rfl rfl rfl ((decide_eq_true c6)) (fun a w hS hI hp => does_val (x_len (e := 5) rfl (by kernel_rfl) (hp.V 8 rfl rfl)) rfl) ?_
  refine .oy 6 67 rfl rfl rfl rfl rfl ((decide_eq_true c6)) (fun a w hS hI hp => does_val (x_bin rfl (hp.V 7 rfl rfl) (hp.V 9 rfl rfl) (b_eql _ _ _ _ _ _)) rfl) ?_
  refine .pt 6 10 rfl rfl rfl rfl ((decide_eq_true c6)) rfl rfl ?_
  refine .mv 11 rfl rfl rfl rfl ?_
  refine .oy 12 73 rfl rfl rfl rfl rfl ((decide_eq_true c7)) (fun a w hS hI hp => does_val (x_fieldE (b := 0) rfl (hS.get 8 rfl) Try.underlying29 rfl rfl (by kernel_rfl)) rfl) ?_
  refine .oy 12 73 rfl rfl rfl rfl rfl ((decide_eq_true c7)) (fun a w hS hI hp => does_val (x_load1 (d := .int .i64) rfl (hp.V 13 rfl rfl) (by kernel_rfl) rfl ((blk_cell (((hI.2.2.2.2.2.2.2.1).block cg (blk_lt bk)).trans bk) 8).trans rfl)) rfl) ?_
  refine .oy 12 73 rfl rfl rfl rfl rfl ((decide_eq_true c7)) (fun a w hS hI hp => does_val (x_fieldE (b := 0) rfl (hS.get 11 rfl) Try.underlying29 rfl rfl (by kernel_rfl)) rfl) ?_
  refine .oy 12 73 rfl rfl rfl rfl rfl ((decide_eq_true c7)) (fun a w hS hI hp => does_val (x_load1 (d := .int .i64) rfl (hp.V 15 rfl rfl) (by kernel_rfl) rfl ((blk_cell (((hI.2.1).block g4 (blk_lt aJ)).trans aJ) 8).trans rfl)) rfl) ?_
  refine .oy 12 73 rfl rfl rfl rfl rfl ((decide_eq_true c7)) (fun a w hS hI hp => does_val (x_bin rfl (hp.V 14 rfl rfl) (hp.V 16 rfl rfl) (b_eql _ _ _ _ _ _)) rfl) ?_
  refine .pt 12 17 rfl rfl rfl rfl ((decide_eq_true c7)) rfl rfl ?_
  refine .mv 18 rfl rfl rfl rfl ?_
  refine .oy 19 80 rfl rfl rfl rfl rfl ((decide_eq_true c8)) (fun a w hS hI hp => does_val (x_fieldE (b := 0) rfl (hS.get 8 rfl) Try.underlying29 rfl rfl (by kernel_rfl)) rfl) ?_
  refine .oy 19 80 rfl rfl rfl rfl rfl ((decide_eq_true c8)) (fun a w hS hI hp => does_loadmid (cs := [.int .u64 aw, .int .i64 ax]) rfl (hp.V 20 rfl rfl) (((hI.2.2.2.2.2.2.2.1).block cg (blk_lt bk)).trans bk) (by kernel_rfl) Try.underlying25 rfl (by kernel_rfl) rfl) ?_
  refine .oy 19 80 rfl rfl rfl rfl rfl ((decide_eq_true c8)) (fun a w hS hI hp => does_val (x_fieldE (b := 0) rfl (hS.get 11 rfl) Try.underlying29 rfl rfl (by kernel_rfl)) rfl) ?_
  refine .oy 19 80 rfl rfl rfl rfl rfl ((decide_eq_true c8)) (fun a w hS hI hp => does_loadmid (cs := [.int .u64 ae, .int .i64 ab]) rfl (hp.V 22 rfl rfl) (((hI.2.1).block g4 (blk_lt aJ)).trans aJ) (by kernel_rfl) Try.underlying25 rfl (by kernel_rfl) rfl) ?_
  refine .oy 19 80 rfl rfl rfl rfl rfl ((decide_eq_true c8)) (fun a w hS hI hp => does_val (x_bin rfl (hp.V 21 rfl rfl) (hp.V 23 rfl rfl) (carillonlaw07_BodyShort.eql25 _ _ _ aw ax ae ab)) rfl) ?_
  refine .pt 19 24 rfl rfl rfl rfl ((decide_eq_true c8)) rfl rfl ?_
  refine .mv 25 rfl rfl rfl rfl ?_
  refine .oy 26 87 rfl rfl rfl rfl rfl c9 (fun a w hS hI hp => does_val (x_fieldE (b := 0) rfl (hS.get 8 rfl) Try.underlying29 rfl rfl (by kernel_rfl)) rfl) ?_
  refine .oy 26 87 rfl rfl rfl rfl rfl c9 (fun a w hS hI hp => does_val (x_load1 (d := .int .u64) rfl (hp.V 27 rfl rfl) (by kernel_rfl) rfl ((blk_cell (((hI.2.2.2.2.2.2.2.1).block cg (blk_lt bk)).trans bk) 17).trans rfl)) rfl) ?_
  refine .oy 26 87 rfl rfl rfl rfl rfl c9 (fun a w hS hI hp => does_val (x_fieldE (b := 0) rfl (hS.get 11 rfl) Try.underlying29 rfl rfl (by kernel_rfl)) rfl) ?_
  refine .oy 26 87 rfl rfl rfl rfl rfl c9 (fun a w hS hI hp => does_val (x_load1 (d := .int .u64) rfl (hp.V 29 rfl rfl) (by kernel_rfl) rfl ((blk_cell (((hI.2.1).block g4 (blk_lt aJ)).trans aJ) 17).trans rfl)) rfl) ?_
  refine .oy 26 87 rfl rfl rfl rfl rfl c9 (fun a w hS hI hp => does_val (x_bin rfl (hp.V 28 rfl rfl) (hp.V 30 rfl rfl) (b_eql _ _ _ _ _ _)) rfl) ?_
  refine .pt 26 31 rfl rfl rfl rfl c9 rfl rfl ?_
  refine .mv 32 rfl rfl rfl rfl ?_
  refine .oy 33 94 rfl rfl rfl rfl rfl ((decide_eq_true cz)) (fun a w hS hI hp => does_val (x_move rfl (hS.get 0 rfl)) rfl) ?_
  refine .oy 33 94 rfl rfl rfl rfl rfl ((decide_eq_true cz)) (fun a w hS hI hp => does_val (x_bin rfl (hp.V 34 rfl rfl) (rfl) (b_eql _ _ _ _ _ _)) rfl) ?_
  refine .pt 33 35 rfl rfl rfl rfl ((decide_eq_true cz)) rfl rfl ?_
  refine .mv 36 rfl rfl rfl rfl ?_
  refine .oy 37 98 rfl rfl rfl rfl rfl ((decide_eq_true dL)) (fun a w hS hI hp => does_call (by kernel_rfl) rfl ((carillonlaw07_awake.calls k  du _  ev).mono fun _ _ h => ⟨_, h.1, h.2, rfl⟩)) ?_
  refine .pt 37 38 rfl rfl rfl rfl ((decide_eq_true dL)) rfl rfl ?_
  refine .asg 39 rfl rfl rfl rfl ?_
  exact .nil
 clear hS
 intro ff fq hS eC hp
 replace hS := hS.nil
 have dp : sl _ 4 = .bool du := hp 40 (by decide)
 have hS := hS.cons dp
 clear hp dp
 refine eA _ _ ?_
 refine wp_ret ?_
 (try simp only [Exit.then, Exit.inBlock, Exit.jump, Exit.noGoto])
 exact bodyPost_ret (v := .bool true) (by rw [results_tmp rfl]; exact congrArg (Result.ok · _) ((hS.get 0 rfl).trans (congrArg Value.bool hret))) hS.nodef ⟨rfl, eC.1⟩
def carillonlaw07_BodyShort.Pure : Prop := ∀ (ac aC aD aE aF aG aH aI ah ae ab ai aj ak al am an ad ao ap aq ar au : Int) (l1 : List Int), (Lit.int .i64 ac).wf = true → (Lit.int .i64 aC).wf = true → (Lit.int .i64 aD).wf = true → (Lit.int .i64 aE).wf = true → (Lit.int .u64 aF).wf = true → (Lit.int .i64 aG).wf = true → (Lit.int .i64 aH).wf = true → (Lit.int .i64 aI).wf = true → (Lit.int .i64 ah).wf = true → (Lit.int .u64 ae).wf = true → (Lit.int .i64 ab).wf = true → (Lit.int .i64 ai).wf = true → (Lit.int .i64 aj).wf = true → (Lit.int .i64 ak).wf = true → (Lit.int .i64 al).wf = true → (Lit.int .i64 am).wf = true → (Lit.int .i64 an).wf = true → (Lit.int .u64 ad).wf = true → (Lit.int .i64 ao).wf = true → (Lit.int .i64 ap).wf = true → (Lit.int .i64 aq).wf = true → (Lit.int .i64 ar).wf = true → (Lit.int .i64 au).wf = true → l1.length ≤ maxLen → l1.length * 1 ≤ 140737488351232 → (∀ x ∈ l1, (Lit.int .u8 x).wf = true) → ∃ k, carillonlaw07_BodyShort.f k ac aC aD aE aF aG aH aI ah ae ab ai aj ak al am an ad ao ap aq ar au l1 = some true
theorem carillonlaw07_BodyShort.walk (P : carillonlaw07_BodyShort.Pure) (ac aC aD aE aF aG aH aI ah ae ab ai aj ak al am an ad ao ap aq ar au : Int) (a1 : Option Addr) (cy cn : Nat) (z1 : List Int) (w : World) (w0_0 : (Lit.int .i64 ac).wf = true) (w0_1 : (Lit.int .i64 aC).wf = true) (w0_2 : (Lit.int .i64 aD).wf = true) (w0_3 : (Lit.int .i64 aE).wf = true) (w0_4 : (Lit.int .u64 aF).wf = true) (w0_5 : (Lit.int .i64 aG).wf = true) (w0_6 : (Lit.int .i64 aH).wf = true) (w0_7 : (Lit.int .i64 aI).wf = true) (w0_8 : (Lit.int .i64 ah).wf = true) (w0_9 : (Lit.int .u64 ae).wf = true) (w0_10 : (Lit.int .i64 ab).wf = true) (w0_11 : (Lit.int .i64 ai).wf = true) (w0_12 : (Lit.int .i64 aj).wf = true) (w0_13 : (Lit.int .i64 ak).wf = true) (w0_14 : (Lit.int .i64 al).wf = true) (w0_15 : (Lit.int .i64 am).wf = true) (w0_16 : (Lit.int .i64 an).wf = true) (w0_17 : (Lit.int .u64 ad).wf = true) (w0_18 : (Lit.int .i64 ao).wf = true) (w0_19 : (Lit.int .i64 ap).wf = true) (w0_20 : (Lit.int .i64 aq).wf = true) (w0_21 : (Lit.int .i64 ar).wf = true) (w0_22 : (Lit.int .i64 au).wf = true) (w1 : (a1 = none ∧ cy = 0 ∧ cn = 0 ∧ z1 = []) ∨ ∃ x, a1 = some x ∧ cy ≤ cn ∧ cn ≤ maxLen ∧ z1.length = cn ∧ (∀ i, i < z1.length → w.cell? (x.add i) = some (.int .u8 (z1.getD i 0))) ∧ ∀ n ∈ z1, (Lit.int .u8 n).wf = true) (y1 : cy * 1 ≤ 140737488351232) :
  Calls Try.prog 7 #[(carillonlaw07_BodyShort.v0 ac aC aD aE aF aG aH aI ah ae ab ai aj ak al am an ad ao ap aq ar au), .slice a1 cy cn] w fun e w' => e = .returned (.bool true) ∧ Below w.heap.size w w' := by
 obtain ⟨l1, rfl, eS, eR, eT, eQ⟩ := ReadsInt.ofRowC w1
 obtain ⟨k, h⟩ := P ac aC aD aE aF aG aH aI ah ae ab ai aj ak al am an ad ao ap aq ar au l1 w0_0 w0_1 w0_2 w0_3 w0_4 w0_5 w0_6 w0_7 w0_8 w0_9 w0_10 w0_11 w0_12 w0_13 w0_14 w0_15 w0_16 w0_17 w0_18 w0_19 w0_20 w0_21 w0_22 eR y1 eT
 refine (carillonlaw07_BodyShort.calls k ac aC aD aE aF aG aH aI ah ae ab ai aj ak al am an ad ao ap aq ar au _ _ l1 w (Kd.C_of_reads (d := (0 : Int)) (h1 := fun _ => rfl) eS) eQ h).mono ?_
 rintro e w' ⟨rfl, hd⟩
 exact ⟨rfl, hd⟩
end Go.Proofs.Ytpoocfapmgmfkaa.P
