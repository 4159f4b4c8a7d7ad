/- Functions and loops of the given program as Lean functions, and that the code comes to what they say: written by this session's own program; Lean checks it. -/
import Derived.Test.YtiomlbkakiienaaZzPx0
import Derived.Test.YtiomlbkakiienaaZzPx1
namespace Go.Proofs.Ytiomlbkakiienaa.P
open Go.RowKit Go.Proofs.YtiomlbkakiienaaW.PrintWords Go.Proofs.YtiomlbkakiienaaW.PrintLast Go.Proofs.YtiomlbkakiienaaW.PrintMore
attribute [local go_sem] max2_int min2_int max_two min_two max_three min_three max_four min_four   -- for this text's walks alone
set_option linter.unusedVariables false
set_option linter.unusedSimpArgs false
def body_Check.f (k : Nat) (a0_0 a0_1 a0_2 a0_3 a0_4 a0_5 a0_6 a0_7 a0_8 a0_9 a0_10 a0_11 a0_12 a0_13 a0_14 a0_15 a0_16 a0_17 a0_18 a0_19 a0_20 a0_21 a0_22 : Int) : Option (Bool) := (header_Check.f k a0_0 a0_1 a0_2 a0_3 a0_4 a0_5 a0_6 a0_7 a0_8 a0_9 a0_10 a0_11 a0_12 a0_13 a0_14 a0_15 a0_16 a0_17 a0_18 a0_19 a0_20 a0_21 a0_22).bind fun t6 => (if t6 = true then ((body_own.f k a0_0 a0_1 a0_2 a0_3 a0_4 a0_5 a0_6 a0_7 a0_8 a0_9 a0_10 a0_11 a0_12 a0_13 a0_14 a0_15 a0_16 a0_17 a0_18 a0_19 a0_20 a0_21 a0_22).bind fun t7 => (if ((a0_0 == t7.1) && ((a0_1 == t7.2.1) && ((a0_2 == t7.2.2.1) && ((a0_3 == t7.2.2.2.1) && ((a0_4 == t7.2.2.2.2.1) && ((a0_5 == t7.2.2.2.2.2.1) && ((a0_6 == t7.2.2.2.2.2.2.1) && ((a0_7 == t7.2.2.2.2.2.2.2.1) && ((a0_8 == t7.2.2.2.2.2.2.2.2.1) && ((a0_9 == t7.2.2.2.2.2.2.2.2.2.1) && ((a0_10 == t7.2.2.2.2.2.2.2.2.2.2.1) && ((a0_11 == t7.2.2.2.2.2.2.2.2.2.2.2.1) && ((a0_12 == t7.2.2.2.2.2.2.2.2.2.2.2.2.1) && ((a0_13 == t7.2.2.2.2.2.2.2.2.2.2.2.2.2.1) && ((a0_14 == t7.2.2.2.2.2.2.2.2.2.2.2.2.2.2.1) && ((a0_15 == t7.2.2.2.2.2.2.2.2.2.2.2.2.2.2.2.1) && ((a0_16 == t7.2.2.2.2.2.2.2.2.2.2.2.2.2.2.2.2.1) && ((a0_17 == t7.2.2.2.2.2.2.2.2.2.2.2.2.2.2.2.2.2.1) && ((a0_18 == t7.2.2.2.2.2.2.2.2.2.2.2.2.2.2.2.2.2.2.1) && ((a0_19 == t7.2.2.2.2.2.2.2.2.2.2.2.2.2.2.2.2.2.2.2.1) && ((a0_20 == t7.2.2.2.2.2.2.2.2.2.2.2.2.2.2.2.2.2.2.2.2.1) && ((a0_21 == t7.2.2.2.2.2.2.2.2.2.2.2.2.2.2.2.2.2.2.2.2.2.1) && (a0_22 == t7.2.2.2.2.2.2.2.2.2.2.2.2.2.2.2.2.2.2.2.2.2.2))))))))))))))))))))))) = true then ((stamp_May.f a0_8).bind fun t8 => (if t8 = true then ((ident_May.f a0_9 a0_10).bind fun t9 => (if t9 = true then ((body_in.f a0_11 (-32768) 32767).bind fun t10 => (if t10 = true then ((body_in.f a0_12 0 255).bind fun t11 => (if t11 = true then ((body_in.f a0_16 0 255).bind fun t12 => (if t12 = true then ((body_in.f a0_19 0 255).bind fun t13 => (if t13 = true then ((quality_May.f a0_13 a0_14 a0_15).bind fun t14 => (if t14 = true then ((body_in.f a0_18 0 65535).bind fun t15 => (if t15 = true then ((body_in.f a0_20 0 255).bind fun t16 => (if t16 = true then ((body_in.f a0_21 0 255).bind fun t17 => (if t17 = true then ((body_in.f a0_22 0 15).bind fun t18 => (some t18)) else (some false))) else (some false))) else (some false))) else (some false))) else (some false))) else (some false))) else (some false))) else (some false))) else (some false))) else (some false))) else (some false))) else (some false))
open Go.Proofs.Ytiomlbkakiienaa.E in
set_option maxRecDepth 100000 in
theorem body_Check.eql28 (x y : Operand) (w : World) (a0 a1 a2 a3 a4 a5 a6 a7 a8 a9 a10 a11 a12 a13 a14 a15 a16 a17 a18 a19 a20 a21 a22 b0 b1 b2 b3 b4 b5 b6 b7 b8 b9 b10 b11 b12 b13 b14 b15 b16 b17 b18 b19 b20 b21 b22 : Int) : (do eqGuard .eql 28 x y (.agg #[.int .i64 a0, .int .i64 a1, .int .i64 a2, .int .i64 a3, .int .u64 a4, .int .i64 a5, .int .i64 a6, .int .i64 a7, .int .i64 a8, .int .u64 a9, .int .i64 a10, .int .i64 a11, .int .i64 a12, .int .i64 a13, .int .i64 a14, .int .i64 a15, .int .i64 a16, .int .u64 a17, .int .i64 a18, .int .i64 a19, .int .i64 a20, .int .i64 a21, .int .i64 a22]) (.agg #[.int .i64 b0, .int .i64 b1, .int .i64 b2, .int .i64 b3, .int .u64 b4, .int .i64 b5, .int .i64 b6, .int .i64 b7, .int .i64 b8, .int .u64 b9, .int .i64 b10, .int .i64 b11, .int .i64 b12, .int .i64 b13, .int .i64 b14, .int .i64 b15, .int .i64 b16, .int .u64 b17, .int .i64 b18, .int .i64 b19, .int .i64 b20, .int .i64 b21, .int .i64 b22]); binOp .eql 28 (.agg #[.int .i64 a0, .int .i64 a1, .int .i64 a2, .int .i64 a3, .int .u64 a4, .int .i64 a5, .int .i64 a6, .int .i64 a7, .int .i64 a8, .int .u64 a9, .int .i64 a10, .int .i64 a11, .int .i64 a12, .int .i64 a13, .int .i64 a14, .int .i64 a15, .int .i64 a16, .int .u64 a17, .int .i64 a18, .int .i64 a19, .int .i64 a20, .int .i64 a21, .int .i64 a22]) (.agg #[.int .i64 b0, .int .i64 b1, .int .i64 b2, .int .i64 b3, .int .u64 b4, .int .i64 b5, .int .i64 b6, .int .i64 b7, .int .i64 b8, .int .u64 b9, .int .i64 b10, .int .i64 b11, .int .i64 b12, .int .i64 b13, .int .i64 b14, .int .i64 b15, .int .i64 b16, .int .u64 b17, .int .i64 b18, .int .i64 b19, .int .i64 b20, .int .i64 b21, .int .i64 b22]) : Sem Value).run Try.prog w = .ok (.bool ((a0 == b0) && ((a1 == b1) && ((a2 == b2) && ((a3 == b3) && ((a4 == b4) && ((a5 == b5) && ((a6 == b6) && ((a7 == b7) && ((a8 == b8) && ((a9 == b9) && ((a10 == b10) && ((a11 == b11) && ((a12 == b12) && ((a13 == b13) && ((a14 == b14) && ((a15 == b15) && ((a16 == b16) && ((a17 == b17) && ((a18 == b18) && ((a19 == b19) && ((a20 == b20) && ((a21 == b21) && (a22 == b22)))))))))))))))))))))))) w := by
  have hu3 := Try.underlying3
  have hu22 := Try.underlying22
  have hu24 := Try.underlying24
  have hu26 := Try.underlying26
  have hu28 := Try.underlying28
  conv => lhs; simp [eqGuard, go_sem, hu3, hu22, hu24, hu26, hu28]
  exact ite_and (ite_and (ite_and (ite_and (ite_and (ite_and (ite_and (ite_and (ite_and (ite_and (ite_and (ite_and (ite_and (ite_and (ite_and (ite_and (ite_and (ite_and (ite_and (ite_and (ite_and (ite_and (ite_last))))))))))))))))))))))
abbrev body_Check.v0 (x0 x1 x2 x3 x4 x5 x6 x7 x8 x9 x10 x11 x12 x13 x14 x15 x16 x17 x18 x19 x20 x21 x22 : Int) : Value := .agg #[.int .i64 x0, .int .i64 x1, .int .i64 x2, .int .i64 x3, .int .u64 x4, .int .i64 x5, .int .i64 x6, .int .i64 x7, .int .i64 x8, .int .u64 x9, .int .i64 x10, .int .i64 x11, .int .i64 x12, .int .i64 x13, .int .i64 x14, .int .i64 x15, .int .i64 x16, .int .u64 x17, .int .i64 x18, .int .i64 x19, .int .i64 x20, .int .i64 x21, .int .i64 x22]
abbrev body_Check.c1 (x0 x1 x2 x3 x4 x5 x6 x7 x8 x9 x10 x11 x12 x13 x14 x15 x16 x17 x18 x19 x20 x21 x22 : Int) : Array Value := #[.int .i64 x0, .int .i64 x1, .int .i64 x2, .int .i64 x3, .int .u64 x4, .int .i64 x5, .int .i64 x6, .int .i64 x7, .int .i64 x8, .int .u64 x9, .int .i64 x10, .int .i64 x11, .int .i64 x12, .int .i64 x13, .int .i64 x14, .int .i64 x15, .int .i64 x16, .int .u64 x17, .int .i64 x18, .int .i64 x19, .int .i64 x20, .int .i64 x21, .int .i64 x22]
open Go.Proofs.Ytiomlbkakiienaa.E in
set_option maxHeartbeats 60000000 in
set_option maxRecDepth 100000 in
theorem body_Check.calls (k : Nat) (aq ar au av aw ax ay az ap an ab ac ad ae af ag ah ao aj ai ak al am : Int) (r : Bool) (w : World) (h : body_Check.f k aq ar au av aw ax ay az ap an ab ac ad ae af ag ah ao aj ai ak al am = some r) :
    Calls Try.prog 34 #[.agg #[.int .i64 aq, .int .i64 ar, .int .i64 au, .int .i64 av, .int .u64 aw, .int .i64 ax, .int .i64 ay, .int .i64 az, .int .i64 ap, .int .u64 an, .int .i64 ab, .int .i64 ac, .int .i64 ad, .int .i64 ae, .int .i64 af, .int .i64 ag, .int .i64 ah, .int .u64 ao, .int .i64 aj, .int .i64 ai, .int .i64 ak, .int .i64 al, .int .i64 am]] w fun e w' => e = .returned (.bool r) ∧ Below w.heap.size w w' := by
 have H := h
 clear h
 unfold body_Check.f at H
 obtain ⟨t6, bl, H⟩ := Option.bind_eq_some_iff.mp H
 by_cases c1 : t6 = true
 rotate_left
 ·rw [if_neg c1] at H
  obtain rfl := Option.some.inj H
  refine calls_of_wp (fn := Try.f34) (by kernel_rfl) rfl ?_
  have hS := St.enter #[(body_Check.v0 aq ar au av aw ax ay az ap an ab ac ad ae af ag ah ao aj ai ak al am)] 66 (by simp) [(0, (body_Check.v0 aq ar au av aw ax ay az ap an ab ac ad ae af ag ah ao aj ai ak al am))] (by simp)
  have bh := Below.refl w.heap.size w
  refine wp_seq_k (fun K1 bg => ?_)
  refine reg_seq (I := I1_ w) (ps := [IsB (body_Check.c1 aq ar au av aw ax ay az ap an ab ac ad ae af ag ah ao aj ai ak al am) 28 w.heap.size, VB false]) (by kernel_rfl) ?_ ?_ rfl hS bh ?_ ?_
  ·exact bs1
  ·exact .cons (Stays.b _ _ _) (.v (.nil))
  ·refine .on rfl (fun a w hS hI hp => does_var (x_box rfl (congrArg Value.cells (hS.get 0 rfl))) (hI).size) ?_
   refine .on rfl (fun a w hS hI hp => does_val (x_assign rfl (rfl)) rfl) ?_
   exact .nil
  clear hS
  intro bu w3 hS be hp
  replace hS := hS.nil
  obtain ⟨g4, ba, bk, aa⟩ := (show IsB _ 28 _ (sl _ 1) _ from hp 0 (by decide))
  have hS := hS.cons ba
  clear hp ba
  refine bg _ _ ?_
  refine wp_seq_k (fun K5 bd => ?_)
  refine reg_any (I := I2_ w w3) (ps := [IsV ((body_Check.v0 aq ar au av aw ax ay az ap an ab ac ad ae af ag ah ao aj ai ak al am)), VB t6, VB t6, VU, VU, VU, VU, VB false, VB false, VU, VU, VU, VB false, VB false, VU, VU, VU, VB false, VB false, VU, VU, VU, VB false, VB false, VU, VU, VU, VB false, VB false, VU, VU, VU, VB false, VB false, VU, VU, VU, VB false, VB false, VU, VU, VU, VB false, VB false, VU, VU, VU, VB false, VB false, VU, VU, VU, VB false, VB false, VU, VU, VU, VB false, VB false, VU, VU, VU, VB false, VB false]) (by kernel_rfl) (by kernel_rfl) ?_ ?_ rfl hS ⟨be, (bR w3)⟩ ?_ ?_
  ·exact bs2
  ·exact .v (.v (.v (.v (.v (.v (.v (.v (.v (.v (.v (.v (.v (.v (.v (.v (.v (.v (.v (.v (.v (.v (.v (.v (.v (.v (.v (.v (.v (.v (.v (.v (.v (.v (.v (.v (.v (.v (.v (.v (.v (.v (.v (.v (.v (.v (.v (.v (.v (.v (.v (.v (.v (.v (.v (.v (.v (.v (.v (.v (.v (.v (.v (.v (.nil))))))))))))))))))))))))))))))))))))))))))))))))))))))))))))))))
  ·refine .on rfl (fun a w hS hI hp => does_loadrow rfl (hS.get 0 rfl) (((hI.2).block g4 (blk_lt aa)).trans aa) Try.underlying28 rfl (by kernel_rfl) rfl) ?_
   refine .on rfl (fun a w hS hI hp => does_call (by kernel_rfl) (ar1 (hp.V 0 rfl rfl)) ((header_Check.calls (w := _) (h := bl)).mono fun _ _ h => ⟨_, h.1, h.2, rfl⟩)) ?_
   refine .mv 1 rfl rfl rfl ?_
   iterate 4 refine .sn 2 5 rfl rfl ((Bool.eq_false_iff.2 c1)) ?_
   refine .pf 2 rfl rfl rfl ((Bool.eq_false_iff.2 c1)) (fun _ => rfl) ?_
   refine .mv 7 rfl rfl rfl ?_
   iterate 3 refine .sn 8 11 rfl rfl rfl ?_
   refine .pf 8 rfl rfl rfl rfl (fun _ => rfl) ?_
   refine .mv 12 rfl rfl rfl ?_
   iterate 3 refine .sn 13 16 rfl rfl rfl ?_
   refine .pf 13 rfl rfl rfl rfl (fun _ => rfl) ?_
   refine .mv 17 rfl rfl rfl ?_
   iterate 3 refine .sn 18 21 rfl rfl rfl ?_
   refine .pf 18 rfl rfl rfl rfl (fun _ => rfl) ?_
   refine .mv 22 rfl rfl rfl ?_
   iterate 3 refine .sn 23 26 rfl rfl rfl ?_
   refine .pf 23 rfl rfl rfl rfl (fun _ => rfl) ?_
   refine .mv 27 rfl rfl rfl ?_
   iterate 3 refine .sn 28 31 rfl rfl rfl ?_
   refine .pf 28 rfl rfl rfl rfl (fun _ => rfl) ?_
   refine .mv 32 rfl rfl rfl ?_
   iterate 3 refine .sn 33 36 rfl rfl rfl ?_
   refine .pf 33 rfl rfl rfl rfl (fun _ => rfl) ?_
   refine .mv 37 rfl rfl rfl ?_
   iterate 3 refine .sn 38 41 rfl rfl rfl ?_
   refine .pf 38 rfl rfl rfl rfl (fun _ => rfl) ?_
   refine .mv 42 rfl rfl rfl ?_
   iterate 3 refine .sn 43 46 rfl rfl rfl ?_
   refine .pf 43 rfl rfl rfl rfl (fun _ => rfl) ?_
   refine .mv 47 rfl rfl rfl ?_
   iterate 3 refine .sn 48 51 rfl rfl rfl ?_
   refine .pf 48 rfl rfl rfl rfl (fun _ => rfl) ?_
   refine .mv 52 rfl rfl rfl ?_
   iterate 3 refine .sn 53 56 rfl rfl rfl ?_
   refine .pf 53 rfl rfl rfl rfl (fun _ => rfl) ?_
   refine .mv 57 rfl rfl rfl ?_
   iterate 3 refine .sn 58 61 rfl rfl rfl ?_
   refine .pf 58 rfl rfl rfl rfl (fun _ => rfl) ?_
   refine .asg 62 rfl rfl rfl ?_
   exact .nil
  clear hS
  intro cd w8 hS bQ hp
  replace hS := hS.nil
  have aX : sl _ 2 = .bool false := hp 63 (by decide)
  have hS := hS.cons aX
  clear hp aX
  refine bd _ _ ?_
  refine wp_ret ?_
  (try simp only [Exit.then, Exit.inBlock, Exit.jump, Exit.noGoto])
  exact bodyPost_ret (v := .bool false) (results_single rfl (Vals.at (hS.get 0 rfl) .nil)) hS.nodef ⟨rfl, bQ.1⟩
 rw [if_pos c1] at H
 obtain ⟨t7, bo, H⟩ := Option.bind_eq_some_iff.mp H
 obtain ⟨aO, aP, aQ, aR, aS, aT, aU, aV, aW, aA, aB, aC, aD, aE, aF, aG, aH, aI, aJ, aK, aL, aM, aN⟩ := t7
 (try dsimp only at H)
 by_cases c2 : ((aq == aO) && ((ar == aP) && ((au == aQ) && ((av == aR) && ((aw == aS) && ((ax == aT) && ((ay == aU) && ((az == aV) && ((ap == aW) && ((an == aA) && ((ab == aB) && ((ac == aC) && ((ad == aD) && ((ae == aE) && ((af == aF) && ((ag == aG) && ((ah == aH) && ((ao == aI) && ((aj == aJ) && ((ai == aK) && ((ak == aL) && ((al == aM) && (am == aN))))))))))))))))))))))) = true
 rotate_left
 ·rw [if_neg c2] at H
  obtain rfl := Option.some.inj H
  refine calls_of_wp (fn := Try.f34) (by kernel_rfl) rfl ?_
  have hS := St.enter #[(body_Check.v0 aq ar au av aw ax ay az ap an ab ac ad ae af ag ah ao aj ai ak al am)] 66 (by simp) [(0, (body_Check.v0 aq ar au av aw ax ay az ap an ab ac ad ae af ag ah ao aj ai ak al am))] (by simp)
  have bh := Below.refl w.heap.size w
  refine wp_seq_k (fun K1 bg => ?_)
  refine reg_seq (I := I1_ w) (ps := [IsB (body_Check.c1 aq ar au av aw ax ay az ap an ab ac ad ae af ag ah ao aj ai ak al am) 28 w.heap.size, VB false]) (by kernel_rfl) ?_ ?_ rfl hS bh ?_ ?_
  ·exact bs1
  ·exact .cons (Stays.b _ _ _) (.v (.nil))
  ·refine .on rfl (fun a w hS hI hp => does_var (x_box rfl (congrArg Value.cells (hS.get 0 rfl))) (hI).size) ?_
   refine .on rfl (fun a w hS hI hp => does_val (x_assign rfl (rfl)) rfl) ?_
   exact .nil
  clear hS
  intro bu w3 hS be hp
  replace hS := hS.nil
  obtain ⟨g4, ba, bk, aa⟩ := (show IsB _ 28 _ (sl _ 1) _ from hp 0 (by decide))
  have hS := hS.cons ba
  clear hp ba
  refine bg _ _ ?_
  refine wp_seq_k (fun K5 bd => ?_)
  refine reg_any (I := I2_ w w3) (ps := [IsV ((body_Check.v0 aq ar au av aw ax ay az ap an ab ac ad ae af ag ah ao aj ai ak al am)), VB t6, VB t6, IsV ((body_Check.v0 aq ar au av aw ax ay az ap an ab ac ad ae af ag ah ao aj ai ak al am)), IsV ((body_Check.v0 aq ar au av aw ax ay az ap an ab ac ad ae af ag ah ao aj ai ak al am)), IsV ((body_Check.v0 aO aP aQ aR aS aT aU aV aW aA aB aC aD aE aF aG aH aI aJ aK aL aM aN)), VB ((aq == aO) && ((ar == aP) && ((au == aQ) && ((av == aR) && ((aw == aS) && ((ax == aT) && ((ay == aU) && ((az == aV) && ((ap == aW) && ((an == aA) && ((ab == aB) && ((ac == aC) && ((ad == aD) && ((ae == aE) && ((af == aF) && ((ag == aG) && ((ah == aH) && ((ao == aI) && ((aj == aJ) && ((ai == aK) && ((ak == aL) && ((al == aM) && (am == aN))))))))))))))))))))))), VB ((aq == aO) && ((ar == aP) && ((au == aQ) && ((av == aR) && ((aw == aS) && ((ax == aT) && ((ay == aU) && ((az == aV) && ((ap == aW) && ((an == aA) && ((ab == aB) && ((ac == aC) && ((ad == aD) && ((ae == aE) && ((af == aF) && ((ag == aG) && ((ah == aH) && ((ao == aI) && ((aj == aJ) && ((ai == aK) && ((ak == aL) && ((al == aM) && (am == aN))))))))))))))))))))))), VB ((aq == aO) && ((ar == aP) && ((au == aQ) && ((av == aR) && ((aw == aS) && ((ax == aT) && ((ay == aU) && ((az == aV) && ((ap == aW) && ((an == aA) && ((ab == aB) && ((ac == aC) && ((ad == aD) && ((ae == aE) && ((af == aF) && ((ag == aG) && ((ah == aH) && ((ao == aI) && ((aj == aJ) && ((ai == aK) && ((ak == aL) && ((al == aM) && (am == aN))))))))))))))))))))))), VU, VU, VU, VB false, VB false, VU, VU, VU, VB false, VB false, VU, VU, VU, VB false, VB false, VU, VU, VU, VB false, VB false, VU, VU, VU, VB false, VB false, VU, VU, VU, VB false, VB false, VU, VU, VU, VB false, VB false, VU, VU, VU, VB false, VB false, VU, VU, VU, VB false, VB false, VU, VU, VU, VB false, VB false, VU, VU, VU, VB false, VB false]) (by kernel_rfl) (by kernel_rfl) ?_ ?_ rfl hS ⟨be, (bR w3)⟩ ?_ ?_
  ·exact bs2
  ·exact .v (.v (.v (.v (.v (.v (.v (.v (.v (.v (.v (.v (.v (.v (.v (.v (.v (.v (.v (.v (.v (.v (.v (.v (.v (.v (.v (.v (.v (.v (.v (.v (.v (.v (.v (.v (.v (.v (.v (.v (.v (.v (.v (.v (.v (.v (.v (.v (.v (.v (.v (.v (.v (.v (.v (.v (.v (.v (.v (.v (.v (.v (.v (.v (.nil))))))))))))))))))))))))))))))))))))))))))))))))))))))))))))))))
  ·refine .on rfl (fun a w hS hI hp => does_loadrow rfl (hS.get 0 rfl) (((hI.2).block g4 (blk_lt aa)).trans aa) Try.underlying28 rfl (by kernel_rfl) rfl) ?_
   refine .on rfl (fun a w hS hI hp => does_call (by kernel_rfl) (ar1 (hp.V 0 rfl rfl)) ((header_Check.calls (w := _) (h := bl)).mono fun _ _ h => ⟨_, h.1, h.2, rfl⟩)) ?_
   refine .mv 1 rfl rfl rfl ?_
   iterate 2 refine .oy 2 5 rfl rfl c1 (fun a w hS hI hp => does_loadrow rfl (hS.get 0 rfl) (((hI.2).block g4 (blk_lt aa)).trans aa) Try.underlying28 rfl (by kernel_rfl) rfl) ?_
   refine .oy 2 5 rfl rfl c1 (fun a w hS hI hp => does_call (by kernel_rfl) (ar1 (hp.V 4 rfl rfl)) ((body_own.calls (w := _) (h := bo)).mono fun _ _ h => ⟨_, h.1, h.2, rfl⟩)) ?_
   refine .oy 2 5 rfl rfl c1 (fun a w hS hI hp => does_val (x_bin rfl (hp.V 3 rfl rfl) (hp.V 5 rfl rfl) (body_Check.eql28 _ _ _ aq ar au av aw ax ay az ap an ab ac ad ae af ag ah ao aj ai ak al am aO aP aQ aR aS aT aU aV aW aA aB aC aD aE aF aG aH aI aJ aK aL aM aN)) rfl) ?_
   refine .pt 2 6 rfl rfl rfl c1 rfl ?_
   refine .mv 7 rfl rfl rfl ?_
   iterate 3 refine .sn 8 11 rfl rfl ((Bool.eq_false_iff.2 c2)) ?_
   refine .pf 8 rfl rfl rfl ((Bool.eq_false_iff.2 c2)) (fun _ => rfl) ?_
   refine .mv 12 rfl rfl rfl ?_
   iterate 3 refine .sn 13 16 rfl rfl rfl ?_
   refine .pf 13 rfl rfl rfl rfl (fun _ => rfl) ?_
   refine .mv 17 rfl rfl rfl ?_
   iterate 3 refine .sn 18 21 rfl rfl rfl ?_
   refine .pf 18 rfl rfl rfl rfl (fun _ => rfl) ?_
   refine .mv 22 rfl rfl rfl ?_
   iterate 3 refine .sn 23 26 rfl rfl rfl ?_
   refine .pf 23 rfl rfl rfl rfl (fun _ => rfl) ?_
   refine .mv 27 rfl rfl rfl ?_
   iterate 3 refine .sn 28 31 rfl rfl rfl ?_
   refine .pf 28 rfl rfl rfl rfl (fun _ => rfl) ?_
   refine .mv 32 rfl rfl rfl ?_
   iterate 3 refine .sn 33 36 rfl rfl rfl ?_
   refine .pf 33 rfl rfl rfl rfl (fun _ => rfl) ?_
   refine .mv 37 rfl rfl rfl ?_
   iterate 3 refine .sn 38 41 rfl rfl rfl ?_
   refine .pf 38 rfl rfl rfl rfl (fun _ => rfl) ?_
   refine .mv 42 rfl rfl rfl ?_
   iterate 3 refine .sn 43 46 rfl rfl rfl ?_
   refine .pf 43 rfl rfl rfl rfl (fun _ => rfl) ?_
   refine .mv 47 rfl rfl rfl ?_
   iterate 3 refine .sn 48 51 rfl rfl rfl ?_
   refine .pf 48 rfl rfl rfl rfl (fun _ => rfl) ?_
   refine .mv 52 rfl rfl rfl ?_
   iterate 3 refine .sn 53 56 rfl rfl rfl ?_
   refine .pf 53 rfl rfl rfl rfl (fun _ => rfl) ?_
   refine .mv 57 rfl rfl rfl ?_
   iterate 3 refine .sn 58 61 rfl rfl rfl ?_
   refine .pf 58 rfl rfl rfl rfl (fun _ => rfl) ?_
   refine .asg 62 rfl rfl rfl ?_
   exact .nil
  clear hS
  intro ce w9 hS bS hp
  replace hS := hS.nil
  have aX : sl _ 2 = .bool false := hp 63 (by decide)
  have hS := hS.cons aX
  clear hp aX
  refine bd _ _ ?_
  refine wp_ret ?_
  (try simp only [Exit.then, Exit.inBlock, Exit.jump, Exit.noGoto])
  exact bodyPost_ret (v := .bool false) (results_single rfl (Vals.at (hS.get 0 rfl) .nil)) hS.nodef ⟨rfl, bS.1⟩
 rw [if_pos c2] at H
 obtain ⟨t8, br, H⟩ := Option.bind_eq_some_iff.mp H
 by_cases c3 : t8 = true
 rotate_left
 ·rw [if_neg c3] at H
  obtain rfl := Option.some.inj H
  refine calls_of_wp (fn := Try.f34) (by kernel_rfl) rfl ?_
  have hS := St.enter #[(body_Check.v0 aq ar au av aw ax ay az ap an ab ac ad ae af ag ah ao aj ai ak al am)] 66 (by simp) [(0, (body_Check.v0 aq ar au av aw ax ay az ap an ab ac ad ae af ag ah ao aj ai ak al am))] (by simp)
  have bh := Below.refl w.heap.size w
  refine wp_seq_k (fun K1 bg => ?_)
  refine reg_seq (I := I1_ w) (ps := [IsB (body_Check.c1 aq ar au av aw ax ay az ap an ab ac ad ae af ag ah ao aj ai ak al am) 28 w.heap.size, VB false]) (by kernel_rfl) ?_ ?_ rfl hS bh ?_ ?_
  ·exact bs1
  ·exact .cons (Stays.b _ _ _) (.v (.nil))
  ·refine .on rfl (fun a w hS hI hp => does_var (x_box rfl (congrArg Value.cells (hS.get 0 rfl))) (hI).size) ?_
   refine .on rfl (fun a w hS hI hp => does_val (x_assign rfl (rfl)) rfl) ?_
   exact .nil
  clear hS
  intro bu w3 hS be hp
  replace hS := hS.nil
  obtain ⟨g4, ba, bk, aa⟩ := (show IsB _ 28 _ (sl _ 1) _ from hp 0 (by decide))
  have hS := hS.cons ba
  clear hp ba
  refine bg _ _ ?_
  refine wp_seq_k (fun K5 bd => ?_)
  refine reg_any (I := I2_ w w3) (ps := [IsV ((body_Check.v0 aq ar au av aw ax ay az ap an ab ac ad ae af ag ah ao aj ai ak al am)), VB t6, VB t6, IsV ((body_Check.v0 aq ar au av aw ax ay az ap an ab ac ad ae af ag ah ao aj ai ak al am)), IsV ((body_Check.v0 aq ar au av aw ax ay az ap an ab ac ad ae af ag ah ao aj ai ak al am)), IsV ((body_Check.v0 aO aP aQ aR aS aT aU aV aW aA aB aC aD aE aF aG aH aI aJ aK aL aM aN)), VB ((aq == aO) && ((ar == aP) && ((au == aQ) && ((av == aR) && ((aw == aS) && ((ax == aT) && ((ay == aU) && ((az == aV) && ((ap == aW) && ((an == aA) && ((ab == aB) && ((ac == aC) && ((ad == aD) && ((ae == aE) && ((af == aF) && ((ag == aG) && ((ah == aH) && ((ao == aI) && ((aj == aJ) && ((ai == aK) && ((ak == aL) && ((al == aM) && (am == aN))))))))))))))))))))))), VB ((aq == aO) && ((ar == aP) && ((au == aQ) && ((av == aR) && ((aw == aS) && ((ax == aT) && ((ay == aU) && ((az == aV) && ((ap == aW) && ((an == aA) && ((ab == aB) && ((ac == aC) && ((ad == aD) && ((ae == aE) && ((af == aF) && ((ag == aG) && ((ah == aH) && ((ao == aI) && ((aj == aJ) && ((ai == aK) && ((ak == aL) && ((al == aM) && (am == aN))))))))))))))))))))))), VB ((aq == aO) && ((ar == aP) && ((au == aQ) && ((av == aR) && ((aw == aS) && ((ax == aT) && ((ay == aU) && ((az == aV) && ((ap == aW) && ((an == aA) && ((ab == aB) && ((ac == aC) && ((ad == aD) && ((ae == aE) && ((af == aF) && ((ag == aG) && ((ah == aH) && ((ao == aI) && ((aj == aJ) && ((ai == aK) && ((ak == aL) && ((al == aM) && (am == aN))))))))))))))))))))))), VP g4 8, VI ap, VB t8, VB t8, VB t8, VU, VU, VU, VB false, VB false, VU, VU, VU, VB false, VB false, VU, VU, VU, VB false, VB false, VU, VU, VU, VB false, VB false, VU, VU, VU, VB false, VB false, VU, VU, VU, VB false, VB false, VU, VU, VU, VB false, VB false, VU, VU, VU, VB false, VB false, VU, VU, VU, VB false, VB false, VU, VU, VU, VB false, VB false]) (by kernel_rfl) (by kernel_rfl) ?_ ?_ rfl hS ⟨be, (bR w3)⟩ ?_ ?_
  ·exact bs2
  ·exact .v (.v (.v (.v (.v (.v (.v (.v (.v (.v (.v (.v (.v (.v (.v (.v (.v (.v (.v (.v (.v (.v (.v (.v (.v (.v (.v (.v (.v (.v (.v (.v (.v (.v (.v (.v (.v (.v (.v (.v (.v (.v (.v (.v (.v (.v (.v (.v (.v (.v (.v (.v (.v (.v (.v (.v (.v (.v (.v (.v (.v (.v (.v (.v (.nil))))))))))))))))))))))))))))))))))))))))))))))))))))))))))))))))
  ·refine .on rfl (fun a w hS hI hp => does_loadrow rfl (hS.get 0 rfl) (((hI.2).block g4 (blk_lt aa)).trans aa) Try.underlying28 rfl (by kernel_rfl) rfl) ?_
   refine .on rfl (fun a w hS hI hp => does_call (by kernel_rfl) (ar1 (hp.V 0 rfl rfl)) ((header_Check.calls (w := _) (h := bl)).mono fun _ _ h => ⟨_, h.1, h.2, rfl⟩)) ?_
   refine .mv 1 rfl rfl rfl ?_
   iterate 2 refine .oy 2 5 rfl rfl c1 (fun a w hS hI hp => does_loadrow rfl (hS.get 0 rfl) (((hI.2).block g4 (blk_lt aa)).trans aa) Try.underlying28 rfl (by kernel_rfl) rfl) ?_
   refine .oy 2 5 rfl rfl c1 (fun a w hS hI hp => does_call (by kernel_rfl) (ar1 (hp.V 4 rfl rfl)) ((body_own.calls (w := _) (h := bo)).mono fun _ _ h => ⟨_, h.1, h.2, rfl⟩)) ?_
   refine .oy 2 5 rfl rfl c1 (fun a w hS hI hp => does_val (x_bin rfl (hp.V 3 rfl rfl) (hp.V 5 rfl rfl) (body_Check.eql28 _ _ _ aq ar au av aw ax ay az ap an ab ac ad ae af ag ah ao aj ai ak al am aO aP aQ aR aS aT aU aV aW aA aB aC aD aE aF aG aH aI aJ aK aL aM aN)) rfl) ?_
   refine .pt 2 6 rfl rfl rfl c1 rfl ?_
   refine .mv 7 rfl rfl rfl ?_
   refine .oy 8 11 rfl rfl c2 (fun a w hS hI hp => does_val (x_fieldE (b := 0) rfl (hS.get 0 rfl) Try.underlying28 rfl rfl (by kernel_rfl)) rfl) ?_
   refine .oy 8 11 rfl rfl c2 (fun a w hS hI hp => does_val (x_load1 (d := .int .i64) rfl (hp.V 9 rfl rfl) (by kernel_rfl) rfl ((blk_cell (((hI.2).block g4 (blk_lt aa)).trans aa) 8).trans rfl)) rfl) ?_
   refine .oy 8 11 rfl rfl c2 (fun a w hS hI hp => does_call (by kernel_rfl) (ar1 (hp.V 10 rfl rfl)) ((stamp_May.calls ap t8 _  br).mono fun _ _ h => ⟨_, h.1, h.2.below, rfl⟩)) ?_
   refine .pt 8 11 rfl rfl rfl c2 rfl ?_
   refine .mv 12 rfl rfl rfl ?_
   iterate 3 refine .sn 13 16 rfl rfl ((Bool.eq_false_iff.2 c3)) ?_
   refine .pf 13 rfl rfl rfl ((Bool.eq_false_iff.2 c3)) (fun _ => rfl) ?_
   refine .mv 17 rfl rfl rfl ?_
   iterate 3 refine .sn 18 21 rfl rfl rfl ?_
   refine .pf 18 rfl rfl rfl rfl (fun _ => rfl) ?_
   refine .mv 22 rfl rfl rfl ?_
   iterate 3 refine .sn 23 26 rfl rfl rfl ?_
   refine .pf 23 rfl rfl rfl rfl (fun _ => rfl) ?_
   refine .mv 27 rfl rfl rfl ?_
   iterate 3 refine .sn 28 31 rfl rfl rfl ?_
   refine .pf 28 rfl rfl rfl rfl (fun _ => rfl) ?_
   refine .mv 32 rfl rfl rfl ?_
   iterate 3 refine .sn 33 36 rfl rfl rfl ?_
   refine .pf 33 rfl rfl rfl rfl (fun _ => rfl) ?_
   refine .mv 37 rfl rfl rfl ?_
   iterate 3 refine .sn 38 41 rfl rfl rfl ?_
   refine .pf 38 rfl rfl rfl rfl (fun _ => rfl) ?_
   refine .mv 42 rfl rfl rfl ?_
   iterate 3 refine .sn 43 46 rfl rfl rfl ?_
   refine .pf 43 rfl rfl rfl rfl (fun _ => rfl) ?_
   refine .mv 47 rfl rfl rfl ?_
   iterate 3 refine .sn 48 51 rfl rfl rfl ?_
   refine .pf 48 rfl rfl rfl rfl (fun _ => rfl) ?_
   refine .mv 52 rfl rfl rfl ?_
   iterate 3 refine .sn 53 56 rfl rfl rfl ?_
   refine .pf 53 rfl rfl rfl rfl (fun _ => rfl) ?_
   refine .mv 57 rfl rfl rfl ?_
   iterate 3 refine .sn 58 61 rfl rfl rfl ?_
   refine .pf 58 rfl rfl rfl rfl (fun _ => rfl) ?_
   refine .asg 62 rfl rfl rfl ?_
   exact .nil
  clear hS
  intro cf cg hS bF hp
  replace hS := hS.nil
  have aX : sl _ 2 = .bool false := hp 63 (by decide)
  have hS := hS.cons aX
  clear hp aX
  refine bd _ _ ?_
  refine wp_ret ?_
  (try simp only [Exit.then, Exit.inBlock, Exit.jump, Exit.noGoto])
  exact bodyPost_ret (v := .bool false) (results_single rfl (Vals.at (hS.get 0 rfl) .nil)) hS.nodef ⟨rfl, bF.1⟩
 rw [if_pos c3] at H
 obtain ⟨t9, bs, H⟩ := Option.bind_eq_some_iff.mp H
 by_cases c4 : t9 = true
 rotate_left
 ·rw [if_neg c4] at H
  obtain rfl := Option.some.inj H
  refine calls_of_wp (fn := Try.f34) (by kernel_rfl) rfl ?_
  have hS := St.enter #[(body_Check.v0 aq ar au av aw ax ay az ap an ab ac ad ae af ag ah ao aj ai ak al am)] 66 (by simp) [(0, (body_Check.v0 aq ar au av aw ax ay az ap an ab ac ad ae af ag ah ao aj ai ak al am))] (by simp)
  have bh := Below.refl w.heap.size w
  refine wp_seq_k (fun K1 bg => ?_)
  refine reg_seq (I := I1_ w) (ps := [IsB (body_Check.c1 aq ar au av aw ax ay az ap an ab ac ad ae af ag ah ao aj ai ak al am) 28 w.heap.size, VB false]) (by kernel_rfl) ?_ ?_ rfl hS bh ?_ ?_
  ·exact bs1
  ·exact .cons (Stays.b _ _ _) (.v (.nil))
  ·refine .on rfl (fun a w hS hI hp => does_var (x_box rfl (congrArg Value.cells (hS.get 0 rfl))) (hI).size) ?_
   refine .on rfl (fun a w hS hI hp => does_val (x_assign rfl (rfl)) rfl) ?_
   exact .nil
  clear hS
  intro bu w3 hS be hp
  replace hS := hS.nil
  obtain ⟨g4, ba, bk, aa⟩ := (show IsB _ 28 _ (sl _ 1) _ from hp 0 (by decide))
  have hS := hS.cons ba
  clear hp ba
  refine bg _ _ ?_
  refine wp_seq_k (fun K5 bd => ?_)
  refine reg_any (I := I2_ w w3) (ps := [IsV ((body_Check.v0 aq ar au av aw ax ay az ap an ab ac ad ae af ag ah ao aj ai ak al am)), VB t6, VB t6, IsV ((body_Check.v0 aq ar au av aw ax ay az ap an ab ac ad ae af ag ah ao aj ai ak al am)), IsV ((body_Check.v0 aq ar au av aw ax ay az ap an ab ac ad ae af ag ah ao aj ai ak al am)), IsV ((body_Check.v0 aO aP aQ aR aS aT aU aV aW aA aB aC aD aE aF aG aH aI aJ aK aL aM aN)), VB ((aq == aO) && ((ar == aP) && ((au == aQ) && ((av == aR) && ((aw == aS) && ((ax == aT) && ((ay == aU) && ((az == aV) && ((ap == aW) && ((an == aA) && ((ab == aB) && ((ac == aC) && ((ad == aD) && ((ae == aE) && ((af == aF) && ((ag == aG) && ((ah == aH) && ((ao == aI) && ((aj == aJ) && ((ai == aK) && ((ak == aL) && ((al == aM) && (am == aN))))))))))))))))))))))), VB ((aq == aO) && ((ar == aP) && ((au == aQ) && ((av == aR) && ((aw == aS) && ((ax == aT) && ((ay == aU) && ((az == aV) && ((ap == aW) && ((an == aA) && ((ab == aB) && ((ac == aC) && ((ad == aD) && ((ae == aE) && ((af == aF) && ((ag == aG) && ((ah == aH) && ((ao == aI) && ((aj == aJ) && ((ai == aK) && ((ak == aL) && ((al == aM) && (am == aN))))))))))))))))))))))), VB ((aq == aO) && ((ar == aP) && ((au == aQ) && ((av == aR) && ((aw == aS) && ((ax == aT) && ((ay == aU) && ((az == aV) && ((ap == aW) && ((an == aA) && ((ab == aB) && ((ac == aC) && ((ad == aD) && ((ae == aE) && ((af == aF) && ((ag == aG) && ((ah == aH) && ((ao == aI) && ((aj == aJ) && ((ai == aK) && ((ak == aL) && ((al == aM) && (am == aN))))))))))))))))))))))), VP g4 8, VI ap, VB t8, VB t8, VB t8, VP g4 9, IsV (.agg #[.int .u64 an, .int .i64 ab]), VB t9, VB t9, VB t9, VU, VU, VU, VB false, VB false, VU, VU, VU, VB false, VB false, VU, VU, VU, VB false, VB false, VU, VU, VU, VB false, VB false, VU, VU, VU, VB false, VB false, VU, VU, VU, VB false, VB false, VU, VU, VU, VB false, VB false, VU, VU, VU, VB false, VB false, VU, VU, VU, VB false, VB false]) (by kernel_rfl) (by kernel_rfl) ?_ ?_ rfl hS ⟨be, (bR w3)⟩ ?_ ?_
  ·exact bs2
  ·exact .v (.v (.v (.v (.v (.v (.v (.v (.v (.v (.v (.v (.v (.v (.v (.v (.v (.v (.v (.v (.v (.v (.v (.v (.v (.v (.v (.v (.v (.v (.v (.v (.v (.v (.v (.v (.v (.v (.v (.v (.v (.v (.v (.v (.v (.v (.v (.v (.v (.v (.v (.v (.v (.v (.v (.v (.v (.v (.v (.v (.v (.v (.v (.v (.nil))))))))))))))))))))))))))))))))))))))))))))))))))))))))))))))))
  ·refine .on rfl (fun a w hS hI hp => does_loadrow rfl (hS.get 0 rfl) (((hI.2).block g4 (blk_lt aa)).trans aa) Try.underlying28 rfl (by kernel_rfl) rfl) ?_
   refine .on rfl (fun a w hS hI hp => does_call (by kernel_rfl) (ar1 (hp.V 0 rfl rfl)) ((header_Check.calls (w := _) (h := bl)).mono fun _ _ h => ⟨_, h.1, h.2, rfl⟩)) ?_
   refine .mv 1 rfl rfl rfl ?_
   iterate 2 refine .oy 2 5 rfl rfl c1 (fun a w hS hI hp => does_loadrow rfl (hS.get 0 rfl) (((hI.2).block g4 (blk_lt aa)).trans aa) Try.underlying28 rfl (by kernel_rfl) rfl) ?_
   refine .oy 2 5 rfl rfl c1 (fun a w hS hI hp => does_call (by kernel_rfl) (ar1 (hp.V 4 rfl rfl)) ((body_own.calls (w := _) (h := bo)).mono fun _ _ h => ⟨_, h.1, h.2, rfl⟩)) ?_
   refine .oy 2 5 rfl rfl c1 (fun a w hS hI hp => does_val (x_bin rfl (hp.V 3 rfl rfl) (hp.V 5 rfl rfl) (body_Check.eql28 _ _ _ aq ar au av aw ax ay az ap an ab ac ad ae af ag ah ao aj ai ak al am aO aP aQ aR aS aT aU aV aW aA aB aC aD aE aF aG aH aI aJ aK aL aM aN)) rfl) ?_
   refine .pt 2 6 rfl rfl rfl c1 rfl ?_
   refine .mv 7 rfl rfl rfl ?_
   refine .oy 8 11 rfl rfl c2 (fun a w hS hI hp => does_val (x_fieldE (b := 0) rfl (hS.get 0 rfl) Try.underlying28 rfl rfl (by kernel_rfl)) rfl) ?_
   refine .oy 8 11 rfl rfl c2 (fun a w hS hI hp => does_val (x_load1 (d := .int .i64) rfl (hp.V 9 rfl rfl) (by kernel_rfl) rfl ((blk_cell (((hI.2).block g4 (blk_lt aa)).trans aa) 8).trans rfl)) rfl) ?_
   refine .oy 8 11 rfl rfl c2 (fun a w hS hI hp => does_call (by kernel_rfl) (ar1 (hp.V 10 rfl rfl)) ((stamp_May.calls ap t8 _  br).mono fun _ _ h => ⟨_, h.1, h.2.below, rfl⟩)) ?_
   refine .pt 8 11 rfl rfl rfl c2 rfl ?_
   refine .mv 12 rfl rfl rfl ?_
   refine .oy 13 16 rfl rfl c3 (fun a w hS hI hp => does_val (x_fieldE (b := 0) rfl (hS.get 0 rfl) Try.underlying28 rfl rfl (by kernel_rfl)) rfl) ?_
   refine .oy 13 16 rfl rfl c3 (fun a w hS hI hp => does_loadmid (cs := [.int .u64 an, .int .i64 ab]) rfl (hp.V 14 rfl rfl) (((hI.2).block g4 (blk_lt aa)).trans aa) (by kernel_rfl) Try.underlying24 rfl (by kernel_rfl) rfl) ?_
   refine .oy 13 16 rfl rfl c3 (fun a w hS hI hp => does_call (by kernel_rfl) (ar1 (hp.V 15 rfl rfl)) ((ident_May.calls an ab t9 _  bs).mono fun _ _ h => ⟨_, h.1, h.2, rfl⟩)) ?_
   refine .pt 13 16 rfl rfl rfl c3 rfl ?_
   refine .mv 17 rfl rfl rfl ?_
   iterate 3 refine .sn 18 21 rfl rfl ((Bool.eq_false_iff.2 c4)) ?_
   refine .pf 18 rfl rfl rfl ((Bool.eq_false_iff.2 c4)) (fun _ => rfl) ?_
   refine .mv 22 rfl rfl rfl ?_
   iterate 3 refine .sn 23 26 rfl rfl rfl ?_
   refine .pf 23 rfl rfl rfl rfl (fun _ => rfl) ?_
   refine .mv 27 rfl rfl rfl ?_
   iterate 3 refine .sn 28 31 rfl rfl rfl ?_
   refine .pf 28 rfl rfl rfl rfl (fun _ => rfl) ?_
   refine .mv 32 rfl rfl rfl ?_
   iterate 3 refine .sn 33 36 rfl rfl rfl ?_
   refine .pf 33 rfl rfl rfl rfl (fun _ => rfl) ?_
   refine .mv 37 rfl rfl rfl ?_
   iterate 3 refine .sn 38 41 rfl rfl rfl ?_
   refine .pf 38 rfl rfl rfl rfl (fun _ => rfl) ?_
   refine .mv 42 rfl rfl rfl ?_
   iterate 3 refine .sn 43 46 rfl rfl rfl ?_
   refine .pf 43 rfl rfl rfl rfl (fun _ => rfl) ?_
   refine .mv 47 rfl rfl rfl ?_
   iterate 3 refine .sn 48 51 rfl rfl rfl ?_
   refine .pf 48 rfl rfl rfl rfl (fun _ => rfl) ?_
   refine .mv 52 rfl rfl rfl ?_
   iterate 3 refine .sn 53 56 rfl rfl rfl ?_
   refine .pf 53 rfl rfl rfl rfl (fun _ => rfl) ?_
   refine .mv 57 rfl rfl rfl ?_
   iterate 3 refine .sn 58 61 rfl rfl rfl ?_
   refine .pf 58 rfl rfl rfl rfl (fun _ => rfl) ?_
   refine .asg 62 rfl rfl rfl ?_
   exact .nil
  clear hS
  intro bT ch hS bG hp
  replace hS := hS.nil
  have aX : sl _ 2 = .bool false := hp 63 (by decide)
  have hS := hS.cons aX
  clear hp aX
  refine bd _ _ ?_
  refine wp_ret ?_
  (try simp only [Exit.then, Exit.inBlock, Exit.jump, Exit.noGoto])
  exact bodyPost_ret (v := .bool false) (results_single rfl (Vals.at (hS.get 0 rfl) .nil)) hS.nodef ⟨rfl, bG.1⟩
 rw [if_pos c4] at H
 obtain ⟨aY, bn, H⟩ := Option.bind_eq_some_iff.mp H
 by_cases c5 : aY = true
 rotate_left
 ·rw [if_neg c5] at H
  obtain rfl := Option.some.inj H
  refine calls_of_wp (fn := Try.f34) (by kernel_rfl) rfl ?_
  have hS := St.enter #[(body_Check.v0 aq ar au av aw ax ay az ap an ab ac ad ae af ag ah ao aj ai ak al am)] 66 (by simp) [(0, (body_Check.v0 aq ar au av aw ax ay az ap an ab ac ad ae af ag ah ao aj ai ak al am))] (by simp)
  have bh := Below.refl w.heap.size w
  refine wp_seq_k (fun K1 bg => ?_)
  refine reg_seq (I := I1_ w) (ps := [IsB (body_Check.c1 aq ar au av aw ax ay az ap an ab ac ad ae af ag ah ao aj ai ak al am) 28 w.heap.size, VB false]) (by kernel_rfl) ?_ ?_ rfl hS bh ?_ ?_
  ·exact bs1
  ·exact .cons (Stays.b _ _ _) (.v (.nil))
  ·refine .on rfl (fun a w hS hI hp => does_var (x_box rfl (congrArg Value.cells (hS.get 0 rfl))) (hI).size) ?_
   refine .on rfl (fun a w hS hI hp => does_val (x_assign rfl (rfl)) rfl) ?_
   exact .nil
  clear hS
  intro bu w3 hS be hp
  replace hS := hS.nil
  obtain ⟨g4, ba, bk, aa⟩ := (show IsB _ 28 _ (sl _ 1) _ from hp 0 (by decide))
  have hS := hS.cons ba
  clear hp ba
  refine bg _ _ ?_
  refine wp_seq_k (fun K5 bd => ?_)
  refine reg_any (I := I2_ w w3) (ps := [IsV ((body_Check.v0 aq ar au av aw ax ay az ap an ab ac ad ae af ag ah ao aj ai ak al am)), VB t6, VB t6, IsV ((body_Check.v0 aq ar au av aw ax ay az ap an ab ac ad ae af ag ah ao aj ai ak al am)), IsV ((body_Check.v0 aq ar au av aw ax ay az ap an ab ac ad ae af ag ah ao aj ai ak al am)), IsV ((body_Check.v0 aO aP aQ aR aS aT aU aV aW aA aB aC aD aE aF aG aH aI aJ aK aL aM aN)), VB ((aq == aO) && ((ar == aP) && ((au == aQ) && ((av == aR) && ((aw == aS) && ((ax == aT) && ((ay == aU) && ((az == aV) && ((ap == aW) && ((an == aA) && ((ab == aB) && ((ac == aC) && ((ad == aD) && ((ae == aE) && ((af == aF) && ((ag == aG) && ((ah == aH) && ((ao == aI) && ((aj == aJ) && ((ai == aK) && ((ak == aL) && ((al == aM) && (am == aN))))))))))))))))))))))), VB ((aq == aO) && ((ar == aP) && ((au == aQ) && ((av == aR) && ((aw == aS) && ((ax == aT) && ((ay == aU) && ((az == aV) && ((ap == aW) && ((an == aA) && ((ab == aB) && ((ac == aC) && ((ad == aD) && ((ae == aE) && ((af == aF) && ((ag == aG) && ((ah == aH) && ((ao == aI) && ((aj == aJ) && ((ai == aK) && ((ak == aL) && ((al == aM) && (am == aN))))))))))))))))))))))), VB ((aq == aO) && ((ar == aP) && ((au == aQ) && ((av == aR) && ((aw == aS) && ((ax == aT) && ((ay == aU) && ((az == aV) && ((ap == aW) && ((an == aA) && ((ab == aB) && ((ac == aC) && ((ad == aD) && ((ae == aE) && ((af == aF) && ((ag == aG) && ((ah == aH) && ((ao == aI) && ((aj == aJ) && ((ai == aK) && ((ak == aL) && ((al == aM) && (am == aN))))))))))))))))))))))), VP g4 8, VI ap, VB t8, VB t8, VB t8, VP g4 9, IsV (.agg #[.int .u64 an, .int .i64 ab]), VB t9, VB t9, VB t9, VP g4 11, VI ac, VB aY, VB aY, VB aY, VU, VU, VU, VB false, VB false, VU, VU, VU, VB false, VB false, VU, VU, VU, VB false, VB false, VU, VU, VU, VB false, VB false, VU, VU, VU, VB false, VB false, VU, VU, VU, VB false, VB false, VU, VU, VU, VB false, VB false, VU, VU, VU, VB false, VB false]) (by kernel_rfl) (by kernel_rfl) ?_ ?_ rfl hS ⟨be, (bR w3)⟩ ?_ ?_
  ·exact bs2
  ·exact .v (.v (.v (.v (.v (.v (.v (.v (.v (.v (.v (.v (.v (.v (.v (.v (.v (.v (.v (.v (.v (.v (.v (.v (.v (.v (.v (.v (.v (.v (.v (.v (.v (.v (.v (.v (.v (.v (.v (.v (.v (.v (.v (.v (.v (.v (.v (.v (.v (.v (.v (.v (.v (.v (.v (.v (.v (.v (.v (.v (.v (.v (.v (.v (.nil))))))))))))))))))))))))))))))))))))))))))))))))))))))))))))))))
  ·refine .on rfl (fun a w hS hI hp => does_loadrow rfl (hS.get 0 rfl) (((hI.2).block g4 (blk_lt aa)).trans aa) Try.underlying28 rfl (by kernel_rfl) rfl) ?_
   refine .on rfl (fun a w hS hI hp => does_call (by kernel_rfl) (ar1 (hp.V 0 rfl rfl)) ((header_Check.calls (w := _) (h := bl)).mono fun _ _ h => ⟨_, h.1, h.2, rfl⟩)) ?_
   refine .mv 1 rfl rfl rfl ?_
   iterate 2 refine .oy 2 5 rfl rfl c1 (fun a w hS hI hp => does_loadrow rfl (hS.get 0 rfl) (((hI.2).block g4 (blk_lt aa)).trans aa) Try.underlying28 rfl (by kernel_rfl) rfl) ?_
   refine .oy 2 5 rfl rfl c1 (fun a w hS hI hp => does_call (by kernel_rfl) (ar1 (hp.V 4 rfl rfl)) ((body_own.calls (w := _) (h := bo)).mono fun _ _ h => ⟨_, h.1, h.2, rfl⟩)) ?_
   refine .oy 2 5 rfl rfl c1 (fun a w hS hI hp => does_val (x_bin rfl (hp.V 3 rfl rfl) (hp.V 5 rfl rfl) (body_Check.eql28 _ _ _ aq ar au av aw ax ay az ap an ab ac ad ae af ag ah ao aj ai ak al am aO aP aQ aR aS aT aU aV aW aA aB aC aD aE aF aG aH aI aJ aK aL aM aN)) rfl) ?_
   refine .pt 2 6 rfl rfl rfl c1 rfl ?_
   refine .mv 7 rfl rfl rfl ?_
   refine .oy 8 11 rfl rfl c2 (fun a w hS hI hp => does_val (x_fieldE (b := 0) rfl (hS.get 0 rfl) Try.underlying28 rfl rfl (by kernel_rfl)) rfl) ?_
   refine .oy 8 11 rfl rfl c2 (fun a w hS hI hp => does_val (x_load1 (d := .int .i64) rfl (hp.V 9 rfl rfl) (by kernel_rfl) rfl ((blk_cell (((hI.2).block g4 (blk_lt aa)).trans aa) 8).trans rfl)) rfl) ?_
   refine .oy 8 11 rfl rfl c2 (fun a w hS hI hp => does_call (by kernel_rfl) (ar1 (hp.V 10 rfl rfl)) ((stamp_May.calls ap t8 _  br).mono fun _ _ h => ⟨_, h.1, h.2.below, rfl⟩)) ?_
   refine .pt 8 11 rfl rfl rfl c2 rfl ?_
   refine .mv 12 rfl rfl rfl ?_
   refine .oy 13 16 rfl rfl c3 (fun a w hS hI hp => does_val (x_fieldE (b := 0) rfl (hS.get 0 rfl) Try.underlying28 rfl rfl (by kernel_rfl)) rfl) ?_
   refine .oy 13 16 rfl rfl c3 (fun a w hS hI hp => does_loadmid (cs := [.int .u64 an, .int .i64 ab]) rfl (hp.V 14 rfl rfl) (((hI.2).block g4 (blk_lt aa)).trans aa) (by kernel_rfl) Try.underlying24 rfl (by kernel_rfl) rfl) ?_
   refine .oy 13 16 rfl rfl c3 (fun a w hS hI hp => does_call (by kernel_rfl) (ar1 (hp.V 15 rfl rfl)) ((ident_May.calls an ab t9 _  bs).mono fun _ _ h => ⟨_, h.1, h.2, rfl⟩)) ?_
   refine .pt 13 16 rfl rfl rfl c3 rfl ?_
   refine .mv 17 rfl rfl rfl ?_
   refine .oy 18 21 rfl rfl c4 (fun a w hS hI hp => does_val (x_fieldE (b := 0) rfl (hS.get 0 rfl) Try.underlying28 rfl rfl (by kernel_rfl)) rfl) ?_
   refine .oy 18 21 rfl rfl c4 (fun a w hS hI hp => does_val (x_load1 (d := .int .i64) rfl (hp.V 19 rfl rfl) (by kernel_rfl) rfl ((blk_cell (((hI.2).block g4 (blk_lt aa)).trans aa) 11).trans rfl)) rfl) ?_
   refine .oy 18 21 rfl rfl c4 (fun a w hS hI hp => does_call (by kernel_rfl) (ar3 (hp.V 20 rfl rfl) (rfl) (rfl)) ((body_in.calls ac (-32768) 32767 aY _  bn).mono fun _ _ h => ⟨_, h.1, h.2.below, rfl⟩)) ?_
   refine .pt 18 21 rfl rfl rfl c4 rfl ?_
   refine .mv 22 rfl rfl rfl ?_
   iterate 3 refine .sn 23 26 rfl rfl ((Bool.eq_false_iff.2 c5)) ?_
   refine .pf 23 rfl rfl rfl ((Bool.eq_false_iff.2 c5)) (fun _ => rfl) ?_
   refine .mv 27 rfl rfl rfl ?_
   iterate 3 refine .sn 28 31 rfl rfl rfl ?_
   refine .pf 28 rfl rfl rfl rfl (fun _ => rfl) ?_
   refine .mv 32 rfl rfl rfl ?_
   iterate 3 refine .sn 33 36 rfl rfl rfl ?_
   refine .pf 33 rfl rfl rfl rfl (fun _ => rfl) ?_
   refine .mv 37 rfl rfl rfl ?_
   iterate 3 refine .sn 38 41 rfl rfl rfl ?_
   refine .pf 38 rfl rfl rfl rfl (fun _ => rfl) ?_
   refine .mv 42 rfl rfl rfl ?_
   iterate 3 refine .sn 43 46 rfl rfl rfl ?_
   refine .pf 43 rfl rfl rfl rfl (fun _ => rfl) ?_
   refine .mv 47 rfl rfl rfl ?_
   iterate 3 refine .sn 48 51 rfl rfl rfl ?_
   refine .pf 48 rfl rfl rfl rfl (fun _ => rfl) ?_
   refine .mv 52 rfl rfl rfl ?_
   iterate 3 refine .sn 53 56 rfl rfl rfl ?_
   refine .pf 53 rfl rfl rfl rfl (fun _ => rfl) ?_
   refine .mv 57 rfl rfl rfl ?_
   iterate 3 refine .sn 58 61 rfl rfl rfl ?_
   refine .pf 58 rfl rfl rfl rfl (fun _ => rfl) ?_
   refine .asg 62 rfl rfl rfl ?_
   exact .nil
  clear hS
  intro bU ci hS bH hp
  replace hS := hS.nil
  have aX : sl _ 2 = .bool false := hp 63 (by decide)
  have hS := hS.cons aX
  clear hp aX
  refine bd _ _ ?_
  refine wp_ret ?_
  (try simp only [Exit.then, Exit.inBlock, Exit.jump, Exit.noGoto])
  exact bodyPost_ret (v := .bool false) (results_single rfl (Vals.at (hS.get 0 rfl) .nil)) hS.nodef ⟨rfl, bH.1⟩
 rw [if_pos c5] at H
 obtain ⟨aZ, bq, H⟩ := Option.bind_eq_some_iff.mp H
 by_cases c6 : aZ = true
 rotate_left
 ·rw [if_neg c6] at H
  obtain rfl := Option.some.inj H
  refine calls_of_wp (fn := Try.f34) (by kernel_rfl) rfl ?_
  have hS := St.enter #[(body_Check.v0 aq ar au av aw ax ay az ap an ab ac ad ae af ag ah ao aj ai ak al am)] 66 (by simp) [(0, (body_Check.v0 aq ar au av aw ax ay az ap an ab ac ad ae af ag ah ao aj ai ak al am))] (by simp)
  have bh := Below.refl w.heap.size w
  refine wp_seq_k (fun K1 bg => ?_)
  refine reg_seq (I := I1_ w) (ps := [IsB (body_Check.c1 aq ar au av aw ax ay az ap an ab ac ad ae af ag ah ao aj ai ak al am) 28 w.heap.size, VB false]) (by kernel_rfl) ?_ ?_ rfl hS bh ?_ ?_
  ·exact bs1
  ·exact .cons (Stays.b _ _ _) (.v (.nil))
  ·refine .on rfl (fun a w hS hI hp => does_var (x_box rfl (congrArg Value.cells (hS.get 0 rfl))) (hI).size) ?_
   refine .on rfl (fun a w hS hI hp => does_val (x_assign rfl (rfl)) rfl) ?_
   exact .nil
  clear hS
  intro bu w3 hS be hp
  replace hS := hS.nil
  obtain ⟨g4, ba, bk, aa⟩ := (show IsB _ 28 _ (sl _ 1) _ from hp 0 (by decide))
  have hS := hS.cons ba
  clear hp ba
  refine bg _ _ ?_
  refine wp_seq_k (fun K5 bd => ?_)
  refine reg_any (I := I2_ w w3) (ps := [IsV ((body_Check.v0 aq ar au av aw ax ay az ap an ab ac ad ae af ag ah ao aj ai ak al am)), VB t6, VB t6, IsV ((body_Check.v0 aq ar au av aw ax ay az ap an ab ac ad ae af ag ah ao aj ai ak al am)), IsV ((body_Check.v0 aq ar au av aw ax ay az ap an ab ac ad ae af ag ah ao aj ai ak al am)), IsV ((body_Check.v0 aO aP aQ aR aS aT aU aV aW aA aB aC aD aE aF aG aH aI aJ aK aL aM aN)), VB ((aq == aO) && ((ar == aP) && ((au == aQ) && ((av == aR) && ((aw == aS) && ((ax == aT) && ((ay == aU) && ((az == aV) && ((ap == aW) && ((an == aA) && ((ab == aB) && ((ac == aC) && ((ad == aD) && ((ae == aE) && ((af == aF) && ((ag == aG) && ((ah == aH) && ((ao == aI) && ((aj == aJ) && ((ai == aK) && ((ak == aL) && ((al == aM) && (am == aN))))))))))))))))))))))), VB ((aq == aO) && ((ar == aP) && ((au == aQ) && ((av == aR) && ((aw == aS) && ((ax == aT) && ((ay == aU) && ((az == aV) && ((ap == aW) && ((an == aA) && ((ab == aB) && ((ac == aC) && ((ad == aD) && ((ae == aE) && ((af == aF) && ((ag == aG) && ((ah == aH) && ((ao == aI) && ((aj == aJ) && ((ai == aK) && ((ak == aL) && ((al == aM) && (am == aN))))))))))))))))))))))), VB ((aq == aO) && ((ar == aP) && ((au == aQ) && ((av == aR) && ((aw == aS) && ((ax == aT) && ((ay == aU) && ((az == aV) && ((ap == aW) && ((an == aA) && ((ab == aB) && ((ac == aC) && ((ad == aD) && ((ae == aE) && ((af == aF) && ((ag == aG) && ((ah == aH) && ((ao == aI) && ((aj == aJ) && ((ai == aK) && ((ak == aL) && ((al == aM) && (am == aN))))))))))))))))))))))), VP g4 8, VI ap, VB t8, VB t8, VB t8, VP g4 9, IsV (.agg #[.int .u64 an, .int .i64 ab]), VB t9, VB t9, VB t9, VP g4 11, VI ac, VB aY, VB aY, VB aY, VP g4 12, VI ad, VB aZ, VB aZ, VB aZ, VU, VU, VU, VB false, VB false, VU, VU, VU, VB false, VB false, VU, VU, VU, VB false, VB false, VU, VU, VU, VB false, VB false, VU, VU, VU, VB false, VB false, VU, VU, VU, VB false, VB false, VU, VU, VU, VB false, VB false]) (by kernel_rfl) (by kernel_rfl) ?_ ?_ rfl hS ⟨be, (bR w3)⟩ ?_ ?_
  ·exact bs2
  ·exact .v (.v (.v (.v (.v (.v (.v (.v (.v (.v (.v (.v (.v (.v (.v (.v (.v (.v (.v (.v (.v (.v (.v (.v (.v (.v (.v (.v (.v (.v (.v (.v (.v (.v (.v (.v (.v (.v (.v (.v (.v (.v (.v (.v (.v (.v (.v (.v (.v (.v (.v (.v (.v (.v (.v (.v (.v (.v (.v (.v (.v (.v (.v (.v (.nil))))))))))))))))))))))))))))))))))))))))))))))))))))))))))))))))
  ·refine .on rfl (fun a w hS hI hp => does_loadrow rfl (hS.get 0 rfl) (((hI.2).block g4 (blk_lt aa)).trans aa) Try.underlying28 rfl (by kernel_rfl) rfl) ?_
   refine .on rfl (fun a w hS hI hp => does_call (by kernel_rfl) (ar1 (hp.V 0 rfl rfl)) ((header_Check.calls (w := _) (h := bl)).mono fun _ _ h => ⟨_, h.1, h.2, rfl⟩)) ?_
   refine .mv 1 rfl rfl rfl ?_
   iterate 2 refine .oy 2 5 rfl rfl c1 (fun a w hS hI hp => does_loadrow rfl (hS.get 0 rfl) (((hI.2).block g4 (blk_lt aa)).trans aa) Try.underlying28 rfl (by kernel_rfl) rfl) ?_
   refine .oy 2 5 rfl rfl c1 (fun a w hS hI hp => does_call (by kernel_rfl) (ar1 (hp.V 4 rfl rfl)) ((body_own.calls (w := _) (h := bo)).mono fun _ _ h => ⟨_, h.1, h.2, rfl⟩)) ?_
   refine .oy 2 5 rfl rfl c1 (fun a w hS hI hp => does_val (x_bin rfl (hp.V 3 rfl rfl) (hp.V 5 rfl rfl) (body_Check.eql28 _ _ _ aq ar au av aw ax ay az ap an ab ac ad ae af ag ah ao aj ai ak al am aO aP aQ aR aS aT aU aV aW aA aB aC aD aE aF aG aH aI aJ aK aL aM aN)) rfl) ?_
   refine .pt 2 6 rfl rfl rfl c1 rfl ?_
   refine .mv 7 rfl rfl rfl ?_
   refine .oy 8 11 rfl rfl c2 (fun a w hS hI hp => does_val (x_fieldE (b := 0) rfl (hS.get 0 rfl) Try.underlying28 rfl rfl (by kernel_rfl)) rfl) ?_
   refine .oy 8 11 rfl rfl c2 (fun a w hS hI hp => does_val (x_load1 (d := .int .i64) rfl (hp.V 9 rfl rfl) (by kernel_rfl) rfl ((blk_cell (((hI.2).block g4 (blk_lt aa)).trans aa) 8).trans rfl)) rfl) ?_
   refine .oy 8 11 rfl rfl c2 (fun a w hS hI hp => does_call (by kernel_rfl) (ar1 (hp.V 10 rfl rfl)) ((stamp_May.calls ap t8 _  br).mono fun _ _ h => ⟨_, h.1, h.2.below, rfl⟩)) ?_
   refine .pt 8 11 rfl rfl rfl c2 rfl ?_
   refine .mv 12 rfl rfl rfl ?_
   refine .oy 13 16 rfl rfl c3 (fun a w hS hI hp => does_val (x_fieldE (b := 0) rfl (hS.get 0 rfl) Try.underlying28 rfl rfl (by kernel_rfl)) rfl) ?_
   refine .oy 13 16 rfl rfl c3 (fun a w hS hI hp => does_loadmid (cs := [.int .u64 an, .int .i64 ab]) rfl (hp.V 14 rfl rfl) (((hI.2).block g4 (blk_lt aa)).trans aa) (by kernel_rfl) Try.underlying24 rfl (by kernel_rfl) rfl) ?_
   refine .oy 13 16 rfl rfl c3 (fun a w hS hI hp => does_call (by kernel_rfl) (ar1 (hp.V 15 rfl rfl)) ((ident_May.calls an ab t9 _  bs).mono fun _ _ h => ⟨_, h.1, h.2, rfl⟩)) ?_
   refine .pt 13 16 rfl rfl rfl c3 rfl ?_
   refine .mv 17 rfl rfl rfl ?_
   refine .oy 18 21 rfl rfl c4 (fun a w hS hI hp => does_val (x_fieldE (b := 0) rfl (hS.get 0 rfl) Try.underlying28 rfl rfl (by kernel_rfl)) rfl) ?_
   refine .oy 18 21 rfl rfl c4 (fun a w hS hI hp => does_val (x_load1 (d := .int .i64) rfl (hp.V 19 rfl rfl) (by kernel_rfl) rfl ((blk_cell (((hI.2).block g4 (blk_lt aa)).trans aa) 11).trans rfl)) rfl) ?_
   refine .oy 18 21 rfl rfl c4 (fun a w hS hI hp => does_call (by kernel_rfl) (ar3 (hp.V 20 rfl rfl) (rfl) (rfl)) ((body_in.calls ac (-32768) 32767 aY _  bn).mono fun _ _ h => ⟨_, h.1, h.2.below, rfl⟩)) ?_
   refine .pt 18 21 rfl rfl rfl c4 rfl ?_
   refine .mv 22 rfl rfl rfl ?_
   refine .oy 23 26 rfl rfl c5 (fun a w hS hI hp => does_val (x_fieldE (b := 0) rfl (hS.get 0 rfl) Try.underlying28 rfl rfl (by kernel_rfl)) rfl) ?_
   refine .oy 23 26 rfl rfl c5 (fun a w hS hI hp => does_val (x_load1 (d := .int .i64) rfl (hp.V 24 rfl rfl) (by kernel_rfl) rfl ((blk_cell (((hI.2).block g4 (blk_lt aa)).trans aa) 12).trans rfl)) rfl) ?_
   refine .oy 23 26 rfl rfl c5 (fun a w hS hI hp => does_call (by kernel_rfl) (ar3 (hp.V 25 rfl rfl) (rfl) (rfl)) ((body_in.calls ad 0 255 aZ _  bq).mono fun _ _ h => ⟨_, h.1, h.2.below, rfl⟩)) ?_
   refine .pt 23 26 rfl rfl rfl c5 rfl ?_
   refine .mv 27 rfl rfl rfl ?_
   iterate 3 refine .sn 28 31 rfl rfl ((Bool.eq_false_iff.2 c6)) ?_
   refine .pf 28 rfl rfl rfl ((Bool.eq_false_iff.2 c6)) (fun _ => rfl) ?_
   refine .mv 32 rfl rfl rfl ?_
   iterate 3 refine .sn 33 36 rfl rfl rfl ?_
   refine .pf 33 rfl rfl rfl rfl (fun _ => rfl) ?_
   refine .mv 37 rfl rfl rfl ?_
   iterate 3 refine .sn 38 41 rfl rfl rfl ?_
   refine .pf 38 rfl rfl rfl rfl (fun _ => rfl) ?_
   refine .mv 42 rfl rfl rfl ?_
   iterate 3 refine .sn 43 46 rfl rfl rfl ?_
   refine .pf 43 rfl rfl rfl rfl (fun _ => rfl) ?_
   refine .mv 47 rfl rfl rfl ?_
   iterate 3 refine .sn 48 51 rfl rfl rfl ?_
   refine .pf 48 rfl rfl rfl rfl (fun _ => rfl) ?_
   refine .mv 52 rfl rfl rfl ?_
   iterate 3 refine .sn 53 56 rfl rfl rfl ?_
   refine .pf 53 rfl rfl rfl rfl (fun _ => rfl) ?_
   refine .mv 57 rfl rfl rfl ?_
   iterate 3 refine .sn 58 61 rfl rfl rfl ?_
   refine .pf 58 rfl rfl rfl rfl (fun _ => rfl) ?_
   refine .asg 62 rfl rfl rfl ?_
   exact .nil
  clear hS
  intro bV cj hS bI hp
  replace hS := hS.nil
  have aX : sl _ 2 = .bool false := hp 63 (by decide)
  have hS := hS.cons aX
  clear hp aX
  refine bd _ _ ?_
  refine wp_ret ?_
  (try simp only [Exit.then, Exit.inBlock, Exit.jump, Exit.noGoto])
  exact bodyPost_ret (v := .bool false) (results_single rfl (Vals.at (hS.get 0 rfl) .nil)) hS.nodef ⟨rfl, bI.1⟩
 rw [if_pos c6] at H
 obtain ⟨bb, bt, H⟩ := Option.bind_eq_some_iff.mp H
 by_cases c7 : bb = true
 rotate_left
 ·rw [if_neg c7] at H
  obtain rfl := Option.some.inj H
  refine calls_of_wp (fn := Try.f34) (by kernel_rfl) rfl ?_
  have hS := St.enter #[(body_Check.v0 aq ar au av aw ax ay az ap an ab ac ad ae af ag ah ao aj ai ak al am)] 66 (by simp) [(0, (body_Check.v0 aq ar au av aw ax ay az ap an ab ac ad ae af ag ah ao aj ai ak al am))] (by simp)
  have bh := Below.refl w.heap.size w
  refine wp_seq_k (fun K1 bg => ?_)
  refine reg_seq (I := I1_ w) (ps := [IsB (body_Check.c1 aq ar au av aw ax ay az ap an ab ac ad ae af ag ah ao aj ai ak al am) 28 w.heap.size, VB false]) (by kernel_rfl) ?_ ?_ rfl hS bh ?_ ?_
  ·exact bs1
  ·exact .cons (Stays.b _ _ _) (.v (.nil))
  ·refine .on rfl (fun a w hS hI hp => does_var (x_box rfl (congrArg Value.cells (hS.get 0 rfl))) (hI).size) ?_
   refine .on rfl (fun a w hS hI hp => does_val (x_assign rfl (rfl)) rfl) ?_
   exact .nil
  clear hS
  intro bu w3 hS be hp
  replace hS := hS.nil
  obtain ⟨g4, ba, bk, aa⟩ := (show IsB _ 28 _ (sl _ 1) _ from hp 0 (by decide))
  have hS := hS.cons ba
  clear hp ba
  refine bg _ _ ?_
  refine wp_seq_k (fun K5 bd => ?_)
  refine reg_any (I := I2_ w w3) (ps := [IsV ((body_Check.v0 aq ar au av aw ax ay az ap an ab ac ad ae af ag ah ao aj ai ak al am)), VB t6, VB t6, IsV ((body_Check.v0 aq ar au av aw ax ay az ap an ab ac ad ae af ag ah ao aj ai ak al am)), IsV ((body_Check.v0 aq ar au av aw ax ay az ap an ab ac ad ae af ag ah ao aj ai ak al am)), IsV ((body_Check.v0 aO aP aQ aR aS aT aU aV aW aA aB aC aD aE aF aG aH aI aJ aK aL aM aN)), VB ((aq == aO) && ((ar == aP) && ((au == aQ) && ((av == aR) && ((aw == aS) && ((ax == aT) && ((ay == aU) && ((az == aV) && ((ap == aW) && ((an == aA) && ((ab == aB) && ((ac == aC) && ((ad == aD) && ((ae == aE) && ((af == aF) && ((ag == aG) && ((ah == aH) && ((ao == aI) && ((aj == aJ) && ((ai == aK) && ((ak == aL) && ((al == aM) && (am == aN))))))))))))))))))))))), VB ((aq == aO) && ((ar == aP) && ((au == aQ) && ((av == aR) && ((aw == aS) && ((ax == aT) && ((ay == aU) && ((az == aV) && ((ap == aW) && ((an == aA) && ((ab == aB) && ((ac == aC) && ((ad == aD) && ((ae == aE) && ((af == aF) && ((ag == aG) && ((ah == aH) && ((ao == aI) && ((aj == aJ) && ((ai == aK) && ((ak == aL) && ((al == aM) && (am == aN))))))))))))))))))))))), VB ((aq == aO) && ((ar == aP) && ((au == aQ) && ((av == aR) && ((aw == aS) && ((ax == aT) && ((ay == aU) && ((az == aV) && ((ap == aW) && ((an == aA) && ((ab == aB) && ((ac == aC) && ((ad == aD) && ((ae == aE) && ((af == aF) && ((ag == aG) && ((ah == aH) && ((ao == aI) && ((aj == aJ) && ((ai == aK) && ((ak == aL) && ((al == aM) && (am == aN))))))))))))))))))))))), VP g4 8, VI ap, VB t8, VB t8, VB t8, VP g4 9, IsV (.agg #[.int .u64 an, .int .i64 ab]), VB t9, VB t9, VB t9, VP g4 11, VI ac, VB aY, VB aY, VB aY, VP g4 12, VI ad, VB aZ, VB aZ, VB aZ, VP g4 16, VI ah, VB bb, VB bb, VB bb, VU, VU, VU, VB false, VB false, VU, VU, VU, VB false, VB false, VU, VU, VU, VB false, VB false, VU, VU, VU, VB false, VB false, VU, VU, VU, VB false, VB false, VU, VU, VU, VB false, VB false]) (by kernel_rfl) (by kernel_rfl) ?_ ?_ rfl hS ⟨be, (bR w3)⟩ ?_ ?_
  ·exact bs2
  ·exact .v (.v (.v (.v (.v (.v (.v (.v (.v (.v (.v (.v (.v (.v (.v (.v (.v (.v (.v (.v (.v (.v (.v (.v (.v (.v (.v (.v (.v (.v (.v (.v (.v (.v (.v (.v (.v (.v (.v (.v (.v (.v (.v (.v (.v (.v (.v (.v (.v (.v (.v (.v (.v (.v (.v (.v (.v (.v (.v (.v (.v (.v (.v (.v (.nil))))))))))))))))))))))))))))))))))))))))))))))))))))))))))))))))
  ·refine .on rfl (fun a w hS hI hp => does_loadrow rfl (hS.get 0 rfl) (((hI.2).block g4 (blk_lt aa)).trans aa) Try.underlying28 rfl (by kernel_rfl) rfl) ?_
   refine .on rfl (fun a w hS hI hp => does_call (by kernel_rfl) (ar1 (hp.V 0 rfl rfl)) ((header_Check.calls (w := _) (h := bl)).mono fun _ _ h => ⟨_, h.1, h.2, rfl⟩)) ?_
   refine .mv 1 rfl rfl rfl ?_
   iterate 2 refine .oy 2 5 rfl rfl c1 (fun a w hS hI hp => does_loadrow rfl (hS.get 0 rfl) (((hI.2).block g4 (blk_lt aa)).trans aa) Try.underlying28 rfl (by kernel_rfl) rfl) ?_
   refine .oy 2 5 rfl rfl c1 (fun a w hS hI hp => does_call (by kernel_rfl) (ar1 (hp.V 4 rfl rfl)) ((body_own.calls (w := _) (h := bo)).mono fun _ _ h => ⟨_, h.1, h.2, rfl⟩)) ?_
   refine .oy 2 5 rfl rfl c1 (fun a w hS hI hp => does_val (x_bin rfl (hp.V 3 rfl rfl) (hp.V 5 rfl rfl) (body_Check.eql28 _ _ _ aq ar au av aw ax ay az ap an ab ac ad ae af ag ah ao aj ai ak al am aO aP aQ aR aS aT aU aV aW aA aB aC aD aE aF aG aH aI aJ aK aL aM aN)) rfl) ?_
   refine .pt 2 6 rfl rfl rfl c1 rfl ?_
   refine .mv 7 rfl rfl rfl ?_
   refine .oy 8 11 rfl rfl c2 (fun a w hS hI hp => does_val (x_fieldE (b := 0) rfl (hS.get 0 rfl) Try.underlying28 rfl rfl (by kernel_rfl)) rfl) ?_
   refine .oy 8 11 rfl rfl c2 (fun a w hS hI hp => does_val (x_load1 (d := .int .i64) rfl (hp.V 9 rfl rfl) (by kernel_rfl) rfl ((blk_cell (((hI.2).block g4 (blk_lt aa)).trans aa) 8).trans rfl)) rfl) ?_
   refine .oy 8 11 rfl rfl c2 (fun a w hS hI hp => does_call (by kernel_rfl) (ar1 (hp.V 10 rfl rfl)) ((stamp_May.calls ap t8 _  br).mono fun _ _ h => ⟨_, h.1, h.2.below, rfl⟩)) ?_
   refine .pt 8 11 rfl rfl rfl c2 rfl ?_
   refine .mv 12 rfl rfl rfl ?_
   refine .oy 13 16 rfl rfl c3 (fun a w hS hI hp => does_val (x_fieldE (b := 0) rfl (hS.get 0 rfl) Try.underlying28 rfl rfl (by kernel_rfl)) rfl) ?_
   refine .oy 13 16 rfl rfl c3 (fun a w hS hI hp => does_loadmid (cs := [.int .u64 an, .int .i64 ab]) rfl (hp.V 14 rfl rfl) (((hI.2).block g4 (blk_lt aa)).trans aa) (by kernel_rfl) Try.underlying24 rfl (by kernel_rfl) rfl) ?_
   refine .oy 13 16 rfl rfl c3 (fun a w hS hI hp => does_call (by kernel_rfl) (ar1 (hp.V 15 rfl rfl)) ((ident_May.calls an ab t9 _  bs).mono fun _ _ h => ⟨_, h.1, h.2, rfl⟩)) ?_
   refine .pt 13 16 rfl rfl rfl c3 rfl ?_
   refine .mv 17 rfl rfl rfl ?_
   refine .oy 18 21 rfl rfl c4 (fun a w hS hI hp => does_val (x_fieldE (b := 0) rfl (hS.get 0 rfl) Try.underlying28 rfl rfl (by kernel_rfl)) rfl) ?_
   refine .oy 18 21 rfl rfl c4 (fun a w hS hI hp => does_val (x_load1 (d := .int .i64) rfl (hp.V 19 rfl rfl) (by kernel_rfl) rfl ((blk_cell (((hI.2).block g4 (blk_lt aa)).trans aa) 11).trans rfl)) rfl) ?_
   refine .oy 18 21 rfl rfl c4 (fun a w hS hI hp => does_call (by kernel_rfl) (ar3 (hp.V 20 rfl rfl) (rfl) (rfl)) ((body_in.calls ac (-32768) 32767 aY _  bn).mono fun _ _ h => ⟨_, h.1, h.2.below, rfl⟩)) ?_
   refine .pt 18 21 rfl rfl rfl c4 rfl ?_
   refine .mv 22 rfl rfl rfl ?_
   refine .oy 23 26 rfl rfl c5 (fun a w hS hI hp => does_val (x_fieldE (b := 0) rfl (hS.get 0 rfl) Try.underlying28 rfl rfl (by kernel_rfl)) rfl) ?_
   refine .oy 23 26 rfl rfl c5 (fun a w hS hI hp => does_val (x_load1 (d := .int .i64) rfl (hp.V 24 rfl rfl) (by kernel_rfl) rfl ((blk_cell (((hI.2).block g4 (blk_lt aa)).trans aa) 12).trans rfl)) rfl) ?_
   refine .oy 23 26 rfl rfl c5 (fun a w hS hI hp => does_call (by kernel_rfl) (ar3 (hp.V 25 rfl rfl) (rfl) (rfl)) ((body_in.calls ad 0 255 aZ _  bq).mono fun _ _ h => ⟨_, h.1, h.2.below, rfl⟩)) ?_
   refine .pt 23 26 rfl rfl rfl c5 rfl ?_
   refine .mv 27 rfl rfl rfl ?_
   refine .oy 28 31 rfl rfl c6 (fun a w hS hI hp => does_val (x_fieldE (b := 0) rfl (hS.get 0 rfl) Try.underlying28 rfl rfl (by kernel_rfl)) rfl) ?_
   refine .oy 28 31 rfl rfl c6 (fun a w hS hI hp => does_val (x_load1 (d := .int .i64) rfl (hp.V 29 rfl rfl) (by kernel_rfl) rfl ((blk_cell (((hI.2).block g4 (blk_lt aa)).trans aa) 16).trans rfl)) rfl) ?_
   refine .oy 28 31 rfl rfl c6 (fun a w hS hI hp => does_call (by kernel_rfl) (ar3 (hp.V 30 rfl rfl) (rfl) (rfl)) ((body_in.calls ah 0 255 bb _  bt).mono fun _ _ h => ⟨_, h.1, h.2.below, rfl⟩)) ?_
   refine .pt 28 31 rfl rfl rfl c6 rfl ?_
   refine .mv 32 rfl rfl rfl ?_
   iterate 3 refine .sn 33 36 rfl rfl ((Bool.eq_false_iff.2 c7)) ?_
   refine .pf 33 rfl rfl rfl ((Bool.eq_false_iff.2 c7)) (fun _ => rfl) ?_
   refine .mv 37 rfl rfl rfl ?_
   iterate 3 refine .sn 38 41 rfl rfl rfl ?_
   refine .pf 38 rfl rfl rfl rfl (fun _ => rfl) ?_
   refine .mv 42 rfl rfl rfl ?_
   iterate 3 refine .sn 43 46 rfl rfl rfl ?_
   refine .pf 43 rfl rfl rfl rfl (fun _ => rfl) ?_
   refine .mv 47 rfl rfl rfl ?_
   iterate 3 refine .sn 48 51 rfl rfl rfl ?_
   refine .pf 48 rfl rfl rfl rfl (fun _ => rfl) ?_
   refine .mv 52 rfl rfl rfl ?_
   iterate 3 refine .sn 53 56 rfl rfl rfl ?_
   refine .pf 53 rfl rfl rfl rfl (fun _ => rfl) ?_
   refine .mv 57 rfl rfl rfl ?_
   iterate 3 refine .sn 58 61 rfl rfl rfl ?_
   refine .pf 58 rfl rfl rfl rfl (fun _ => rfl) ?_
   refine .asg 62 rfl rfl rfl ?_
   exact .nil
  clear hS
  intro bW ck hS bJ hp
  replace hS := hS.nil
  have aX : sl _ 2 = .bool false := hp 63 (by decide)
  have hS := hS.cons aX
  clear hp aX
  refine bd _ _ ?_
  refine wp_ret ?_
  (try simp only [Exit.then, Exit.inBlock, Exit.jump, Exit.noGoto])
  exact bodyPost_ret (v := .bool false) (results_single rfl (Vals.at (hS.get 0 rfl) .nil)) hS.nodef ⟨rfl, bJ.1⟩
 rw [if_pos c7] at H
 obtain ⟨bc, bw, H⟩ := Option.bind_eq_some_iff.mp H
 refine calls_of_wp (fn := Try.f34) (by kernel_rfl) rfl ?_
 have hS := St.enter #[(body_Check.v0 aq ar au av aw ax ay az ap an ab ac ad ae af ag ah ao aj ai ak al am)] 66 (by simp) [(0, (body_Check.v0 aq ar au av aw ax ay az ap an ab ac ad ae af ag ah ao aj ai ak al am))] (by simp)
 have bh := Below.refl w.heap.size w
 by_cases c8 : bc = true
 rotate_left
 ·rw [if_neg c8] at H
  obtain rfl := Option.some.inj H
  refine wp_seq_k (fun K1 bg => ?_)
  refine reg_seq (I := I1_ w) (ps := [IsB (body_Check.c1 aq ar au av aw ax ay az ap an ab ac ad ae af ag ah ao aj ai ak al am) 28 w.heap.size, VB false]) (by kernel_rfl) ?_ ?_ rfl hS bh ?_ ?_
  ·exact bs1
  ·exact .cons (Stays.b _ _ _) (.v (.nil))
  ·refine .on rfl (fun a w hS hI hp => does_var (x_box rfl (congrArg Value.cells (hS.get 0 rfl))) (hI).size) ?_
   refine .on rfl (fun a w hS hI hp => does_val (x_assign rfl (rfl)) rfl) ?_
   exact .nil
  clear hS
  intro bu w3 hS be hp
  replace hS := hS.nil
  obtain ⟨g4, ba, bk, aa⟩ := (show IsB _ 28 _ (sl _ 1) _ from hp 0 (by decide))
  have hS := hS.cons ba
  clear hp ba
  refine bg _ _ ?_
  refine wp_seq_k (fun K5 bd => ?_)
  refine reg_any (I := I2_ w w3) (ps := [IsV ((body_Check.v0 aq ar au av aw ax ay az ap an ab ac ad ae af ag ah ao aj ai ak al am)), VB t6, VB t6, IsV ((body_Check.v0 aq ar au av aw ax ay az ap an ab ac ad ae af ag ah ao aj ai ak al am)), IsV ((body_Check.v0 aq ar au av aw ax ay az ap an ab ac ad ae af ag ah ao aj ai ak al am)), IsV ((body_Check.v0 aO aP aQ aR aS aT aU aV aW aA aB aC aD aE aF aG aH aI aJ aK aL aM aN)), VB ((aq == aO) && ((ar == aP) && ((au == aQ) && ((av == aR) && ((aw == aS) && ((ax == aT) && ((ay == aU) && ((az == aV) && ((ap == aW) && ((an == aA) && ((ab == aB) && ((ac == aC) && ((ad == aD) && ((ae == aE) && ((af == aF) && ((ag == aG) && ((ah == aH) && ((ao == aI) && ((aj == aJ) && ((ai == aK) && ((ak == aL) && ((al == aM) && (am == aN))))))))))))))))))))))), VB ((aq == aO) && ((ar == aP) && ((au == aQ) && ((av == aR) && ((aw == aS) && ((ax == aT) && ((ay == aU) && ((az == aV) && ((ap == aW) && ((an == aA) && ((ab == aB) && ((ac == aC) && ((ad == aD) && ((ae == aE) && ((af == aF) && ((ag == aG) && ((ah == aH) && ((ao == aI) && ((aj == aJ) && ((ai == aK) && ((ak == aL) && ((al == aM) && (am == aN))))))))))))))))))))))), VB ((aq == aO) && ((ar == aP) && ((au == aQ) && ((av == aR) && ((aw == aS) && ((ax == aT) && ((ay == aU) && ((az == aV) && ((ap == aW) && ((an == aA) && ((ab == aB) && ((ac == aC) && ((ad == aD) && ((ae == aE) && ((af == aF) && ((ag == aG) && ((ah == aH) && ((ao == aI) && ((aj == aJ) && ((ai == aK) && ((ak == aL) && ((al == aM) && (am == aN))))))))))))))))))))))), VP g4 8, VI ap, VB t8, VB t8, VB t8, VP g4 9, IsV (.agg #[.int .u64 an, .int .i64 ab]), VB t9, VB t9, VB t9, VP g4 11, VI ac, VB aY, VB aY, VB aY, VP g4 12, VI ad, VB aZ, VB aZ, VB aZ, VP g4 16, VI ah, VB bb, VB bb, VB bb, VP g4 19, VI ai, VB bc, VB bc, VB bc, VU, VU, VU, VB false, VB false, VU, VU, VU, VB false, VB false, VU, VU, VU, VB false, VB false, VU, VU, VU, VB false, VB false, VU, VU, VU, VB false, VB false]) (by kernel_rfl) (by kernel_rfl) ?_ ?_ rfl hS ⟨be, (bR w3)⟩ ?_ ?_
  ·exact bs2
  ·exact .v (.v (.v (.v (.v (.v (.v (.v (.v (.v (.v (.v (.v (.v (.v (.v (.v (.v (.v (.v (.v (.v (.v (.v (.v (.v (.v (.v (.v (.v (.v (.v (.v (.v (.v (.v (.v (.v (.v (.v (.v (.v (.v (.v (.v (.v (.v (.v (.v (.v (.v (.v (.v (.v (.v (.v (.v (.v (.v (.v (.v (.v (.v (.v (.nil))))))))))))))))))))))))))))))))))))))))))))))))))))))))))))))))
  ·refine .on rfl (fun a w hS hI hp => does_loadrow rfl (hS.get 0 rfl) (((hI.2).block g4 (blk_lt aa)).trans aa) Try.underlying28 rfl (by kernel_rfl) rfl) ?_
   refine .on rfl (fun a w hS hI hp => does_call (by kernel_rfl) (ar1 (hp.V 0 rfl rfl)) ((header_Check.calls (w := _) (h := bl)).mono fun _ _ h => ⟨_, h.1, h.2, rfl⟩)) ?_
   refine .mv 1 rfl rfl rfl ?_
   iterate 2 refine .oy 2 5 rfl rfl c1 (fun a w hS hI hp => does_loadrow rfl (hS.get 0 rfl) (((hI.2).block g4 (blk_lt aa)).trans aa) Try.underlying28 rfl (by kernel_rfl) rfl) ?_
   refine .oy 2 5 rfl rfl c1 (fun a w hS hI hp => does_call (by kernel_rfl) (ar1 (hp.V 4 rfl rfl)) ((body_own.calls (w := _) (h := bo)).mono fun _ _ h => ⟨_, h.1, h.2, rfl⟩)) ?_
   refine .oy 2 5 rfl rfl c1 (fun a w hS hI hp => does_val (x_bin rfl (hp.V 3 rfl rfl) (hp.V 5 rfl rfl) (body_Check.eql28 _ _ _ aq ar au av aw ax ay az ap an ab ac ad ae af ag ah ao aj ai ak al am aO aP aQ aR aS aT aU aV aW aA aB aC aD aE aF aG aH aI aJ aK aL aM aN)) rfl) ?_
   refine .pt 2 6 rfl rfl rfl c1 rfl ?_
   refine .mv 7 rfl rfl rfl ?_
   refine .oy 8 11 rfl rfl c2 (fun a w hS hI hp => does_val (x_fieldE (b := 0) rfl (hS.get 0 rfl) Try.underlying28 rfl rfl (by kernel_rfl)) rfl) ?_
   refine .oy 8 11 rfl rfl c2 (fun a w hS hI hp => does_val (x_load1 (d := .int .i64) rfl (hp.V 9 rfl rfl) (by kernel_rfl) rfl ((blk_cell (((hI.2).block g4 (blk_lt aa)).trans aa) 8).trans rfl)) rfl) ?_
   refine .oy 8 11 rfl rfl c2 (fun a w hS hI hp => does_call (by kernel_rfl) (ar1 (hp.V 10 rfl rfl)) ((stamp_May.calls ap t8 _  br).mono fun _ _ h => ⟨_, h.1, h.2.below, rfl⟩)) ?_
   refine .pt 8 11 rfl rfl rfl c2 rfl ?_
   refine .mv 12 rfl rfl rfl ?_
   refine .oy 13 16 rfl rfl c3 (fun a w hS hI hp => does_val (x_fieldE (b := 0) rfl (hS.get 0 rfl) Try.underlying28 rfl rfl (by kernel_rfl)) rfl) ?_
   refine .oy 13 16 rfl rfl c3 (fun a w hS hI hp => does_loadmid (cs := [.int .u64 an, .int .i64 ab]) rfl (hp.V 14 rfl rfl) (((hI.2).block g4 (blk_lt aa)).trans aa) (by kernel_rfl) Try.underlying24 rfl (by kernel_rfl) rfl) ?_
   refine .oy 13 16 rfl rfl c3 (fun a w hS hI hp => does_call (by kernel_rfl) (ar1 (hp.V 15 rfl rfl)) ((ident_May.calls an ab t9 _  bs).mono fun _ _ h => ⟨_, h.1, h.2, rfl⟩)) ?_
   refine .pt 13 16 rfl rfl rfl c3 rfl ?_
   refine .mv 17 rfl rfl rfl ?_
   refine .oy 18 21 rfl rfl c4 (fun a w hS hI hp => does_val (x_fieldE (b := 0) rfl (hS.get 0 rfl) Try.underlying28 rfl rfl (by kernel_rfl)) rfl) ?_
   refine .oy 18 21 rfl rfl c4 (fun a w hS hI hp => does_val (x_load1 (d := .int .i64) rfl (hp.V 19 rfl rfl) (by kernel_rfl) rfl ((blk_cell (((hI.2).block g4 (blk_lt aa)).trans aa) 11).trans rfl)) rfl) ?_
   refine .oy 18 21 rfl rfl c4 (fun a w hS hI hp => does_call (by kernel_rfl) (ar3 (hp.V 20 rfl rfl) (rfl) (rfl)) ((body_in.calls ac (-32768) 32767 aY _  bn).mono fun _ _ h => ⟨_, h.1, h.2.below, rfl⟩)) ?_
   refine .pt 18 21 rfl rfl rfl c4 rfl ?_
   refine .mv 22 rfl rfl rfl ?_
   refine .oy 23 26 rfl rfl c5 (fun a w hS hI hp => does_val (x_fieldE (b := 0) rfl (hS.get 0 rfl) Try.underlying28 rfl rfl (by kernel_rfl)) rfl) ?_
   refine .oy 23 26 rfl rfl c5 (fun a w hS hI hp => does_val (x_load1 (d := .int .i64) rfl (hp.V 24 rfl rfl) (by kernel_rfl) rfl ((blk_cell (((hI.2).block g4 (blk_lt aa)).trans aa) 12).trans rfl)) rfl) ?_
   refine .oy 23 26 rfl rfl c5 (fun a w hS hI hp => does_call (by kernel_rfl) (ar3 (hp.V 25 rfl rfl) (rfl) (rfl)) ((body_in.calls ad 0 255 aZ _  bq).mono fun _ _ h => ⟨_, h.1, h.2.below, rfl⟩)) ?_
   refine .pt 23 26 rfl rfl rfl c5 rfl ?_
   refine .mv 27 rfl rfl rfl ?_
   refine .oy 28 31 rfl rfl c6 (fun a w hS hI hp => does_val (x_fieldE (b := 0) rfl (hS.get 0 rfl) Try.underlying28 rfl rfl (by kernel_rfl)) rfl) ?_
   refine .oy 28 31 rfl rfl c6 (fun a w hS hI hp => does_val (x_load1 (d := .int .i64) rfl (hp.V 29 rfl rfl) (by kernel_rfl) rfl ((blk_cell (((hI.2).block g4 (blk_lt aa)).trans aa) 16).trans rfl)) rfl) ?_
   refine .oy 28 31 rfl rfl c6 (fun a w hS hI hp => does_call (by kernel_rfl) (ar3 (hp.V 30 rfl rfl) (rfl) (rfl)) ((body_in.calls ah 0 255 bb _  bt).mono fun _ _ h => ⟨_, h.1, h.2.below, rfl⟩)) ?_
   refine .pt 28 31 rfl rfl rfl c6 rfl ?_
   refine .mv 32 rfl rfl rfl ?_
   refine .oy 33 36 rfl rfl c7 (fun a w hS hI hp => does_val (x_fieldE (b := 0) rfl (hS.get 0 rfl) Try.underlying28 rfl rfl (by kernel_rfl)) rfl) ?_
   refine .oy 33 36 rfl rfl c7 (fun a w hS hI hp => does_val (x_load1 (d := .int .i64) rfl (hp.V 34 rfl rfl) (by kernel_rfl) rfl ((blk_cell (((hI.2).block g4 (blk_lt aa)).trans aa) 19).trans rfl)) rfl) ?_
   refine .oy 33 36 rfl rfl c7 (fun a w hS hI hp => does_call (by kernel_rfl) (ar3 (hp.V 35 rfl rfl) (rfl) (rfl)) ((body_in.calls ai 0 255 bc _  bw).mono fun _ _ h => ⟨_, h.1, h.2.below, rfl⟩)) ?_
   refine .pt 33 36 rfl rfl rfl c7 rfl ?_
   refine .mv 37 rfl rfl rfl ?_
   iterate 3 refine .sn 38 41 rfl rfl ((Bool.eq_false_iff.2 c8)) ?_
   refine .pf 38 rfl rfl rfl ((Bool.eq_false_iff.2 c8)) (fun _ => rfl) ?_
   refine .mv 42 rfl rfl rfl ?_
   iterate 3 refine .sn 43 46 rfl rfl rfl ?_
   refine .pf 43 rfl rfl rfl rfl (fun _ => rfl) ?_
   refine .mv 47 rfl rfl rfl ?_
   iterate 3 refine .sn 48 51 rfl rfl rfl ?_
   refine .pf 48 rfl rfl rfl rfl (fun _ => rfl) ?_
   refine .mv 52 rfl rfl rfl ?_
   iterate 3 refine .sn 53 56 rfl rfl rfl ?_
   refine .pf 53 rfl rfl rfl rfl (fun _ => rfl) ?_
   refine .mv 57 rfl rfl rfl ?_
   iterate 3 refine .sn 58 61 rfl rfl rfl ?_
   refine .pf 58 rfl rfl rfl rfl (fun _ => rfl) ?_
   refine .asg 62 rfl rfl rfl ?_
   exact .nil
  clear hS
  intro bX cl hS bK hp
  replace hS := hS.nil
  have aX : sl _ 2 = .bool false := hp 63 (by decide)
  have hS := hS.cons aX
  clear hp aX
  refine bd _ _ ?_
  refine wp_ret ?_
  (try simp only [Exit.then, Exit.inBlock, Exit.jump, Exit.noGoto])
  exact bodyPost_ret (v := .bool false) (results_single rfl (Vals.at (hS.get 0 rfl) .nil)) hS.nodef ⟨rfl, bK.1⟩
 rw [if_pos c8] at H
 obtain ⟨bf, bz, H⟩ := Option.bind_eq_some_iff.mp H
 refine wp_seq_k (fun K1 bg => ?_)
 by_cases c9 : bf = true
 rotate_left
 ·rw [if_neg c9] at H
  obtain rfl := Option.some.inj H
  refine reg_seq (I := I1_ w) (ps := [IsB (body_Check.c1 aq ar au av aw ax ay az ap an ab ac ad ae af ag ah ao aj ai ak al am) 28 w.heap.size, VB false]) (by kernel_rfl) ?_ ?_ rfl hS bh ?_ ?_
  ·exact bs1
  ·exact .cons (Stays.b _ _ _) (.v (.nil))
  ·refine .on rfl (fun a w hS hI hp => does_var (x_box rfl (congrArg Value.cells (hS.get 0 rfl))) (hI).size) ?_
   refine .on rfl (fun a w hS hI hp => does_val (x_assign rfl (rfl)) rfl) ?_
   exact .nil
  clear hS
  intro bu w3 hS be hp
  replace hS := hS.nil
  obtain ⟨g4, ba, bk, aa⟩ := (show IsB _ 28 _ (sl _ 1) _ from hp 0 (by decide))
  have hS := hS.cons ba
  clear hp ba
  refine bg _ _ ?_
  refine wp_seq_k (fun K5 bd => ?_)
  refine reg_any (I := I2_ w w3) (ps := [IsV ((body_Check.v0 aq ar au av aw ax ay az ap an ab ac ad ae af ag ah ao aj ai ak al am)), VB t6, VB t6, IsV ((body_Check.v0 aq ar au av aw ax ay az ap an ab ac ad ae af ag ah ao aj ai ak al am)), IsV ((body_Check.v0 aq ar au av aw ax ay az ap an ab ac ad ae af ag ah ao aj ai ak al am)), IsV ((body_Check.v0 aO aP aQ aR aS aT aU aV aW aA aB aC aD aE aF aG aH aI aJ aK aL aM aN)), VB ((aq == aO) && ((ar == aP) && ((au == aQ) && ((av == aR) && ((aw == aS) && ((ax == aT) && ((ay == aU) && ((az == aV) && ((ap == aW) && ((an == aA) && ((ab == aB) && ((ac == aC) && ((ad == aD) && ((ae == aE) && ((af == aF) && ((ag == aG) && ((ah == aH) && ((ao == aI) && ((aj == aJ) && ((ai == aK) && ((ak == aL) && ((al == aM) && (am == aN))))))))))))))))))))))), VB ((aq == aO) && ((ar == aP) && ((au == aQ) && ((av == aR) && ((aw == aS) && ((ax == aT) && ((ay == aU) && ((az == aV) && ((ap == aW) && ((an == aA) && ((ab == aB) && ((ac == aC) && ((ad == aD) && ((ae == aE) && ((af == aF) && ((ag == aG) && ((ah == aH) && ((ao == aI) && ((aj == aJ) && ((ai == aK) && ((ak == aL) && ((al == aM) && (am == aN))))))))))))))))))))))), VB ((aq == aO) && ((ar == aP) && ((au == aQ) && ((av == aR) && ((aw == aS) && ((ax == aT) && ((ay == aU) && ((az == aV) && ((ap == aW) && ((an == aA) && ((ab == aB) && ((ac == aC) && ((ad == aD) && ((ae == aE) && ((af == aF) && ((ag == aG) && ((ah == aH) && ((ao == aI) && ((aj == aJ) && ((ai == aK) && ((ak == aL) && ((al == aM) && (am == aN))))))))))))))))))))))), VP g4 8, VI ap, VB t8, VB t8, VB t8, VP g4 9, IsV (.agg #[.int .u64 an, .int .i64 ab]), VB t9, VB t9, VB t9, VP g4 11, VI ac, VB aY, VB aY, VB aY, VP g4 12, VI ad, VB aZ, VB aZ, VB aZ, VP g4 16, VI ah, VB bb, VB bb, VB bb, VP g4 19, VI ai, VB bc, VB bc, VB bc, VP g4 13, IsV (.agg #[.int .i64 ae, .int .i64 af, .int .i64 ag]), VB bf, VB bf, VB bf, VU, VU, VU, VB false, VB false, VU, VU, VU, VB false, VB false, VU, VU, VU, VB false, VB false, VU, VU, VU, VB false, VB false]) (by kernel_rfl) (by kernel_rfl) ?_ ?_ rfl hS ⟨be, (bR w3)⟩ ?_ ?_
  ·exact bs2
  ·exact .v (.v (.v (.v (.v (.v (.v (.v (.v (.v (.v (.v (.v (.v (.v (.v (.v (.v (.v (.v (.v (.v (.v (.v (.v (.v (.v (.v (.v (.v (.v (.v (.v (.v (.v (.v (.v (.v (.v (.v (.v (.v (.v (.v (.v (.v (.v (.v (.v (.v (.v (.v (.v (.v (.v (.v (.v (.v (.v (.v (.v (.v (.v (.v (.nil))))))))))))))))))))))))))))))))))))))))))))))))))))))))))))))))
  ·refine .on rfl (fun a w hS hI hp => does_loadrow rfl (hS.get 0 rfl) (((hI.2).block g4 (blk_lt aa)).trans aa) Try.underlying28 rfl (by kernel_rfl) rfl) ?_
   refine .on rfl (fun a w hS hI hp => does_call (by kernel_rfl) (ar1 (hp.V 0 rfl rfl)) ((header_Check.calls (w := _) (h := bl)).mono fun _ _ h => ⟨_, h.1, h.2, rfl⟩)) ?_
   refine .mv 1 rfl rfl rfl ?_
   iterate 2 refine .oy 2 5 rfl rfl c1 (fun a w hS hI hp => does_loadrow rfl (hS.get 0 rfl) (((hI.2).block g4 (blk_lt aa)).trans aa) Try.underlying28 rfl (by kernel_rfl) rfl) ?_
   refine .oy 2 5 rfl rfl c1 (fun a w hS hI hp => does_call (by kernel_rfl) (ar1 (hp.V 4 rfl rfl)) ((body_own.calls (w := _) (h := bo)).mono fun _ _ h => ⟨_, h.1, h.2, rfl⟩)) ?_
   refine .oy 2 5 rfl rfl c1 (fun a w hS hI hp => does_val (x_bin rfl (hp.V 3 rfl rfl) (hp.V 5 rfl rfl) (body_Check.eql28 _ _ _ aq ar au av aw ax ay az ap an ab ac ad ae af ag ah ao aj ai ak al am aO aP aQ aR aS aT aU aV aW aA aB aC aD aE aF aG aH aI aJ aK aL aM aN)) rfl) ?_
   refine .pt 2 6 rfl rfl rfl c1 rfl ?_
   refine .mv 7 rfl rfl rfl ?_
   refine .oy 8 11 rfl rfl c2 (fun a w hS hI hp => does_val (x_fieldE (b := 0) rfl (hS.get 0 rfl) Try.underlying28 rfl rfl (by kernel_rfl)) rfl) ?_
   refine .oy 8 11 rfl rfl c2 (fun a w hS hI hp => does_val (x_load1 (d := .int .i64) rfl (hp.V 9 rfl rfl) (by kernel_rfl) rfl ((blk_cell (((hI.2).block g4 (blk_lt aa)).trans aa) 8).trans rfl)) rfl) ?_
   refine .oy 8 11 rfl rfl c2 (fun a w hS hI hp => does_call (by kernel_rfl) (ar1 (hp.V 10 rfl rfl)) ((stamp_May.calls ap t8 _  br).mono fun _ _ h => ⟨_, h.1, h.2.below, rfl⟩)) ?_
   refine .pt 8 11 rfl rfl rfl c2 rfl ?_
   refine .mv 12 rfl rfl rfl ?_
   refine .oy 13 16 rfl rfl c3 (fun a w hS hI hp => does_val (x_fieldE (b := 0) rfl (hS.get 0 rfl) Try.underlying28 rfl rfl (by kernel_rfl)) rfl) ?_
   refine .oy 13 16 rfl rfl c3 (fun a w hS hI hp => does_loadmid (cs := [.int .u64 an, .int .i64 ab]) rfl (hp.V 14 rfl rfl) (((hI.2).block g4 (blk_lt aa)).trans aa) (by kernel_rfl) Try.underlying24 rfl (by kernel_rfl) rfl) ?_
   refine .oy 13 16 rfl rfl c3 (fun a w hS hI hp => does_call (by kernel_rfl) (ar1 (hp.V 15 rfl rfl)) ((ident_May.calls an ab t9 _  bs).mono fun _ _ h => ⟨_, h.1, h.2, rfl⟩)) ?_
   refine .pt 13 16 rfl rfl rfl c3 rfl ?_
   refine .mv 17 rfl rfl rfl ?_
   refine .oy 18 21 rfl rfl c4 (fun a w hS hI hp => does_val (x_fieldE (b := 0) rfl (hS.get 0 rfl) Try.underlying28 rfl rfl (by kernel_rfl)) rfl) ?_
   refine .oy 18 21 rfl rfl c4 (fun a w hS hI hp => does_val (x_load1 (d := .int .i64) rfl (hp.V 19 rfl rfl) (by kernel_rfl) rfl ((blk_cell (((hI.2).block g4 (blk_lt aa)).trans aa) 11).trans rfl)) rfl) ?_
   refine .oy 18 21 rfl rfl c4 (fun a w hS hI hp => does_call (by kernel_rfl) (ar3 (hp.V 20 rfl rfl) (rfl) (rfl)) ((body_in.calls ac (-32768) 32767 aY _  bn).mono fun _ _ h => ⟨_, h.1, h.2.below, rfl⟩)) ?_
   refine .pt 18 21 rfl rfl rfl c4 rfl ?_
   refine .mv 22 rfl rfl rfl ?_
   refine .oy 23 26 rfl rfl c5 (fun a w hS hI hp => does_val (x_fieldE (b := 0) rfl (hS.get 0 rfl) Try.underlying28 rfl rfl (by kernel_rfl)) rfl) ?_
   refine .oy 23 26 rfl rfl c5 (fun a w hS hI hp => does_val (x_load1 (d := .int .i64) rfl (hp.V 24 rfl rfl) (by kernel_rfl) rfl ((blk_cell (((hI.2).block g4 (blk_lt aa)).trans aa) 12).trans rfl)) rfl) ?_
   refine .oy 23 26 rfl rfl c5 (fun a w hS hI hp => does_call (by kernel_rfl) (ar3 (hp.V 25 rfl rfl) (rfl) (rfl)) ((body_in.calls ad 0 255 aZ _  bq).mono fun _ _ h => ⟨_, h.1, h.2.below, rfl⟩)) ?_
   refine .pt 23 26 rfl rfl rfl c5 rfl ?_
   refine .mv 27 rfl rfl rfl ?_
   refine .oy 28 31 rfl rfl c6 (fun a w hS hI hp => does_val (x_fieldE (b := 0) rfl (hS.get 0 rfl) Try.underlying28 rfl rfl (by kernel_rfl)) rfl) ?_
   refine .oy 28 31 rfl rfl c6 (fun a w hS hI hp => does_val (x_load1 (d := .int .i64) rfl (hp.V 29 rfl rfl) (by kernel_rfl) rfl ((blk_cell (((hI.2).block g4 (blk_lt aa)).trans aa) 16).trans rfl)) rfl) ?_
   refine .oy 28 31 rfl rfl c6 (fun a w hS hI hp => does_call (by kernel_rfl) (ar3 (hp.V 30 rfl rfl) (rfl) (rfl)) ((body_in.calls ah 0 255 bb _  bt).mono fun _ _ h => ⟨_, h.1, h.2.below, rfl⟩)) ?_
   refine .pt 28 31 rfl rfl rfl c6 rfl ?_
   refine .mv 32 rfl rfl rfl ?_
   refine .oy 33 36 rfl rfl c7 (fun a w hS hI hp => does_val (x_fieldE (b := 0) rfl (hS.get 0 rfl) Try.underlying28 rfl rfl (by kernel_rfl)) rfl) ?_
   refine .oy 33 36 rfl rfl c7 (fun a w hS hI hp => does_val (x_load1 (d := .int .i64) rfl (hp.V 34 rfl rfl) (by kernel_rfl) rfl ((blk_cell (((hI.2).block g4 (blk_lt aa)).trans aa) 19).trans rfl)) rfl) ?_
   refine .oy 33 36 rfl rfl c7 (fun a w hS hI hp => does_call (by kernel_rfl) (ar3 (hp.V 35 rfl rfl) (rfl) (rfl)) ((body_in.calls ai 0 255 bc _  bw).mono fun _ _ h => ⟨_, h.1, h.2.below, rfl⟩)) ?_
   refine .pt 33 36 rfl rfl rfl c7 rfl ?_
   refine .mv 37 rfl rfl rfl ?_
   refine .oy 38 41 rfl rfl c8 (fun a w hS hI hp => does_val (x_fieldE (b := 0) rfl (hS.get 0 rfl) Try.underlying28 rfl rfl (by kernel_rfl)) rfl) ?_
   refine .oy 38 41 rfl rfl c8 (fun a w hS hI hp => does_loadmid (cs := [.int .i64 ae, .int .i64 af, .int .i64 ag]) rfl (hp.V 39 rfl rfl) (((hI.2).block g4 (blk_lt aa)).trans aa) (by kernel_rfl) Try.underlying26 rfl (by kernel_rfl) rfl) ?_
   refine .oy 38 41 rfl rfl c8 (fun a w hS hI hp => does_call (by kernel_rfl) (ar1 (hp.V 40 rfl rfl)) ((quality_May.calls ae af ag bf _  bz).mono fun _ _ h => ⟨_, h.1, h.2, rfl⟩)) ?_
   refine .pt 38 41 rfl rfl rfl c8 rfl ?_
   refine .mv 42 rfl rfl rfl ?_
   iterate 3 refine .sn 43 46 rfl rfl ((Bool.eq_false_iff.2 c9)) ?_
   refine .pf 43 rfl rfl rfl ((Bool.eq_false_iff.2 c9)) (fun _ => rfl) ?_
   refine .mv 47 rfl rfl rfl ?_
   iterate 3 refine .sn 48 51 rfl rfl rfl ?_
   refine .pf 48 rfl rfl rfl rfl (fun _ => rfl) ?_
   refine .mv 52 rfl rfl rfl ?_
   iterate 3 refine .sn 53 56 rfl rfl rfl ?_
   refine .pf 53 rfl rfl rfl rfl (fun _ => rfl) ?_
   refine .mv 57 rfl rfl rfl ?_
   iterate 3 refine .sn 58 61 rfl rfl rfl ?_
   refine .pf 58 rfl rfl rfl rfl (fun _ => rfl) ?_
   refine .asg 62 rfl rfl rfl ?_
   exact .nil
  clear hS
  intro bY cm hS bL hp
  replace hS := hS.nil
  have aX : sl _ 2 = .bool false := hp 63 (by decide)
  have hS := hS.cons aX
  clear hp aX
  refine bd _ _ ?_
  refine wp_ret ?_
  (try simp only [Exit.then, Exit.inBlock, Exit.jump, Exit.noGoto])
  exact bodyPost_ret (v := .bool false) (results_single rfl (Vals.at (hS.get 0 rfl) .nil)) hS.nodef ⟨rfl, bL.1⟩
 rw [if_pos c9] at H
 obtain ⟨bi, bB, H⟩ := Option.bind_eq_some_iff.mp H
 refine reg_seq (I := I1_ w) (ps := [IsB (body_Check.c1 aq ar au av aw ax ay az ap an ab ac ad ae af ag ah ao aj ai ak al am) 28 w.heap.size, VB false]) (by kernel_rfl) ?_ ?_ rfl hS bh ?_ ?_
 ·exact bs1
 ·exact .cons (Stays.b _ _ _) (.v (.nil))
 ·refine .on rfl (fun a w hS hI hp => does_var (x_box rfl (congrArg Value.cells (hS.get 0 rfl))) (hI).size) ?_
  refine .on rfl (fun a w hS hI hp => does_val (x_assign rfl (rfl)) rfl) ?_
  exact .nil
 clear hS
 intro bu w3 hS be hp
 replace hS := hS.nil
 obtain ⟨g4, ba, bk, aa⟩ := (show IsB _ 28 _ (sl _ 1) _ from hp 0 (by decide))
 have hS := hS.cons ba
 clear hp ba
 by_cases bj : bi = true
 rotate_left
 ·rw [if_neg bj] at H
  obtain rfl := Option.some.inj H
  refine bg _ _ ?_
  refine wp_seq_k (fun K5 bd => ?_)
  refine reg_any (I := I2_ w w3) (ps := [IsV ((body_Check.v0 aq ar au av aw ax ay az ap an ab ac ad ae af ag ah ao aj ai ak al am)), VB t6, VB t6, IsV ((body_Check.v0 aq ar au av aw ax ay az ap an ab ac ad ae af ag ah ao aj ai ak al am)), IsV ((body_Check.v0 aq ar au av aw ax ay az ap an ab ac ad ae af ag ah ao aj ai ak al am)), IsV ((body_Check.v0 aO aP aQ aR aS aT aU aV aW aA aB aC aD aE aF aG aH aI aJ aK aL aM aN)), VB ((aq == aO) && ((ar == aP) && ((au == aQ) && ((av == aR) && ((aw == aS) && ((ax == aT) && ((ay == aU) && ((az == aV) && ((ap == aW) && ((an == aA) && ((ab == aB) && ((ac == aC) && ((ad == aD) && ((ae == aE) && ((af == aF) && ((ag == aG) && ((ah == aH) && ((ao == aI) && ((aj == aJ) && ((ai == aK) && ((ak == aL) && ((al == aM) && (am == aN))))))))))))))))))))))), VB ((aq == aO) && ((ar == aP) && ((au == aQ) && ((av == aR) && ((aw == aS) && ((ax == aT) && ((ay == aU) && ((az == aV) && ((ap == aW) && ((an == aA) && ((ab == aB) && ((ac == aC) && ((ad == aD) && ((ae == aE) && ((af == aF) && ((ag == aG) && ((ah == aH) && ((ao == aI) && ((aj == aJ) && ((ai == aK) && ((ak == aL) && ((al == aM) && (am == aN))))))))))))))))))))))), VB ((aq == aO) && ((ar == aP) && ((au == aQ) && ((av == aR) && ((aw == aS) && ((ax == aT) && ((ay == aU) && ((az == aV) && ((ap == aW) && ((an == aA) && ((ab == aB) && ((ac == aC) && ((ad == aD) && ((ae == aE) && ((af == aF) && ((ag == aG) && ((ah == aH) && ((ao == aI) && ((aj == aJ) && ((ai == aK) && ((ak == aL) && ((al == aM) && (am == aN))))))))))))))))))))))), VP g4 8, VI ap, VB t8, VB t8, VB t8, VP g4 9, IsV (.agg #[.int .u64 an, .int .i64 ab]), VB t9, VB t9, VB t9, VP g4 11, VI ac, VB aY, VB aY, VB aY, VP g4 12, VI ad, VB aZ, VB aZ, VB aZ, VP g4 16, VI ah, VB bb, VB bb, VB bb, VP g4 19, VI ai, VB bc, VB bc, VB bc, VP g4 13, IsV (.agg #[.int .i64 ae, .int .i64 af, .int .i64 ag]), VB bf, VB bf, VB bf, VP g4 18, VI aj, VB bi, VB bi, VB bi, VU, VU, VU, VB false, VB false, VU, VU, VU, VB false, VB false, VU, VU, VU, VB false, VB false]) (by kernel_rfl) (by kernel_rfl) ?_ ?_ rfl hS ⟨be, (bR w3)⟩ ?_ ?_
  ·exact bs2
  ·exact .v (.v (.v (.v (.v (.v (.v (.v (.v (.v (.v (.v (.v (.v (.v (.v (.v (.v (.v (.v (.v (.v (.v (.v (.v (.v (.v (.v (.v (.v (.v (.v (.v (.v (.v (.v (.v (.v (.v (.v (.v (.v (.v (.v (.v (.v (.v (.v (.v (.v (.v (.v (.v (.v (.v (.v (.v (.v (.v (.v (.v (.v (.v (.v (.nil))))))))))))))))))))))))))))))))))))))))))))))))))))))))))))))))
  ·refine .on rfl (fun a w hS hI hp => does_loadrow rfl (hS.get 0 rfl) (((hI.2).block g4 (blk_lt aa)).trans aa) Try.underlying28 rfl (by kernel_rfl) rfl) ?_
   refine .on rfl (fun a w hS hI hp => does_call (by kernel_rfl) (ar1 (hp.V 0 rfl rfl)) ((header_Check.calls (w := _) (h := bl)).mono fun _ _ h => ⟨_, h.1, h.2, rfl⟩)) ?_
   refine .mv 1 rfl rfl rfl ?_
   iterate 2 refine .oy 2 5 rfl rfl c1 (fun a w hS hI hp => does_loadrow rfl (hS.get 0 rfl) (((hI.2).block g4 (blk_lt aa)).trans aa) Try.underlying28 rfl (by kernel_rfl) rfl) ?_
   refine .oy 2 5 rfl rfl c1 (fun a w hS hI hp => does_call (by kernel_rfl) (ar1 (hp.V 4 rfl rfl)) ((body_own.calls (w := _) (h := bo)).mono fun _ _ h => ⟨_, h.1, h.2, rfl⟩)) ?_
   refine .oy 2 5 rfl rfl c1 (fun a w hS hI hp => does_val (x_bin rfl (hp.V 3 rfl rfl) (hp.V 5 rfl rfl) (body_Check.eql28 _ _ _ aq ar au av aw ax ay az ap an ab ac ad ae af ag ah ao aj ai ak al am aO aP aQ aR aS aT aU aV aW aA aB aC aD aE aF aG aH aI aJ aK aL aM aN)) rfl) ?_
   refine .pt 2 6 rfl rfl rfl c1 rfl ?_
   refine .mv 7 rfl rfl rfl ?_
   refine .oy 8 11 rfl rfl c2 (fun a w hS hI hp => does_val (x_fieldE (b := 0) rfl (hS.get 0 rfl) Try.underlying28 rfl rfl (by kernel_rfl)) rfl) ?_
   refine .oy 8 11 rfl rfl c2 (fun a w hS hI hp => does_val (x_load1 (d := .int .i64) rfl (hp.V 9 rfl rfl) (by kernel_rfl) rfl ((blk_cell (((hI.2).block g4 (blk_lt aa)).trans aa) 8).trans rfl)) rfl) ?_
   refine .oy 8 11 rfl rfl c2 (fun a w hS hI hp => does_call (by kernel_rfl) (ar1 (hp.V 10 rfl rfl)) ((stamp_May.calls ap t8 _  br).mono fun _ _ h => ⟨_, h.1, h.2.below, rfl⟩)) ?_
   refine .pt 8 11 rfl rfl rfl c2 rfl ?_
   refine .mv 12 rfl rfl rfl ?_
   refine .oy 13 16 rfl rfl c3 (fun a w hS hI hp => does_val (x_fieldE (b := 0) rfl (hS.get 0 rfl) Try.underlying28 rfl rfl (by kernel_rfl)) rfl) ?_
   refine .oy 13 16 rfl rfl c3 (fun a w hS hI hp => does_loadmid (cs := [.int .u64 an, .int .i64 ab]) rfl (hp.V 14 rfl rfl) (((hI.2).block g4 (blk_lt aa)).trans aa) (by kernel_rfl) Try.underlying24 rfl (by kernel_rfl) rfl) ?_
   refine .oy 13 16 rfl rfl c3 (fun a w hS hI hp => does_call (by kernel_rfl) (ar1 (hp.V 15 rfl rfl)) ((ident_May.calls an ab t9 _  bs).mono fun _ _ h => ⟨_, h.1, h.2, rfl⟩)) ?_
   refine .pt 13 16 rfl rfl rfl c3 rfl ?_
   refine .mv 17 rfl rfl rfl ?_
   refine .oy 18 21 rfl rfl c4 (fun a w hS hI hp => does_val (x_fieldE (b := 0) rfl (hS.get 0 rfl) Try.underlying28 rfl rfl (by kernel_rfl)) rfl) ?_
   refine .oy 18 21 rfl rfl c4 (fun a w hS hI hp => does_val (x_load1 (d := .int .i64) rfl (hp.V 19 rfl rfl) (by kernel_rfl) rfl ((blk_cell (((hI.2).block g4 (blk_lt aa)).trans aa) 11).trans rfl)) rfl) ?_
   refine .oy 18 21 rfl rfl c4 (fun a w hS hI hp => does_call (by kernel_rfl) (ar3 (hp.V 20 rfl rfl) (rfl) (rfl)) ((body_in.calls ac (-32768) 32767 aY _  bn).mono fun _ _ h => ⟨_, h.1, h.2.below, rfl⟩)) ?_
   refine .pt 18 21 rfl rfl rfl c4 rfl ?_
   refine .mv 22 rfl rfl rfl ?_
   refine .oy 23 26 rfl rfl c5 (fun a w hS hI hp => does_val (x_fieldE (b := 0) rfl (hS.get 0 rfl) Try.underlying28 rfl rfl (by kernel_rfl)) rfl) ?_
   refine .oy 23 26 rfl rfl c5 (fun a w hS hI hp => does_val (x_load1 (d := .int .i64) rfl (hp.V 24 rfl rfl) (by kernel_rfl) rfl ((blk_cell (((hI.2).block g4 (blk_lt aa)).trans aa) 12).trans rfl)) rfl) ?_
   refine .oy 23 26 rfl rfl c5 (fun a w hS hI hp => does_call (by kernel_rfl) (ar3 (hp.V 25 rfl rfl) (rfl) (rfl)) ((body_in.calls ad 0 255 aZ _  bq).mono fun _ _ h => ⟨_, h.1, h.2.below, rfl⟩)) ?_
   refine .pt 23 26 rfl rfl rfl c5 rfl ?_
   refine .mv 27 rfl rfl rfl ?_
   refine .oy 28 31 rfl rfl c6 (fun a w hS hI hp => does_val (x_fieldE (b := 0) rfl (hS.get 0 rfl) Try.underlying28 rfl rfl (by kernel_rfl)) rfl) ?_
   refine .oy 28 31 rfl rfl c6 (fun a w hS hI hp => does_val (x_load1 (d := .int .i64) rfl (hp.V 29 rfl rfl) (by kernel_rfl) rfl ((blk_cell (((hI.2).block g4 (blk_lt aa)).trans aa) 16).trans rfl)) rfl) ?_
   refine .oy 28 31 rfl rfl c6 (fun a w hS hI hp => does_call (by kernel_rfl) (ar3 (hp.V 30 rfl rfl) (rfl) (rfl)) ((body_in.calls ah 0 255 bb _  bt).mono fun _ _ h => ⟨_, h.1, h.2.below, rfl⟩)) ?_
   refine .pt 28 31 rfl rfl rfl c6 rfl ?_
   refine .mv 32 rfl rfl rfl ?_
   refine .oy 33 36 rfl rfl c7 (fun a w hS hI hp => does_val (x_fieldE (b := 0) rfl (hS.get 0 rfl) Try.underlying28 rfl rfl (by kernel_rfl)) rfl) ?_
   refine .oy 33 36 rfl rfl c7 (fun a w hS hI hp => does_val (x_load1 (d := .int .i64) rfl (hp.V 34 rfl rfl) (by kernel_rfl) rfl ((blk_cell (((hI.2).block g4 (blk_lt aa)).trans aa) 19).trans rfl)) rfl) ?_
   refine .oy 33 36 rfl rfl c7 (fun a w hS hI hp => does_call (by kernel_rfl) (ar3 (hp.V 35 rfl rfl) (rfl) (rfl)) ((body_in.calls ai 0 255 bc _  bw).mono fun _ _ h => ⟨_, h.1, h.2.below, rfl⟩)) ?_
   refine .pt 33 36 rfl rfl rfl c7 rfl ?_
   refine .mv 37 rfl rfl rfl ?_
   refine .oy 38 41 rfl rfl c8 (fun a w hS hI hp => does_val (x_fieldE (b := 0) rfl (hS.get 0 rfl) Try.underlying28 rfl rfl (by kernel_rfl)) rfl) ?_
   refine .oy 38 41 rfl rfl c8 (fun a w hS hI hp => does_loadmid (cs := [.int .i64 ae, .int .i64 af, .int .i64 ag]) rfl (hp.V 39 rfl rfl) (((hI.2).block g4 (blk_lt aa)).trans aa) (by kernel_rfl) Try.underlying26 rfl (by kernel_rfl) rfl) ?_
   refine .oy 38 41 rfl rfl c8 (fun a w hS hI hp => does_call (by kernel_rfl) (ar1 (hp.V 40 rfl rfl)) ((quality_May.calls ae af ag bf _  bz).mono fun _ _ h => ⟨_, h.1, h.2, rfl⟩)) ?_
   refine .pt 38 41 rfl rfl rfl c8 rfl ?_
   refine .mv 42 rfl rfl rfl ?_
   refine .oy 43 46 rfl rfl c9 (fun a w hS hI hp => does_val (x_fieldE (b := 0) rfl (hS.get 0 rfl) Try.underlying28 rfl rfl (by kernel_rfl)) rfl) ?_
   refine .oy 43 46 rfl rfl c9 (fun a w hS hI hp => does_val (x_load1 (d := .int .i64) rfl (hp.V 44 rfl rfl) (by kernel_rfl) rfl ((blk_cell (((hI.2).block g4 (blk_lt aa)).trans aa) 18).trans rfl)) rfl) ?_
   refine .oy 43 46 rfl rfl c9 (fun a w hS hI hp => does_call (by kernel_rfl) (ar3 (hp.V 45 rfl rfl) (rfl) (rfl)) ((body_in.calls aj 0 65535 bi _  bB).mono fun _ _ h => ⟨_, h.1, h.2.below, rfl⟩)) ?_
   refine .pt 43 46 rfl rfl rfl c9 rfl ?_
   refine .mv 47 rfl rfl rfl ?_
   iterate 3 refine .sn 48 51 rfl rfl ((Bool.eq_false_iff.2 bj)) ?_
   refine .pf 48 rfl rfl rfl ((Bool.eq_false_iff.2 bj)) (fun _ => rfl) ?_
   refine .mv 52 rfl rfl rfl ?_
   iterate 3 refine .sn 53 56 rfl rfl rfl ?_
   refine .pf 53 rfl rfl rfl rfl (fun _ => rfl) ?_
   refine .mv 57 rfl rfl rfl ?_
   iterate 3 refine .sn 58 61 rfl rfl rfl ?_
   refine .pf 58 rfl rfl rfl rfl (fun _ => rfl) ?_
   refine .asg 62 rfl rfl rfl ?_
   exact .nil
  clear hS
  intro bZ cn hS bM hp
  replace hS := hS.nil
  have aX : sl _ 2 = .bool false := hp 63 (by decide)
  have hS := hS.cons aX
  clear hp aX
  refine bd _ _ ?_
  refine wp_ret ?_
  (try simp only [Exit.then, Exit.inBlock, Exit.jump, Exit.noGoto])
  exact bodyPost_ret (v := .bool false) (results_single rfl (Vals.at (hS.get 0 rfl) .nil)) hS.nodef ⟨rfl, bM.1⟩
 rw [if_pos bj] at H
 obtain ⟨bm, bC, H⟩ := Option.bind_eq_some_iff.mp H
 refine bg _ _ ?_
 by_cases bp : bm = true
 rotate_left
 ·rw [if_neg bp] at H
  obtain rfl := Option.some.inj H
  refine wp_seq_k (fun K5 bd => ?_)
  refine reg_any (I := I2_ w w3) (ps := [IsV ((body_Check.v0 aq ar au av aw ax ay az ap an ab ac ad ae af ag ah ao aj ai ak al am)), VB t6, VB t6, IsV ((body_Check.v0 aq ar au av aw ax ay az ap an ab ac ad ae af ag ah ao aj ai ak al am)), IsV ((body_Check.v0 aq ar au av aw ax ay az ap an ab ac ad ae af ag ah ao aj ai ak al am)), IsV ((body_Check.v0 aO aP aQ aR aS aT aU aV aW aA aB aC aD aE aF aG aH aI aJ aK aL aM aN)), VB ((aq == aO) && ((ar == aP) && ((au == aQ) && ((av == aR) && ((aw == aS) && ((ax == aT) && ((ay == aU) && ((az == aV) && ((ap == aW) && ((an == aA) && ((ab == aB) && ((ac == aC) && ((ad == aD) && ((ae == aE) && ((af == aF) && ((ag == aG) && ((ah == aH) && ((ao == aI) && ((aj == aJ) && ((ai == aK) && ((ak == aL) && ((al == aM) && (am == aN))))))))))))))))))))))), VB ((aq == aO) && ((ar == aP) && ((au == aQ) && ((av == aR) && ((aw == aS) && ((ax == aT) && ((ay == aU) && ((az == aV) && ((ap == aW) && ((an == aA) && ((ab == aB) && ((ac == aC) && ((ad == aD) && ((ae == aE) && ((af == aF) && ((ag == aG) && ((ah == aH) && ((ao == aI) && ((aj == aJ) && ((ai == aK) && ((ak == aL) && ((al == aM) && (am == aN))))))))))))))))))))))), VB ((aq == aO) && ((ar == aP) && ((au == aQ) && ((av == aR) && ((aw == aS) && ((ax == aT) && ((ay == aU) && ((az == aV) && ((ap == aW) && ((an == aA) && ((ab == aB) && ((ac == aC) && ((ad == aD) && ((ae == aE) && ((af == aF) && ((ag == aG) && ((ah == aH) && ((ao == aI) && ((aj == aJ) && ((ai == aK) && ((ak == aL) && ((al == aM) && (am == aN))))))))))))))))))))))), VP g4 8, VI ap, VB t8, VB t8, VB t8, VP g4 9, IsV (.agg #[.int .u64 an, .int .i64 ab]), VB t9, VB t9, VB t9, VP g4 11, VI ac, VB aY, VB aY, VB aY, VP g4 12, VI ad, VB aZ, VB aZ, VB aZ, VP g4 16, VI ah, VB bb, VB bb, VB bb, VP g4 19, VI ai, VB bc, VB bc, VB bc, VP g4 13, IsV (.agg #[.int .i64 ae, .int .i64 af, .int .i64 ag]), VB bf, VB bf, VB bf, VP g4 18, VI aj, VB bi, VB bi, VB bi, VP g4 20, VI ak, VB bm, VB bm, VB bm, VU, VU, VU, VB false, VB false, VU, VU, VU, VB false, VB false]) (by kernel_rfl) (by kernel_rfl) ?_ ?_ rfl hS ⟨be, (bR w3)⟩ ?_ ?_
  ·exact bs2
  ·exact .v (.v (.v (.v (.v (.v (.v (.v (.v (.v (.v (.v (.v (.v (.v (.v (.v (.v (.v (.v (.v (.v (.v (.v (.v (.v (.v (.v (.v (.v (.v (.v (.v (.v (.v (.v (.v (.v (.v (.v (.v (.v (.v (.v (.v (.v (.v (.v (.v (.v (.v (.v (.v (.v (.v (.v (.v (.v (.v (.v (.v (.v (.v (.v (.nil))))))))))))))))))))))))))))))))))))))))))))))))))))))))))))))))
  ·refine .on rfl (fun a w hS hI hp => does_loadrow rfl (hS.get 0 rfl) (((hI.2).block g4 (blk_lt aa)).trans aa) Try.underlying28 rfl (by kernel_rfl) rfl) ?_
   refine .on rfl (fun a w hS hI hp => does_call (by kernel_rfl) (ar1 (hp.V 0 rfl rfl)) ((header_Check.calls (w := _) (h := bl)).mono fun _ _ h => ⟨_, h.1, h.2, rfl⟩)) ?_
   refine .mv 1 rfl rfl rfl ?_
   iterate 2 refine .oy 2 5 rfl rfl c1 (fun a w hS hI hp => does_loadrow rfl (hS.get 0 rfl) (((hI.2).block g4 (blk_lt aa)).trans aa) Try.underlying28 rfl (by kernel_rfl) rfl) ?_
   refine .oy 2 5 rfl rfl c1 (fun a w hS hI hp => does_call (by kernel_rfl) (ar1 (hp.V 4 rfl rfl)) ((body_own.calls (w := _) (h := bo)).mono fun _ _ h => ⟨_, h.1, h.2, rfl⟩)) ?_
   refine .oy 2 5 rfl rfl c1 (fun a w hS hI hp => does_val (x_bin rfl (hp.V 3 rfl rfl) (hp.V 5 rfl rfl) (body_Check.eql28 _ _ _ aq ar au av aw ax ay az ap an ab ac ad ae af ag ah ao aj ai ak al am aO aP aQ aR aS aT aU aV aW aA aB aC aD aE aF aG aH aI aJ aK aL aM aN)) rfl) ?_
   refine .pt 2 6 rfl rfl rfl c1 rfl ?_
   refine .mv 7 rfl rfl rfl ?_
   refine .oy 8 11 rfl rfl c2 (fun a w hS hI hp => does_val (x_fieldE (b := 0) rfl (hS.get 0 rfl) Try.underlying28 rfl rfl (by kernel_rfl)) rfl) ?_
   refine .oy 8 11 rfl rfl c2 (fun a w hS hI hp => does_val (x_load1 (d := .int .i64) rfl (hp.V 9 rfl rfl) (by kernel_rfl) rfl ((blk_cell (((hI.2).block g4 (blk_lt aa)).trans aa) 8).trans rfl)) rfl) ?_
   refine .oy 8 11 rfl rfl c2 (fun a w hS hI hp => does_call (by kernel_rfl) (ar1 (hp.V 10 rfl rfl)) ((stamp_May.calls ap t8 _  br).mono fun _ _ h => ⟨_, h.1, h.2.below, rfl⟩)) ?_
   refine .pt 8 11 rfl rfl rfl c2 rfl ?_
   refine .mv 12 rfl rfl rfl ?_
   refine .oy 13 16 rfl rfl c3 (fun a w hS hI hp => does_val (x_fieldE (b := 0) rfl (hS.get 0 rfl) Try.underlying28 rfl rfl (by kernel_rfl)) rfl) ?_
   refine .oy 13 16 rfl rfl c3 (fun a w hS hI hp => does_loadmid (cs := [.int .u64 an, .int .i64 ab]) rfl (hp.V 14 rfl rfl) (((hI.2).block g4 (blk_lt aa)).trans aa) (by kernel_rfl) Try.underlying24 rfl (by kernel_rfl) rfl) ?_
   refine .oy 13 16 rfl rfl c3 (fun a w hS hI hp => does_call (by kernel_rfl) (ar1 (hp.V 15 rfl rfl)) ((ident_May.calls an ab t9 _  bs).mono fun _ _ h => ⟨_, h.1, h.2, rfl⟩)) ?_
   refine .pt 13 16 rfl rfl rfl c3 rfl ?_
   refine .mv 17 rfl rfl rfl ?_
   refine .oy 18 21 rfl rfl c4 (fun a w hS hI hp => does_val (x_fieldE (b := 0) rfl (hS.get 0 rfl) Try.underlying28 rfl rfl (by kernel_rfl)) rfl) ?_
   refine .oy 18 21 rfl rfl c4 (fun a w hS hI hp => does_val (x_load1 (d := .int .i64) rfl (hp.V 19 rfl rfl) (by kernel_rfl) rfl ((blk_cell (((hI.2).block g4 (blk_lt aa)).trans aa) 11).trans rfl)) rfl) ?_
   refine .oy 18 21 rfl rfl c4 (fun a w hS hI hp => does_call (by kernel_rfl) (ar3 (hp.V 20 rfl rfl) (rfl) (rfl)) ((body_in.calls ac (-32768) 32767 aY _  bn).mono fun _ _ h => ⟨_, h.1, h.2.below, rfl⟩)) ?_
   refine .pt 18 21 rfl rfl rfl c4 rfl ?_
   refine .mv 22 rfl rfl rfl ?_
   refine .oy 23 26 rfl rfl c5 (fun a w hS hI hp => does_val (x_fieldE (b := 0) rfl (hS.get 0 rfl) Try.underlying28 rfl rfl (by kernel_rfl)) rfl) ?_
   refine .oy 23 26 rfl rfl c5 (fun a w hS hI hp => does_val (x_load1 (d := .int .i64) rfl (hp.V 24 rfl rfl) (by kernel_rfl) rfl ((blk_cell (((hI.2).block g4 (blk_lt aa)).trans aa) 12).trans rfl)) rfl) ?_
   refine .oy 23 26 rfl rfl c5 (fun a w hS hI hp => does_call (by kernel_rfl) (ar3 (hp.V 25 rfl rfl) (rfl) (rfl)) ((body_in.calls ad 0 255 aZ _  bq).mono fun _ _ h => ⟨_, h.1, h.2.below, rfl⟩)) ?_
   refine .pt 23 26 rfl rfl rfl c5 rfl ?_
   refine .mv 27 rfl rfl rfl ?_
   refine .oy 28 31 rfl rfl c6 (fun a w hS hI hp => does_val (x_fieldE (b := 0) rfl (hS.get 0 rfl) Try.underlying28 rfl rfl (by kernel_rfl)) rfl) ?_
   refine .oy 28 31 rfl rfl c6 (fun a w hS hI hp => does_val (x_load1 (d := .int .i64) rfl (hp.V 29 rfl rfl) (by kernel_rfl) rfl ((blk_cell (((hI.2).block g4 (blk_lt aa)).trans aa) 16).trans rfl)) rfl) ?_
   refine .oy 28 31 rfl rfl c6 (fun a w hS hI hp => does_call (by kernel_rfl) (ar3 (hp.V 30 rfl rfl) (rfl) (rfl)) ((body_in.calls ah 0 255 bb _  bt).mono fun _ _ h => ⟨_, h.1, h.2.below, rfl⟩)) ?_
   refine .pt 28 31 rfl rfl rfl c6 rfl ?_
   refine .mv 32 rfl rfl rfl ?_
   refine .oy 33 36 rfl rfl c7 (fun a w hS hI hp => does_val (x_fieldE (b := 0) rfl (hS.get 0 rfl) Try.underlying28 rfl rfl (by kernel_rfl)) rfl) ?_
   refine .oy 33 36 rfl rfl c7 (fun a w hS hI hp => does_val (x_load1 (d := .int .i64) rfl (hp.V 34 rfl rfl) (by kernel_rfl) rfl ((blk_cell (((hI.2).block g4 (blk_lt aa)).trans aa) 19).trans rfl)) rfl) ?_
   refine .oy 33 36 rfl rfl c7 (fun a w hS hI hp => does_call (by kernel_rfl) (ar3 (hp.V 35 rfl rfl) (rfl) (rfl)) ((body_in.calls ai 0 255 bc _  bw).mono fun _ _ h => ⟨_, h.1, h.2.below, rfl⟩)) ?_
   refine .pt 33 36 rfl rfl rfl c7 rfl ?_
   refine .mv 37 rfl rfl rfl ?_
   refine .oy 38 41 rfl rfl c8 (fun a w hS hI hp => does_val (x_fieldE (b := 0) rfl (hS.get 0 rfl) Try.underlying28 rfl rfl (by kernel_rfl)) rfl) ?_
   refine .oy 38 41 rfl rfl c8 (fun a w hS hI hp => does_loadmid (cs := [.int .i64 ae, .int .i64 af, .int .i64 ag]) rfl (hp.V 39 rfl rfl) (((hI.2).block g4 (blk_lt aa)).trans aa) (by kernel_rfl) Try.underlying26 rfl (by kernel_rfl) rfl) ?_
   refine .oy 38 41 rfl rfl c8 (fun a w hS hI hp => does_call (by kernel_rfl) (ar1 (hp.V 40 rfl rfl)) ((quality_May.calls ae af ag bf _  bz).mono fun _ _ h => ⟨_, h.1, h.2, rfl⟩)) ?_
   refine .pt 38 41 rfl rfl rfl c8 rfl ?_
   refine .mv 42 rfl rfl rfl ?_
   refine .oy 43 46 rfl rfl c9 (fun a w hS hI hp => does_val (x_fieldE (b := 0) rfl (hS.get 0 rfl) Try.underlying28 rfl rfl (by kernel_rfl)) rfl) ?_
   refine .oy 43 46 rfl rfl c9 (fun a w hS hI hp => does_val (x_load1 (d := .int .i64) rfl (hp.V 44 rfl rfl) (by kernel_rfl) rfl ((blk_cell (((hI.2).block g4 (blk_lt aa)).trans aa) 18).trans rfl)) rfl) ?_
   refine .oy 43 46 rfl rfl c9 (fun a w hS hI hp => does_call (by kernel_rfl) (ar3 (hp.V 45 rfl rfl) (rfl) (rfl)) ((body_in.calls aj 0 65535 bi _  bB).mono fun _ _ h => ⟨_, h.1, h.2.below, rfl⟩)) ?_
   refine .pt 43 46 rfl rfl rfl c9 rfl ?_
   refine .mv 47 rfl rfl rfl ?_
   refine .oy 48 51 rfl rfl bj (fun a w hS hI hp => does_val (x_fieldE (b := 0) rfl (hS.get 0 rfl) Try.underlying28 rfl rfl (by kernel_rfl)) rfl) ?_
   refine .oy 48 51 rfl rfl bj (fun a w hS hI hp => does_val (x_load1 (d := .int .i64) rfl (hp.V 49 rfl rfl) (by kernel_rfl) rfl ((blk_cell (((hI.2).block g4 (blk_lt aa)).trans aa) 20).trans rfl)) rfl) ?_
   refine .oy 48 51 rfl rfl bj (fun a w hS hI hp => does_call (by kernel_rfl) (ar3 (hp.V 50 rfl rfl) (rfl) (rfl)) ((body_in.calls ak 0 255 bm _  bC).mono fun _ _ h => ⟨_, h.1, h.2.below, rfl⟩)) ?_
   refine .pt 48 51 rfl rfl rfl bj rfl ?_
   refine .mv 52 rfl rfl rfl ?_
   iterate 3 refine .sn 53 56 rfl rfl ((Bool.eq_false_iff.2 bp)) ?_
   refine .pf 53 rfl rfl rfl ((Bool.eq_false_iff.2 bp)) (fun _ => rfl) ?_
   refine .mv 57 rfl rfl rfl ?_
   iterate 3 refine .sn 58 61 rfl rfl rfl ?_
   refine .pf 58 rfl rfl rfl rfl (fun _ => rfl) ?_
   refine .asg 62 rfl rfl rfl ?_
   exact .nil
  clear hS
  intro ca co hS bN hp
  replace hS := hS.nil
  have aX : sl _ 2 = .bool false := hp 63 (by decide)
  have hS := hS.cons aX
  clear hp aX
  refine bd _ _ ?_
  refine wp_ret ?_
  (try simp only [Exit.then, Exit.inBlock, Exit.jump, Exit.noGoto])
  exact bodyPost_ret (v := .bool false) (results_single rfl (Vals.at (hS.get 0 rfl) .nil)) hS.nodef ⟨rfl, bN.1⟩
 rw [if_pos bp] at H
 obtain ⟨bv, bD, H⟩ := Option.bind_eq_some_iff.mp H
 refine wp_seq_k (fun K5 bd => ?_)
 by_cases bx : bv = true
 rotate_left
 ·rw [if_neg bx] at H
  obtain rfl := Option.some.inj H
  refine reg_any (I := I2_ w w3) (ps := [IsV ((body_Check.v0 aq ar au av aw ax ay az ap an ab ac ad ae af ag ah ao aj ai ak al am)), VB t6, VB t6, IsV ((body_Check.v0 aq ar au av aw ax ay az ap an ab ac ad ae af ag ah ao aj ai ak al am)), IsV ((body_Check.v0 aq ar au av aw ax ay az ap an ab ac ad ae af ag ah ao aj ai ak al am)), IsV ((body_Check.v0 aO aP aQ aR aS aT aU aV aW aA aB aC aD aE aF aG aH aI aJ aK aL aM aN)), VB ((aq == aO) && ((ar == aP) && ((au == aQ) && ((av == aR) && ((aw == aS) && ((ax == aT) && ((ay == aU) && ((az == aV) && ((ap == aW) && ((an == aA) && ((ab == aB) && ((ac == aC) && ((ad == aD) && ((ae == aE) && ((af == aF) && ((ag == aG) && ((ah == aH) && ((ao == aI) && ((aj == aJ) && ((ai == aK) && ((ak == aL) && ((al == aM) && (am == aN))))))))))))))))))))))), VB ((aq == aO) && ((ar == aP) && ((au == aQ) && ((av == aR) && ((aw == aS) && ((ax == aT) && ((ay == aU) && ((az == aV) && ((ap == aW) && ((an == aA) && ((ab == aB) && ((ac == aC) && ((ad == aD) && ((ae == aE) && ((af == aF) && ((ag == aG) && ((ah == aH) && ((ao == aI) && ((aj == aJ) && ((ai == aK) && ((ak == aL) && ((al == aM) && (am == aN))))))))))))))))))))))), VB ((aq == aO) && ((ar == aP) && ((au == aQ) && ((av == aR) && ((aw == aS) && ((ax == aT) && ((ay == aU) && ((az == aV) && ((ap == aW) && ((an == aA) && ((ab == aB) && ((ac == aC) && ((ad == aD) && ((ae == aE) && ((af == aF) && ((ag == aG) && ((ah == aH) && ((ao == aI) && ((aj == aJ) && ((ai == aK) && ((ak == aL) && ((al == aM) && (am == aN))))))))))))))))))))))), VP g4 8, VI ap, VB t8, VB t8, VB t8, VP g4 9, IsV (.agg #[.int .u64 an, .int .i64 ab]), VB t9, VB t9, VB t9, VP g4 11, VI ac, VB aY, VB aY, VB aY, VP g4 12, VI ad, VB aZ, VB aZ, VB aZ, VP g4 16, VI ah, VB bb, VB bb, VB bb, VP g4 19, VI ai, VB bc, VB bc, VB bc, VP g4 13, IsV (.agg #[.int .i64 ae, .int .i64 af, .int .i64 ag]), VB bf, VB bf, VB bf, VP g4 18, VI aj, VB bi, VB bi, VB bi, VP g4 20, VI ak, VB bm, VB bm, VB bm, VP g4 21, VI al, VB bv, VB bv, VB bv, VU, VU, VU, VB false, VB false]) (by kernel_rfl) (by kernel_rfl) ?_ ?_ rfl hS ⟨be, (bR w3)⟩ ?_ ?_
  ·exact bs2
  ·exact .v (.v (.v (.v (.v (.v (.v (.v (.v (.v (.v (.v (.v (.v (.v (.v (.v (.v (.v (.v (.v (.v (.v (.v (.v (.v (.v (.v (.v (.v (.v (.v (.v (.v (.v (.v (.v (.v (.v (.v (.v (.v (.v (.v (.v (.v (.v (.v (.v (.v (.v (.v (.v (.v (.v (.v (.v (.v (.v (.v (.v (.v (.v (.v (.nil))))))))))))))))))))))))))))))))))))))))))))))))))))))))))))))))
  ·refine .on rfl (fun a w hS hI hp => does_loadrow rfl (hS.get 0 rfl) (((hI.2).block g4 (blk_lt aa)).trans aa) Try.underlying28 rfl (by kernel_rfl) rfl) ?_
   refine .on rfl (fun a w hS hI hp => does_call (by kernel_rfl) (ar1 (hp.V 0 rfl rfl)) ((header_Check.calls (w := _) (h := bl)).mono fun _ _ h => ⟨_, h.1, h.2, rfl⟩)) ?_
   refine .mv 1 rfl rfl rfl ?_
   iterate 2 refine .oy 2 5 rfl rfl c1 (fun a w hS hI hp => does_loadrow rfl (hS.get 0 rfl) (((hI.2).block g4 (blk_lt aa)).trans aa) Try.underlying28 rfl (by kernel_rfl) rfl) ?_
   refine .oy 2 5 rfl rfl c1 (fun a w hS hI hp => does_call (by kernel_rfl) (ar1 (hp.V 4 rfl rfl)) ((body_own.calls (w := _) (h := bo)).mono fun _ _ h => ⟨_, h.1, h.2, rfl⟩)) ?_
   refine .oy 2 5 rfl rfl c1 (fun a w hS hI hp => does_val (x_bin rfl (hp.V 3 rfl rfl) (hp.V 5 rfl rfl) (body_Check.eql28 _ _ _ aq ar au av aw ax ay az ap an ab ac ad ae af ag ah ao aj ai ak al am aO aP aQ aR aS aT aU aV aW aA aB aC aD aE aF aG aH aI aJ aK aL aM aN)) rfl) ?_
   refine .pt 2 6 rfl rfl rfl c1 rfl ?_
   refine .mv 7 rfl rfl rfl ?_
   refine .oy 8 11 rfl rfl c2 (fun a w hS hI hp => does_val (x_fieldE (b := 0) rfl (hS.get 0 rfl) Try.underlying28 rfl rfl (by kernel_rfl)) rfl) ?_
   refine .oy 8 11 rfl rfl c2 (fun a w hS hI hp => does_val (x_load1 (d := .int .i64) rfl (hp.V 9 rfl rfl) (by kernel_rfl) rfl ((blk_cell (((hI.2).block g4 (blk_lt aa)).trans aa) 8).trans rfl)) rfl) ?_
   refine .oy 8 11 rfl rfl c2 (fun a w hS hI hp => does_call (by kernel_rfl) (ar1 (hp.V 10 rfl rfl)) ((stamp_May.calls ap t8 _  br).mono fun _ _ h => ⟨_, h.1, h.2.below, rfl⟩)) ?_
   refine .pt 8 11 rfl rfl rfl c2 rfl ?_
   refine .mv 12 rfl rfl rfl ?_
   refine .oy 13 16 rfl rfl c3 (fun a w hS hI hp => does_val (x_fieldE (b := 0) rfl (hS.get 0 rfl) Try.underlying28 rfl rfl (by kernel_rfl)) rfl) ?_
   refine .oy 13 16 rfl rfl c3 (fun a w hS hI hp => does_loadmid (cs := [.int .u64 an, .int .i64 ab]) rfl (hp.V 14 rfl rfl) (((hI.2).block g4 (blk_lt aa)).trans aa) (by kernel_rfl) Try.underlying24 rfl (by kernel_rfl) rfl) ?_
   refine .oy 13 16 rfl rfl c3 (fun a w hS hI hp => does_call (by kernel_rfl) (ar1 (hp.V 15 rfl rfl)) ((ident_May.calls an ab t9 _  bs).mono fun _ _ h => ⟨_, h.1, h.2, rfl⟩)) ?_
   refine .pt 13 16 rfl rfl rfl c3 rfl ?_
   refine .mv 17 rfl rfl rfl ?_
   refine .oy 18 21 rfl rfl c4 (fun a w hS hI hp => does_val (x_fieldE (b := 0) rfl (hS.get 0 rfl) Try.underlying28 rfl rfl (by kernel_rfl)) rfl) ?_
   refine .oy 18 21 rfl rfl c4 (fun a w hS hI hp => does_val (x_load1 (d := .int .i64) rfl (hp.V 19 rfl rfl) (by kernel_rfl) rfl ((blk_cell (((hI.2).block g4 (blk_lt aa)).trans aa) 11).trans rfl)) rfl) ?_
   refine .oy 18 21 rfl rfl c4 (fun a w hS hI hp => does_call (by kernel_rfl) (ar3 (hp.V 20 rfl rfl) (rfl) (rfl)) ((body_in.calls ac (-32768) 32767 aY _  bn).mono fun _ _ h => ⟨_, h.1, h.2.below, rfl⟩)) ?_
   refine .pt 18 21 rfl rfl rfl c4 rfl ?_
   refine .mv 22 rfl rfl rfl ?_
   refine .oy 23 26 rfl rfl c5 (fun a w hS hI hp => does_val (x_fieldE (b := 0) rfl (hS.get 0 rfl) Try.underlying28 rfl rfl (by kernel_rfl)) rfl) ?_
   refine .oy 23 26 rfl rfl c5 (fun a w hS hI hp => does_val (x_load1 (d := .int .i64) rfl (hp.V 24 rfl rfl) (by kernel_rfl) rfl ((blk_cell (((hI.2).block g4 (blk_lt aa)).trans aa) 12).trans rfl)) rfl) ?_
   refine .oy 23 26 rfl rfl c5 (fun a w hS hI hp => does_call (by kernel_rfl) (ar3 (hp.V 25 rfl rfl) (rfl) (rfl)) ((body_in.calls ad 0 255 aZ _  bq).mono fun _ _ h => ⟨_, h.1, h.2.below, rfl⟩)) ?_
   refine .pt 23 26 rfl rfl rfl c5 rfl ?_
   refine .mv 27 rfl rfl rfl ?_
   refine .oy 28 31 rfl rfl c6 (fun a w hS hI hp => does_val (x_fieldE (b := 0) rfl (hS.get 0 rfl) Try.underlying28 rfl rfl (by kernel_rfl)) rfl) ?_
   refine .oy 28 31 rfl rfl c6 (fun a w hS hI hp => does_val (x_load1 (d := .int .i64) rfl (hp.V 29 rfl rfl) (by kernel_rfl) rfl ((blk_cell (((hI.2).block g4 (blk_lt aa)).trans aa) 16).trans rfl)) rfl) ?_
   refine .oy 28 31 rfl rfl c6 (fun a w hS hI hp => does_call (by kernel_rfl) (ar3 (hp.V 30 rfl rfl) (rfl) (rfl)) ((body_in.calls ah 0 255 bb _  bt).mono fun _ _ h => ⟨_, h.1, h.2.below, rfl⟩)) ?_
   refine .pt 28 31 rfl rfl rfl c6 rfl ?_
   refine .mv 32 rfl rfl rfl ?_
   refine .oy 33 36 rfl rfl c7 (fun a w hS hI hp => does_val (x_fieldE (b := 0) rfl (hS.get 0 rfl) Try.underlying28 rfl rfl (by kernel_rfl)) rfl) ?_
   refine .oy 33 36 rfl rfl c7 (fun a w hS hI hp => does_val (x_load1 (d := .int .i64) rfl (hp.V 34 rfl rfl) (by kernel_rfl) rfl ((blk_cell (((hI.2).block g4 (blk_lt aa)).trans aa) 19).trans rfl)) rfl) ?_
   refine .oy 33 36 rfl rfl c7 (fun a w hS hI hp => does_call (by kernel_rfl) (ar3 (hp.V 35 rfl rfl) (rfl) (rfl)) ((body_in.calls ai 0 255 bc _  bw).mono fun _ _ h => ⟨_, h.1, h.2.below, rfl⟩)) ?_
   refine .pt 33 36 rfl rfl rfl c7 rfl ?_
   refine .mv 37 rfl rfl rfl ?_
   refine .oy 38 41 rfl rfl c8 (fun a w hS hI hp => does_val (x_fieldE (b := 0) rfl (hS.get 0 rfl) Try.underlying28 rfl rfl (by kernel_rfl)) rfl) ?_
   refine .oy 38 41 rfl rfl c8 (fun a w hS hI hp => does_loadmid (cs := [.int .i64 ae, .int .i64 af, .int .i64 ag]) rfl (hp.V 39 rfl rfl) (((hI.2).block g4 (blk_lt aa)).trans aa) (by kernel_rfl) Try.underlying26 rfl (by kernel_rfl) rfl) ?_
   refine .oy 38 41 rfl rfl c8 (fun a w hS hI hp => does_call (by kernel_rfl) (ar1 (hp.V 40 rfl rfl)) ((quality_May.calls ae af ag bf _  bz).mono fun _ _ h => ⟨_, h.1, h.2, rfl⟩)) ?_
   refine .pt 38 41 rfl rfl rfl c8 rfl ?_
   refine .mv 42 rfl rfl rfl ?_
   refine .oy 43 46 rfl rfl c9 (fun a w hS hI hp => does_val (x_fieldE (b := 0) rfl (hS.get 0 rfl) Try.underlying28 rfl rfl (by kernel_rfl)) rfl) ?_
   refine .oy 43 46 rfl rfl c9 (fun a w hS hI hp => does_val (x_load1 (d := .int .i64) rfl (hp.V 44 rfl rfl) (by kernel_rfl) rfl ((blk_cell (((hI.2).block g4 (blk_lt aa)).trans aa) 18).trans rfl)) rfl) ?_
   refine .oy 43 46 rfl rfl c9 (fun a w hS hI hp => does_call (by kernel_rfl) (ar3 (hp.V 45 rfl rfl) (rfl) (rfl)) ((body_in.calls aj 0 65535 bi _  bB).mono fun _ _ h => ⟨_, h.1, h.2.below, rfl⟩)) ?_
   refine .pt 43 46 rfl rfl rfl c9 rfl ?_
   refine .mv 47 rfl rfl rfl ?_
   refine .oy 48 51 rfl rfl bj (fun a w hS hI hp => does_val (x_fieldE (b := 0) rfl (hS.get 0 rfl) Try.underlying28 rfl rfl (by kernel_rfl)) rfl) ?_
   refine .oy 48 51 rfl rfl bj (fun a w hS hI hp => does_val (x_load1 (d := .int .i64) rfl (hp.V 49 rfl rfl) (by kernel_rfl) rfl ((blk_cell (((hI.2).block g4 (blk_lt aa)).trans aa) 20).trans rfl)) rfl) ?_
   refine .oy 48 51 rfl rfl bj (fun a w hS hI hp => does_call (by kernel_rfl) (ar3 (hp.V 50 rfl rfl) (rfl) (rfl)) ((body_in.calls ak 0 255 bm _  bC).mono fun _ _ h => ⟨_, h.1, h.2.below, rfl⟩)) ?_
   refine .pt 48 51 rfl rfl rfl bj rfl ?_
   refine .mv 52 rfl rfl rfl ?_
   refine .oy 53 56 rfl rfl bp (fun a w hS hI hp => does_val (x_fieldE (b := 0) rfl (hS.get 0 rfl) Try.underlying28 rfl rfl (by kernel_rfl)) rfl) ?_
   refine .oy 53 56 rfl rfl bp (fun a w hS hI hp => does_val (x_load1 (d := .int .i64) rfl (hp.V 54 rfl rfl) (by kernel_rfl) rfl ((blk_cell (((hI.2).block g4 (blk_lt aa)).trans aa) 21).trans rfl)) rfl) ?_
   refine .oy 53 56 rfl rfl bp (fun a w hS hI hp => does_call (by kernel_rfl) (ar3 (hp.V 55 rfl rfl) (rfl) (rfl)) ((body_in.calls al 0 255 bv _  bD).mono fun _ _ h => ⟨_, h.1, h.2.below, rfl⟩)) ?_
   refine .pt 53 56 rfl rfl rfl bp rfl ?_
   refine .mv 57 rfl rfl rfl ?_
   iterate 3 refine .sn 58 61 rfl rfl ((Bool.eq_false_iff.2 bx)) ?_
   refine .pf 58 rfl rfl rfl ((Bool.eq_false_iff.2 bx)) (fun _ => rfl) ?_
   refine .asg 62 rfl rfl rfl ?_
   exact .nil
  clear hS
  intro cb cp hS bO hp
  replace hS := hS.nil
  have aX : sl _ 2 = .bool false := hp 63 (by decide)
  have hS := hS.cons aX
  clear hp aX
  refine bd _ _ ?_
  refine wp_ret ?_
  (try simp only [Exit.then, Exit.inBlock, Exit.jump, Exit.noGoto])
  exact bodyPost_ret (v := .bool false) (results_single rfl (Vals.at (hS.get 0 rfl) .nil)) hS.nodef ⟨rfl, bO.1⟩
 rw [if_pos bx] at H
 obtain ⟨bA, bE, H⟩ := Option.bind_eq_some_iff.mp H
 obtain rfl := Option.some.inj H
 refine reg_any (I := I2_ w w3) (ps := [IsV ((body_Check.v0 aq ar au av aw ax ay az ap an ab ac ad ae af ag ah ao aj ai ak al am)), VB t6, VB t6, IsV ((body_Check.v0 aq ar au av aw ax ay az ap an ab ac ad ae af ag ah ao aj ai ak al am)), IsV ((body_Check.v0 aq ar au av aw ax ay az ap an ab ac ad ae af ag ah ao aj ai ak al am)), IsV ((body_Check.v0 aO aP aQ aR aS aT aU aV aW aA aB aC aD aE aF aG aH aI aJ aK aL aM aN)), VB ((aq == aO) && ((ar == aP) && ((au == aQ) && ((av == aR) && ((aw == aS) && ((ax == aT) && ((ay == aU) && ((az == aV) && ((ap == aW) && ((an == aA) && ((ab == aB) && ((ac == aC) && ((ad == aD) && ((ae == aE) && ((af == aF) && ((ag == aG) && ((ah == aH) && ((ao == aI) && ((aj == aJ) && ((ai == aK) && ((ak == aL) && ((al == aM) && (am == aN))))))))))))))))))))))), VB ((aq == aO) && ((ar == aP) && ((au == aQ) && ((av == aR) && ((aw == aS) && ((ax == aT) && ((ay == aU) && ((az == aV) && ((ap == aW) && ((an == aA) && ((ab == aB) && ((ac == aC) && ((ad == aD) && ((ae == aE) && ((af == aF) && ((ag == aG) && ((ah == aH) && ((ao == aI) && ((aj == aJ) && ((ai == aK) && ((ak == aL) && ((al == aM) && (am == aN))))))))))))))))))))))), VB ((aq == aO) && ((ar == aP) && ((au == aQ) && ((av == aR) && ((aw == aS) && ((ax == aT) && ((ay == aU) && ((az == aV) && ((ap == aW) && ((an == aA) && ((ab == aB) && ((ac == aC) && ((ad == aD) && ((ae == aE) && ((af == aF) && ((ag == aG) && ((ah == aH) && ((ao == aI) && ((aj == aJ) && ((ai == aK) && ((ak == aL) && ((al == aM) && (am == aN))))))))))))))))))))))), VP g4 8, VI ap, VB t8, VB t8, VB t8, VP g4 9, IsV (.agg #[.int .u64 an, .int .i64 ab]), VB t9, VB t9, VB t9, VP g4 11, VI ac, VB aY, VB aY, VB aY, VP g4 12, VI ad, VB aZ, VB aZ, VB aZ, VP g4 16, VI ah, VB bb, VB bb, VB bb, VP g4 19, VI ai, VB bc, VB bc, VB bc, VP g4 13, IsV (.agg #[.int .i64 ae, .int .i64 af, .int .i64 ag]), VB bf, VB bf, VB bf, VP g4 18, VI aj, VB bi, VB bi, VB bi, VP g4 20, VI ak, VB bm, VB bm, VB bm, VP g4 21, VI al, VB bv, VB bv, VB bv, VP g4 22, VI am, VB bA, VB bA, VB bA]) (by kernel_rfl) (by kernel_rfl) ?_ ?_ rfl hS ⟨be, (bR w3)⟩ ?_ ?_
 ·exact bs2
 ·exact .v (.v (.v (.v (.v (.v (.v (.v (.v (.v (.v (.v (.v (.v (.v (.v (.v (.v (.v (.v (.v (.v (.v (.v (.v (.v (.v (.v (.v (.v (.v (.v (.v (.v (.v (.v (.v (.v (.v (.v (.v (.v (.v (.v (.v (.v (.v (.v (.v (.v (.v (.v (.v (.v (.v (.v (.v (.v (.v (.v (.v (.v (.v (.v (.nil))))))))))))))))))))))))))))))))))))))))))))))))))))))))))))))))
 ·refine .on rfl (fun a w hS hI hp => does_loadrow rfl (hS.get 0 rfl) (((hI.2).block g4 (blk_lt aa)).trans aa) Try.underlying28 rfl (by kernel_rfl) rfl) ?_
  refine .on rfl (fun a w hS hI hp => does_call (by kernel_rfl) (ar1 (hp.V 0 rfl rfl)) ((header_Check.calls (w := _) (h := bl)).mono fun _ _ h => ⟨_, h.1, h.2, rfl⟩)) ?_
  refine .mv 1 rfl rfl rfl ?_
  iterate 2 refine .oy 2 5 rfl rfl c1 (fun a w hS hI hp => does_loadrow rfl (hS.get 0 rfl) (((hI.2).block g4 (blk_lt aa)).trans aa) Try.underlying28 rfl (by kernel_rfl) rfl) ?_
  refine .oy 2 5 rfl rfl c1 (fun a w hS hI hp => does_call (by kernel_rfl) (ar1 (hp.V 4 rfl rfl)) ((body_own.calls (w := _) (h := bo)).mono fun _ _ h => ⟨_, h.1, h.2, rfl⟩)) ?_
  refine .oy 2 5 rfl rfl c1 (fun a w hS hI hp => does_val (x_bin rfl (hp.V 3 rfl rfl) (hp.V 5 rfl rfl) (body_Check.eql28 _ _ _ aq ar au av aw ax ay az ap an ab ac ad ae af ag ah ao aj ai ak al am aO aP aQ aR aS aT aU aV aW aA aB aC aD aE aF aG aH aI aJ aK aL aM aN)) rfl) ?_
  refine .pt 2 6 rfl rfl rfl c1 rfl ?_
  refine .mv 7 rfl rfl rfl ?_
  refine .oy 8 11 rfl rfl c2 (fun a w hS hI hp => does_val (x_fieldE (b := 0) rfl (hS.get 0 rfl) Try.underlying28 rfl rfl (by kernel_rfl)) rfl) ?_
  refine .oy 8 11 rfl rfl c2 (fun a w hS hI hp => does_val (x_load1 (d := .int .i64) rfl (hp.V 9 rfl rfl) (by kernel_rfl) rfl ((blk_cell (((hI.2).block g4 (blk_lt aa)).trans aa) 8).trans rfl)) rfl) ?_
  refine .oy 8 11 rfl rfl c2 (fun a w hS hI hp => does_call (by kernel_rfl) (ar1 (hp.V 10 rfl rfl)) ((stamp_May.calls ap t8 _  br).mono fun _ _ h => ⟨_, h.1, h.2.below, rfl⟩)) ?_
  refine .pt 8 11 rfl rfl rfl c2 rfl ?_
  refine .mv 12 rfl rfl rfl ?_
  refine .oy 13 16 rfl rfl c3 (fun a w hS hI hp => does_val (x_fieldE (b := 0) rfl (hS.get 0 rfl) Try.underlying28 rfl rfl (by kernel_rfl)) rfl) ?_
  refine .oy 13 16 rfl rfl c3 (fun a w hS hI hp => does_loadmid (cs := [.int .u64 an, .int .i64 ab]) rfl (hp.V 14 rfl rfl) (((hI.2).block g4 (blk_lt aa)).trans aa) (by kernel_rfl) Try.underlying24 rfl (by kernel_rfl) rfl) ?_
  refine .oy 13 16 rfl rfl c3 (fun a w hS hI hp => does_call (by kernel_rfl) (ar1 (hp.V 15 rfl rfl)) ((ident_May.calls an ab t9 _  bs).mono fun _ _ h => ⟨_, h.1, h.2, rfl⟩)) ?_
  refine .pt 13 16 rfl rfl rfl c3 rfl ?_
  refine .mv 17 rfl rfl rfl ?_
  refine .oy 18 21 rfl rfl c4 (fun a w hS hI hp => does_val (x_fieldE (b := 0) rfl (hS.get 0 rfl) Try.underlying28 rfl rfl (by kernel_rfl)) rfl) ?_
  refine .oy 18 21 rfl rfl c4 (fun a w hS hI hp => does_val (x_load1 (d := .int .i64) rfl (hp.V 19 rfl rfl) (by kernel_rfl) rfl ((blk_cell (((hI.2).block g4 (blk_lt aa)).trans aa) 11).trans rfl)) rfl) ?_
  refine .oy 18 21 rfl rfl c4 (fun a w hS hI hp => does_call (by kernel_rfl) (ar3 (hp.V 20 rfl rfl) (rfl) (rfl)) ((body_in.calls ac (-32768) 32767 aY _  bn).mono fun _ _ h => ⟨_, h.1, h.2.below, rfl⟩)) ?_
  refine .pt 18 21 rfl rfl rfl c4 rfl ?_
  refine .mv 22 rfl rfl rfl ?_
  refine .oy 23 26 rfl rfl c5 (fun a w hS hI hp => does_val (x_fieldE (b := 0) rfl (hS.get 0 rfl) Try.underlying28 rfl rfl (by kernel_rfl)) rfl) ?_
  refine .oy 23 26 rfl rfl c5 (fun a w hS hI hp => does_val (x_load1 (d := .int .i64) rfl (hp.V 24 rfl rfl) (by kernel_rfl) rfl ((blk_cell (((hI.2).block g4 (blk_lt aa)).trans aa) 12).trans rfl)) rfl) ?_
  refine .oy 23 26 rfl rfl c5 (fun a w hS hI hp => does_call (by kernel_rfl) (ar3 (hp.V 25 rfl rfl) (rfl) (rfl)) ((body_in.calls ad 0 255 aZ _  bq).mono fun _ _ h => ⟨_, h.1, h.2.below, rfl⟩)) ?_
  refine .pt 23 26 rfl rfl rfl c5 rfl ?_
  refine .mv 27 rfl rfl rfl ?_
  refine .oy 28 31 rfl rfl c6 (fun a w hS hI hp => does_val (x_fieldE (b := 0) rfl (hS.get 0 rfl) Try.underlying28 rfl rfl (by kernel_rfl)) rfl) ?_
  refine .oy 28 31 rfl rfl c6 (fun a w hS hI hp => does_val (x_load1 (d := .int .i64) rfl (hp.V 29 rfl rfl) (by kernel_rfl) rfl ((blk_cell (((hI.2).block g4 (blk_lt aa)).trans aa) 16).trans rfl)) rfl) ?_
  refine .oy 28 31 rfl rfl c6 (fun a w hS hI hp => does_call (by kernel_rfl) (ar3 (hp.V 30 rfl rfl) (rfl) (rfl)) ((body_in.calls ah 0 255 bb _  bt).mono fun _ _ h => ⟨_, h.1, h.2.below, rfl⟩)) ?_
  refine .pt 28 31 rfl rfl rfl c6 rfl ?_
  refine .mv 32 rfl rfl rfl ?_
  refine .oy 33 36 rfl rfl c7 (fun a w hS hI hp => does_val (x_fieldE (b := 0) rfl (hS.get 0 rfl) Try.underlying28 rfl rfl (by kernel_rfl)) rfl) ?_
  refine .oy 33 36 rfl rfl c7 (fun a w hS hI hp => does_val (x_load1 (d := .int .i64) rfl (hp.V 34 rfl rfl) (by kernel_rfl) rfl ((blk_cell (((hI.2).block g4 (blk_lt aa)).trans aa) 19).trans rfl)) rfl) ?_
  refine .oy 33 36 rfl rfl c7 (fun a w hS hI hp => does_call (by kernel_rfl) (ar3 (hp.V 35 rfl rfl) (rfl) (rfl)) ((body_in.calls ai 0 255 bc _  bw).mono fun _ _ h => ⟨_, h.1, h.2.below, rfl⟩)) ?_
  refine .pt 33 36 rfl rfl rfl c7 rfl ?_
  refine .mv 37 rfl rfl rfl ?_
  refine .oy 38 41 rfl rfl c8 (fun a w hS hI hp => does_val (x_fieldE (b := 0) rfl (hS.get 0 rfl) Try.underlying28 rfl rfl (by kernel_rfl)) rfl) ?_
  refine .oy 38 41 rfl rfl c8 (fun a w hS hI hp => does_loadmid (cs := [.int .i64 ae, .int .i64 af, .int .i64 ag]) rfl (hp.V 39 rfl rfl) (((hI.2).block g4 (blk_lt aa)).trans aa) (by kernel_rfl) Try.underlying26 rfl (by kernel_rfl) rfl) ?_
  refine .oy 38 41 rfl rfl c8 (fun a w hS hI hp => does_call (by kernel_rfl) (ar1 (hp.V 40 rfl rfl)) ((quality_May.calls ae af ag bf _  bz).mono fun _ _ h => ⟨_, h.1, h.2, rfl⟩)) ?_
  refine .pt 38 41 rfl rfl rfl c8 rfl ?_
  refine .mv 42 rfl rfl rfl ?_
  refine .oy 43 46 rfl rfl c9 (fun a w hS hI hp => does_val (x_fieldE (b := 0) rfl (hS.get 0 rfl) Try.underlying28 rfl rfl (by kernel_rfl)) rfl) ?_
  refine .oy 43 46 rfl rfl c9 (fun a w hS hI hp => does_val (x_load1 (d := .int .i64) rfl (hp.V 44 rfl rfl) (by kernel_rfl) rfl ((blk_cell (((hI.2).block g4 (blk_lt aa)).trans aa) 18).trans rfl)) rfl) ?_
  refine .oy 43 46 rfl rfl c9 (fun a w hS hI hp => does_call (by kernel_rfl) (ar3 (hp.V 45 rfl rfl) (rfl) (rfl)) ((body_in.calls aj 0 65535 bi _  bB).mono fun _ _ h => ⟨_, h.1, h.2.below, rfl⟩)) ?_
  refine .pt 43 46 rfl rfl rfl c9 rfl ?_
  refine .mv 47 rfl rfl rfl ?_
  refine .oy 48 51 rfl rfl bj (fun a w hS hI hp => does_val (x_fieldE (b := 0) rfl (hS.get 0 rfl) Try.underlying28 rfl rfl (by kernel_rfl)) rfl) ?_
  refine .oy 48 51 rfl rfl bj (fun a w hS hI hp => does_val (x_load1 (d := .int .i64) rfl (hp.V 49 rfl rfl) (by kernel_rfl) rfl ((blk_cell (((hI.2).block g4 (blk_lt aa)).trans aa) 20).trans rfl)) rfl) ?_
  refine .oy 48 51 rfl rfl bj (fun a w hS hI hp => does_call (by kernel_rfl) (ar3 (hp.V 50 rfl rfl) (rfl) (rfl)) ((body_in.calls ak 0 255 bm _  bC).mono fun _ _ h => ⟨_, h.1, h.2.below, rfl⟩)) ?_
  refine .pt 48 51 rfl rfl rfl bj rfl ?_
  refine .mv 52 rfl rfl rfl ?_
  refine .oy 53 56 rfl rfl bp (fun a w hS hI hp => does_val (x_fieldE (b := 0) rfl (hS.get 0 rfl) Try.underlying28 rfl rfl (by kernel_rfl)) rfl) ?_
  refine .oy 53 56 rfl rfl bp (fun a w hS hI hp => does_val (x_load1 (d := .int .i64) rfl (hp.V 54 rfl rfl) (by kernel_rfl) rfl ((blk_cell (((hI.2).block g4 (blk_lt aa)).trans aa) 21).trans rfl)) rfl) ?_
  refine .oy 53 56 rfl rfl bp (fun a w hS hI hp => does_call (by kernel_rfl) (ar3 (hp.V 55 rfl rfl) (rfl) (rfl)) ((body_in.calls al 0 255 bv _  bD).mono fun _ _ h => ⟨_, h.1, h.2.below, rfl⟩)) ?_
  refine .pt 53 56 rfl rfl rfl bp rfl ?_
  refine .mv 57 rfl rfl rfl ?_
  refine .oy 58 61 rfl rfl bx (fun a w hS hI hp => does_val (x_fieldE (b := 0) rfl (hS.get 0 rfl) Try.underlying28 rfl rfl (by kernel_rfl)) rfl) ?_
  refine .oy 58 61 rfl rfl bx (fun a w hS hI hp => does_val (x_load1 (d := .int .i64) rfl (hp.V 59 rfl rfl) (by kernel_rfl) rfl ((blk_cell (((hI.2).block g4 (blk_lt aa)).trans aa) 22).trans rfl)) rfl) ?_
  refine .oy 58 61 rfl rfl bx (fun a w hS hI hp => does_call (by kernel_rfl) (ar3 (hp.V 60 rfl rfl) (rfl) (rfl)) ((body_in.calls am 0 15 bA _  bE).mono fun _ _ h => ⟨_, h.1, h.2.below, rfl⟩)) ?_
  refine .pt 58 61 rfl rfl rfl bx rfl ?_
  refine .asg 62 rfl rfl rfl ?_
  exact .nil
 clear hS
 intro cc cq hS bP hp
 replace hS := hS.nil
 have aX : sl _ 2 = .bool bA := hp 63 (by decide)
 have hS := hS.cons aX
 clear hp aX
 refine bd _ _ ?_
 refine wp_ret ?_
 (try simp only [Exit.then, Exit.inBlock, Exit.jump, Exit.noGoto])
 exact bodyPost_ret (v := .bool bA) (results_single rfl (Vals.at (hS.get 0 rfl) .nil)) hS.nodef ⟨rfl, bP.1⟩
def octets_Put.bytes (v : Int) : Nat → List Int
  | 0 => []
  | n + 1 => (v / 256 ^ n) % 256 :: octets_Put.bytes v n
theorem octets_Put.bytes_length (v : Int) (n : Nat) : (octets_Put.bytes v n).length = n := by
  induction n with
  | zero => rfl
  | succ n ih => simp [octets_Put.bytes, ih]
def octets_Put.f (l0 : List Int) (a1 : Int) (a2 : Int) : Option (List Int) :=
  if 1 ≤ a2 ∧ l0.length ≤ 140737488355320 then some (l0 ++ octets_Put.bytes a1 (mn a2 8).toNat) else none
theorem octets_Put.nat8 (a2 : Int) (h : 1 ≤ a2) : ∃ m : Nat, mn a2 8 = (m : Int) + 1 ∧ m ≤ 7 := by
  refine ⟨(mn a2 8 - 1).toNat, ?_, ?_⟩ <;> (unfold mn; split <;> omega)
theorem octets_Put.capped {P : Program} {ops : Array Oper} {rest : List Oper} {o : Oper} {a : Act} {Q : Exit → Act → World → Prop} {w0 W : World} (base : Nat) (hgd : o.guard = none) (s x : Operand) (t e : TypeId) (z : Value) (bytes : Nat)
    (ho : o.op = .call { callee := .builtin .append, args := #[s, x], argTypes := #[t, t] })
    (ht : P.underlying t = some (.slice e)) (hinfo : (P.info? e).map (fun i => (i.zero, i.size, i.bytes)) = some (some z, 1, bytes)) (hz : z.cells.size = 1) (hb0 : 0 < bytes) (k : IntKind)
    (A : Option Addr) (xs : List Int) (y : Int) (hs : a.eval s = .slice A xs.length xs.length) (hx : a.eval x = .slice (some ⟨W.heap.size, 0, none⟩) 1 1)
    (HR : Kd.C (Kd.int k) W A xs.length xs) (HB : Below base w0 W) (hbase : base ≤ W.heap.size) (hl : (xs.length + 1) * bytes ≤ 140737488355328)
    (h : ∀ v1 w1, Kd.R (Kd.int k) e w1 base (fun _ => True) v1 (xs ++ [y]) → Below base w0 w1 → wpList P ops Q rest (a.put o.dst v1) w1) :
    wpList P ops Q (o :: rest) a (W.alloc (.cells #[.int k y] e)) := by
  obtain ⟨i0, hi, hzz⟩ := Option.map_eq_some_iff.1 hinfo
  simp only [Prod.mk.injEq] at hzz
  obtain ⟨hz0, hz1, hz2⟩ := hzz
  have hlen : xs.length + 1 ≤ 140737488355328 := Nat.le_trans (Nat.le_mul_of_pos_right _ hb0) hl
  have hrd := Kd.reads_of_C (d := (0 : Int)) HR
  have hB2 : Below base w0 (W.alloc (.cells #[.int k y] e)) := HB.alloc hbase _
  refine wpList_append_grows (W.alloc (.cells #[.int k y] e)) hgd s x t ho e i0 z 1 bytes ht hi hz0 hz1 hz2 hz (by omega) A xs.length xs.length (encs (Value.int k) xs) hs ?_ (by simp [encs_length]) ?_ ⟨W.heap.size, 0, none⟩ 1 1 [.int k y] hx rfl (World.news_of_block (cs := #[.int k y]) (t := e) (fr := (0, 0)) (heap_alloc_new W _)) (by simp [Value.oneCell']) (by omega) (by simp only [maxLen]; omega) hl ?_
  · rintro rfl
    rcases Nat.eq_zero_or_pos xs.length with h0 | h0
    · exact ⟨h0, h0⟩
    · obtain ⟨ad, e1, _⟩ := hrd.2.2 h0
      cases e1
  · rintro b rfl j u hj
    have hjl : j < xs.length := by have := (List.getElem?_eq_some_iff.1 hj).1; simpa [encs_length] using this
    obtain ⟨ad, e1, hc⟩ := hrd.2.2 (by omega)
    injection e1 with e1
    subst e1
    have h1 := hc j hjl
    have h2 : u = .int k (xs.getD j 0) := by
      simp only [encs, List.getElem?_map, List.getElem?_eq_getElem hjl, Option.map_some, Option.some.injEq] at hj
      rw [← hj, List.getD_eq_getElem?_getD, List.getElem?_eq_getElem hjl]
      rfl
    rw [h2]
    exact pw_cell_below (below_alloc (Below.refl _ _) _) h1
  · intro v1 w1 hown hg
    have hown2 : w1.ownsRow base e 1 v1 (xs ++ [y]).length (encs (Value.int k) (xs ++ [y])) := by
      have h3 : encs (Value.int k) (xs ++ [y]) = encs (Value.int k) xs ++ [.int k y] := by simp [encs]
      rw [h3, List.length_append]
      exact own_weaken hown (by simp; omega)
    exact h v1 w1 (Kd.R_of_own hown2 (fun _ _ => trivial)) (pw_below_grown hB2 none (by simp; omega) hg (by simp))
set_option maxHeartbeats 1000000 in
set_option maxRecDepth 100000 in
theorem octets_Put.calls (A0 : Option Addr) (c0 : Nat) (l0 : List Int) (a1 : Int) (a2 : Int) (r : List Int) (w : World) (hr0 : Kd.C (Kd.int .u8) w A0 l0.length l0) (hc0 : l0.length ≤ c0) (h : octets_Put.f l0 a1 a2 = some r) :
    Calls Try.prog 39 #[.slice A0 l0.length c0, .int .i64 a1, .int .i64 a2] w fun e w' => ∃ v0_ : Value, e = .returned (v0_) ∧ Kd.R (Kd.int .u8) 5 w' w.heap.size (fun _ => True) v0_ r ∧ Below w.heap.size w w' := by
  obtain ⟨m, hm, hm7⟩ : ∃ m : Nat, mn a2 8 = (m : Int) + 1 ∧ m ≤ 7 := octets_Put.nat8 a2 (by
    unfold octets_Put.f at h
    split at h
    · rename_i hh; exact hh.1
    · cases h)
  have Hm := Aside0.mk hm
  have Hl : Aside0 ((l0.length + 1) * 1 ≤ 140737488355328) := ⟨by
    unfold octets_Put.f at h
    split at h
    · rename_i hh; omega
    · cases h⟩
  have hm_ : (if 8 < a2 then 8 else a2) = (m : Int) + 1 := hm
  have hx_ : (if 0 < (m : Int) + 1 then (m : Int) + 1 else 0) = (m : Int) + 1 := if_pos (by omega)
  clear hm
  go_enter Try.func39, Try.ntmps39
  go_wp2
  refine wp_scope_jumps 0 (fun a' w' => ∃ (i : Nat) (u t8 t9 t10 t11 t12 t13 t14 t15 t16 t17 t18 t19 t20 t21 t22 t23 t24 t25 t26 t27 t28 t29 : Value) (xs : List Int), a' = { tmps := #[u, .int .i64 a1, .int .i64 a2, undef, undef, undef, .slice none 0 0, .int .i64 i, t8, t9, t10, t11, t12, t13, t14, t15, t16, t17, t18, t19, t20, t21, t22, t23, t24, t25, t26, t27, t28, t29], defers := [] } ∧ i ≤ m ∧ Aside0 (xs ++ octets_Put.bytes a1 i = l0 ++ octets_Put.bytes a1 (m + 1)) ∧ Aside0 (Kd.R (Kd.int .u8) 5 w' w.heap.size (fun _ => True) u xs) ∧ Aside0 (Below w.heap.size w w')) (fun a' _ => match a'.tmps.getD 7 undef with | .int _ q => q.toNat | _ => 0) rfl ?_ ?_
  · go_wp2
    clear hm_ hx_
    have HR := Aside0.mk hr0
    clear hr0
    go_step3
    go_wp2_with ((with_reducible refine gate_builtin (b := .append) (xs := #[.tmp 21, .tmp 27]) rfl ?_); at_builtin; refine octets_Put.capped (w0 := w) w.heap.size rfl (.tmp 21) (.tmp 27) 36 5 (.int .u8 0) 1 rfl Try.underlying36 info5 rfl (by omega) .u8 A0 l0 _ rfl rfl HR.out (Below.refl _ _) (Nat.le_refl _) ?aL ?_; (case aL => exact Hl.out); intro v1 w1 hR hB; have HR1 := Aside0.mk hR; have HB1 := Aside0.mk hB; clear hR hB)
    go_step3
    refine ⟨rfl, m, v1, _, _, _, _, _, _, _, _, _, _, _, _, _, _, _, _, _, _, _, _, _, _, l0 ++ [a1 / 256 ^ m % 256], rfl, Nat.le_refl _, ⟨by simp [octets_Put.bytes]⟩, ⟨?_⟩, HB1⟩
    have e1 : (2 : Int) ^ (8 * m) = 256 ^ m := by rw [Int.pow_mul]; rfl
    rw [← e1]
    exact HR1.out
  · rintro a' w' ⟨i, u, t8, t9, t10, t11, t12, t13, t14, t15, t16, t17, t18, t19, t20, t21, t22, t23, t24, t25, t26, t27, t28, t29, xs, rfl, him, HX, HR, HB⟩
    clear hm_ hx_ hr0
    cases i with
    | zero =>
      go_wp2
      simp only [Exit.jump]
      go_ret
      refine ⟨u, rfl, ?_, HB.out⟩
      have hx : xs = r := by
        have h1 := HX.out
        unfold octets_Put.f at h
        split at h
        · injection h with h
          rw [Hm.out] at h
          have h2 : ((m : Int) + 1).toNat = m + 1 := by omega
          rw [h2] at h
          rw [← h, ← h1]
          simp [octets_Put.bytes]
        · cases h
      rw [← hx]
      exact HR.out
    | succ i =>
      have Hlx : Aside0 ((xs.length + 1) * 1 ≤ 140737488355328) := ⟨by
        have h1 := congrArg List.length HX.out
        simp only [List.length_append, octets_Put.bytes_length] at h1
        unfold octets_Put.f at h
        split at h
        · rename_i hh; omega
        · cases h⟩
      go_wp2_with ((with_reducible refine gate_builtin (b := .append) (xs := #[.tmp 21, .tmp 27]) rfl ?_); at_builtin; refine print_append_of (w0 := w) (Value.int .u8) w.heap.size rfl (.tmp 21) (.tmp 27) 36 5 (.int .u8 0) 1 rfl Try.underlying36 info5 rfl (by omega) u xs _ rfl rfl rfl (Kd.own_of_R HR.out) HB.out (below_size HB.out) Hlx.out ?_; intro v1 w1 hown hB hg hat; have HR1 := Aside0.mk hown; have HB1 := Aside0.mk hB; clear hown hB hg hat)
      go_step3
      refine ⟨rfl, ⟨i, v1, _, _, _, _, _, _, _, _, _, _, _, _, _, _, _, _, _, _, _, _, _, _, xs ++ [a1 / 256 ^ i % 256], rfl, by omega, ⟨by rw [← HX.out]; simp [octets_Put.bytes]⟩, ⟨?_⟩, HB1⟩, ?_⟩
      · have e1 : (2 : Int) ^ (8 * i) = 256 ^ i := by rw [Int.pow_mul]; rfl
        rw [← e1]
        exact Kd.R_of_own HR1.out (fun _ _ => trivial)
      · simp
def stamp_Put.f (l0 : List Int) (a1 : Int) : Option (List Int) := (stamp_May.f a1).bind fun t104 => (if t104 = true then ((octets_Put.f l0 (wrap64 (Int.tdiv a1 1000000000)) 6).bind fun t105 => ((octets_Put.f t105 (Int.tmod a1 1000000000) 4).bind fun t108 => (some t108))) else ((octets_Put.f l0 ((0 : Int) / 1000000000) 6).bind fun t111 => ((octets_Put.f t111 ((0 : Int) % 1000000000) 4).bind fun t114 => (some t114))))
set_option maxHeartbeats 8000000 in
set_option maxRecDepth 100000 in
theorem stamp_Put.calls (A0 : Option Addr) (c0 : Nat) (l0 : List Int) (a1 : Int) (r : List Int) (w : World) (hr0 : Kd.C (Kd.int .u8) w A0 l0.length l0) (hc0 : l0.length ≤ c0) (h : stamp_Put.f l0 a1 = some r) :
    Calls Try.prog 36 #[.slice A0 l0.length c0, .int .i64 a1] w fun e w' => ∃ v0_ : Value, e = .returned (v0_) ∧ Kd.R (Kd.int .u8) 5 w' w.heap.size (fun _ => True) v0_ r ∧ Below w.heap.size w w' := by
  have HR0 := Aside0.mk hr0
  have HC0 := Aside0.mk hc0
  clear hr0 hc0
  have HB := Aside0.mk (Below.refl w.heap.size w)
  have H : ((stamp_May.f a1).bind fun t104 => (if t104 = true then ((octets_Put.f l0 (wrap64 (Int.tdiv a1 1000000000)) 6).bind fun t105 => ((octets_Put.f t105 (Int.tmod a1 1000000000) 4).bind fun t108 => (some t108))) else ((octets_Put.f l0 ((0 : Int) / 1000000000) 6).bind fun t111 => ((octets_Put.f t111 ((0 : Int) % 1000000000) 4).bind fun t114 => (some t114))))) = some r := h
  clear h
  replace H := Option.bind_eq_some_iff.mp H
  obtain ⟨t104, A30, H⟩ := H
  replace H : (if t104 = true then ((octets_Put.f l0 (wrap64 (Int.tdiv a1 1000000000)) 6).bind fun t105 => ((octets_Put.f t105 (Int.tmod a1 1000000000) 4).bind fun t108 => (some t108))) else ((octets_Put.f l0 ((0 : Int) / 1000000000) 6).bind fun t111 => ((octets_Put.f t111 ((0 : Int) % 1000000000) 4).bind fun t114 => (some t114)))) = some r := H
  have A3 := Aside0.mk A30
  clear A30
  by_cases c4 : t104 = true
  · subst c4
    have H1 : ((octets_Put.f l0 (wrap64 (Int.tdiv a1 1000000000)) 6).bind fun t105 => ((octets_Put.f t105 (Int.tmod a1 1000000000) 4).bind fun t108 => (some t108))) = some r := by rw [if_pos rfl] at H; exact H
    clear H
    have H := H1
    clear H1
    replace H := Option.bind_eq_some_iff.mp H
    obtain ⟨t105, A50, H⟩ := H
    replace H : ((octets_Put.f t105 (Int.tmod a1 1000000000) 4).bind fun t108 => (some t108)) = some r := H
    have A5 := Aside0.mk A50
    clear A50
    replace H := Option.bind_eq_some_iff.mp H
    obtain ⟨t108, A60, H⟩ := H
    replace H : (some t108) = some r := H
    have A6 := Aside0.mk A60
    clear A60
    obtain rfl := Option.some.inj H
    go_enter Try.func36, Try.ntmps36
    go_wp2_with (first | ((with_reducible refine gate_callee (f := 75) rfl ?_); refine goesL_ (some 6) rfl rfl Try.func75 (by kernel_rfl) rfl #[.int .i64 a1] rfl (by (try simp only [List.map_toArray, List.map_cons, List.map_nil]); first | done | rfl | (simp only [List.length_drop, List.length_take]; rfl)) ?_; (with_reducible refine (stamp_May.calls a1 true _ A3.out).mono ?_); rintro e w' ⟨rfl, ⟨nd, rfl⟩⟩; refine ⟨_, rfl, ?_⟩) | ((with_reducible refine gate_callee (f := 39) rfl ?_); refine goesL_ (some 11) rfl rfl Try.func39 (by kernel_rfl) rfl #[.slice A0 l0.length c0, .int .i64 (wrap64 (Int.tdiv a1 1000000000)), .int .i64 6] rfl (by (try simp only [List.map_toArray, List.map_cons, List.map_nil]); first | done | rfl | (simp only [List.length_drop, List.length_take]; rfl)) ?_; (with_reducible refine (octets_Put.calls _ _ l0 (wrap64 (Int.tdiv a1 1000000000)) 6 t105 _ ?side1 ?side2 A5.out).mono ?_); (case side1 => repeat (first | exact HR0.out | (with_reducible refine Kd.C_alloc ?_ _) | (with_reducible refine Kd.C_drewN ?_ _) | (with_reducible refine Kd.C_drew ?_))); (case side2 => exact HC0.out); rintro e w7 ⟨v106, rfl, ho0, hb⟩; refine ⟨_, rfl, ?_⟩; have n0_ := Aside0.mk (Kd.R_lower ho0 (below_size (by repeat (first | (with_reducible first | exact HB.out | apply below_alloc | apply pw_below_drewN | apply below_drew1) | exact HB.out)))); have n1_ := Aside0.mk (below_step (by repeat (first | (with_reducible first | exact HB.out | apply below_alloc | apply pw_below_drewN | apply below_drew1) | exact HB.out)) hb); clear HB; have HO107 := n0_; have HB := n1_; clear n0_ n1_; (try clear hb); (try clear hb2); (try clear hk); (try clear hi); (try clear ho0); obtain ⟨Ao8, co8, eo8⟩ := Kd.R_slice HO107.out; subst eo8) | ((with_reducible refine gate_callee (f := 39) rfl ?_); refine goesL_ (some 14) rfl rfl Try.func39 (by kernel_rfl) rfl #[.slice Ao8 t105.length co8, .int .i64 (Int.tmod a1 1000000000), .int .i64 4] rfl (by (try simp only [List.map_toArray, List.map_cons, List.map_nil]); first | done | rfl | (simp only [List.length_drop, List.length_take]; rfl)) ?_; (with_reducible refine (octets_Put.calls _ _ t105 (Int.tmod a1 1000000000) 4 t108 _ ?side1 ?side2 A6.out).mono ?_); (case side1 => repeat (first | exact (Kd.R_reads' HO107.out).2.2 | (with_reducible refine Kd.C_alloc ?_ _) | (with_reducible refine Kd.C_drewN ?_ _) | (with_reducible refine Kd.C_drew ?_))); (case side2 => exact (Kd.R_reads' HO107.out).2.1); rintro e w9 ⟨v109, rfl, ho0, hb⟩; refine ⟨_, rfl, ?_⟩; have n0_ := Aside0.mk (Kd.R_elder' (by (with_reducible repeat (first | apply Kd.R_alloc | apply Kd.R_drewN | apply Kd.R_drew)); exact HO107.out) (Kd.R_base ho0) hb); have n1_ := Aside0.mk (Kd.R_lower (Kd.R_new' ho0 (Kd.R_lt (by (with_reducible repeat (first | apply Kd.R_alloc | apply Kd.R_drewN | apply Kd.R_drew)); exact HO107.out))) (below_size (by repeat (first | (with_reducible first | exact HB.out | apply below_alloc | apply pw_below_drewN | apply below_drew1) | exact HB.out)))); have n2_ := Aside0.mk (below_step (by repeat (first | (with_reducible first | exact HB.out | apply below_alloc | apply pw_below_drewN | apply below_drew1) | exact HB.out)) hb); clear HO107; clear HB; have HO107 := n0_; have HO110 := n1_; have HB := n2_; clear n0_ n1_ n2_; (try clear hb); (try clear hb2); (try clear hk); (try clear hi); (try clear ho0)))
    all_goals
      go_ret
      exact ⟨_, by first | rfl | (simp [errW_none, errW_some] <;> rfl) | (simp [*, errW_none, errW_some] <;> rfl), by (with_reducible repeat (first | apply Kd.R_alloc | apply Kd.R_drewN | apply Kd.R_drew)); exact Kd.R_mono HO110.out (fun _ hk => trivial), by repeat (first | (with_reducible first | exact HB.out | apply below_alloc | apply pw_below_drewN | apply below_drew1) | exact HB.out)⟩
  · replace c4 := Bool.eq_false_iff.mpr c4
    subst c4
    have H1 : ((octets_Put.f l0 ((0 : Int) / 1000000000) 6).bind fun t111 => ((octets_Put.f t111 ((0 : Int) % 1000000000) 4).bind fun t114 => (some t114))) = some r := by rw [if_neg (show ¬ (false = true) by decide)] at H; exact H
    clear H
    have H := H1
    clear H1
    replace H := Option.bind_eq_some_iff.mp H
    obtain ⟨t111, A100, H⟩ := H
    replace H : ((octets_Put.f t111 ((0 : Int) % 1000000000) 4).bind fun t114 => (some t114)) = some r := H
    have A10 := Aside0.mk A100
    clear A100
    replace H := Option.bind_eq_some_iff.mp H
    obtain ⟨t114, A110, H⟩ := H
    replace H : (some t114) = some r := H
    have A11 := Aside0.mk A110
    clear A110
    obtain rfl := Option.some.inj H
    go_enter Try.func36, Try.ntmps36
    go_wp2_with (first | ((with_reducible refine gate_callee (f := 75) rfl ?_); refine goesL_ (some 6) rfl rfl Try.func75 (by kernel_rfl) rfl #[.int .i64 a1] rfl (by (try simp only [List.map_toArray, List.map_cons, List.map_nil]); first | done | rfl | (simp only [List.length_drop, List.length_take]; rfl)) ?_; (with_reducible refine (stamp_May.calls a1 false _ A3.out).mono ?_); rintro e w' ⟨rfl, ⟨nd, rfl⟩⟩; refine ⟨_, rfl, ?_⟩) | ((with_reducible refine gate_callee (f := 39) rfl ?_); refine goesL_ (some 11) rfl rfl Try.func39 (by kernel_rfl) rfl #[.slice A0 l0.length c0, .int .i64 ((0 : Int) / 1000000000), .int .i64 6] rfl (by (try simp only [List.map_toArray, List.map_cons, List.map_nil]); first | done | rfl | (simp only [List.length_drop, List.length_take]; rfl)) ?_; (with_reducible refine (octets_Put.calls _ _ l0 ((0 : Int) / 1000000000) 6 t111 _ ?side1 ?side2 A10.out).mono ?_); (case side1 => repeat (first | exact HR0.out | (with_reducible refine Kd.C_alloc ?_ _) | (with_reducible refine Kd.C_drewN ?_ _) | (with_reducible refine Kd.C_drew ?_))); (case side2 => exact HC0.out); rintro e w12 ⟨v112, rfl, ho0, hb⟩; refine ⟨_, rfl, ?_⟩; have n0_ := Aside0.mk (Kd.R_lower ho0 (below_size (by repeat (first | (with_reducible first | exact HB.out | apply below_alloc | apply pw_below_drewN | apply below_drew1) | exact HB.out)))); have n1_ := Aside0.mk (below_step (by repeat (first | (with_reducible first | exact HB.out | apply below_alloc | apply pw_below_drewN | apply below_drew1) | exact HB.out)) hb); clear HB; have HO113 := n0_; have HB := n1_; clear n0_ n1_; (try clear hb); (try clear hb2); (try clear hk); (try clear hi); (try clear ho0); obtain ⟨Ao13, co13, eo13⟩ := Kd.R_slice HO113.out; subst eo13) | ((with_reducible refine gate_callee (f := 39) rfl ?_); refine goesL_ (some 14) rfl rfl Try.func39 (by kernel_rfl) rfl #[.slice Ao13 t111.length co13, .int .i64 ((0 : Int) % 1000000000), .int .i64 4] rfl (by (try simp only [List.map_toArray, List.map_cons, List.map_nil]); first | done | rfl | (simp only [List.length_drop, List.length_take]; rfl)) ?_; (with_reducible refine (octets_Put.calls _ _ t111 ((0 : Int) % 1000000000) 4 t114 _ ?side1 ?side2 A11.out).mono ?_); (case side1 => repeat (first | exact (Kd.R_reads' HO113.out).2.2 | (with_reducible refine Kd.C_alloc ?_ _) | (with_reducible refine Kd.C_drewN ?_ _) | (with_reducible refine Kd.C_drew ?_))); (case side2 => exact (Kd.R_reads' HO113.out).2.1); rintro e w14 ⟨v115, rfl, ho0, hb⟩; refine ⟨_, rfl, ?_⟩; have n0_ := Aside0.mk (Kd.R_elder' (by (with_reducible repeat (first | apply Kd.R_alloc | apply Kd.R_drewN | apply Kd.R_drew)); exact HO113.out) (Kd.R_base ho0) hb); have n1_ := Aside0.mk (Kd.R_lower (Kd.R_new' ho0 (Kd.R_lt (by (with_reducible repeat (first | apply Kd.R_alloc | apply Kd.R_drewN | apply Kd.R_drew)); exact HO113.out))) (below_size (by repeat (first | (with_reducible first | exact HB.out | apply below_alloc | apply pw_below_drewN | apply below_drew1) | exact HB.out)))); have n2_ := Aside0.mk (below_step (by repeat (first | (with_reducible first | exact HB.out | apply below_alloc | apply pw_below_drewN | apply below_drew1) | exact HB.out)) hb); clear HO113; clear HB; have HO113 := n0_; have HO116 := n1_; have HB := n2_; clear n0_ n1_ n2_; (try clear hb); (try clear hb2); (try clear hk); (try clear hi); (try clear ho0)))
    all_goals
      go_ret
      exact ⟨_, by first | rfl | (simp [errW_none, errW_some] <;> rfl) | (simp [*, errW_none, errW_some] <;> rfl), by (with_reducible repeat (first | apply Kd.R_alloc | apply Kd.R_drewN | apply Kd.R_drew)); exact Kd.R_mono HO116.out (fun _ hk => trivial), by repeat (first | (with_reducible first | exact HB.out | apply below_alloc | apply pw_below_drewN | apply below_drew1) | exact HB.out)⟩
def octets_PutId.f (l0 : List Int) (a1 : Int) : Option (List Int) := (octets_Put.f l0 (wrap64 (a1)) 8).bind fun t117 => (some t117)
set_option maxHeartbeats 8000000 in
set_option maxRecDepth 100000 in
theorem octets_PutId.calls (A0 : Option Addr) (c0 : Nat) (l0 : List Int) (a1 : Int) (r : List Int) (w : World) (hr0 : Kd.C (Kd.int .u8) w A0 l0.length l0) (hc0 : l0.length ≤ c0) (h : octets_PutId.f l0 a1 = some r) :
    Calls Try.prog 41 #[.slice A0 l0.length c0, .int .u64 a1] w fun e w' => ∃ v0_ : Value, e = .returned (v0_) ∧ Kd.R (Kd.int .u8) 5 w' w.heap.size (fun _ => True) v0_ r ∧ Below w.heap.size w w' := by
  have HR0 := Aside0.mk hr0
  have HC0 := Aside0.mk hc0
  clear hr0 hc0
  have HB := Aside0.mk (Below.refl w.heap.size w)
  have H : ((octets_Put.f l0 (wrap64 (a1)) 8).bind fun t117 => (some t117)) = some r := h
  clear h
  replace H := Option.bind_eq_some_iff.mp H
  obtain ⟨t117, A30, H⟩ := H
  replace H : (some t117) = some r := H
  have A3 := Aside0.mk A30
  clear A30
  obtain rfl := Option.some.inj H
  go_enter Try.func41, Try.ntmps41
  go_wp2_with (first | ((with_reducible refine gate_callee (f := 39) rfl ?_); refine goesL_ (some 8) rfl rfl Try.func39 (by kernel_rfl) rfl #[.slice A0 l0.length c0, .int .i64 (wrap64 (a1)), .int .i64 8] rfl (by (try simp only [List.map_toArray, List.map_cons, List.map_nil]); first | done | rfl | (simp only [List.length_drop, List.length_take]; rfl)) ?_; (with_reducible refine (octets_Put.calls _ _ l0 (wrap64 (a1)) 8 t117 _ ?side1 ?side2 A3.out).mono ?_); (case side1 => repeat (first | exact HR0.out | (with_reducible refine Kd.C_alloc ?_ _) | (with_reducible refine Kd.C_drewN ?_ _) | (with_reducible refine Kd.C_drew ?_))); (case side2 => exact HC0.out); rintro e w4 ⟨v118, rfl, ho0, hb⟩; refine ⟨_, rfl, ?_⟩; have n0_ := Aside0.mk (Kd.R_lower ho0 (below_size (by repeat (first | (with_reducible first | exact HB.out | apply below_alloc | apply pw_below_drewN | apply below_drew1) | exact HB.out)))); have n1_ := Aside0.mk (below_step (by repeat (first | (with_reducible first | exact HB.out | apply below_alloc | apply pw_below_drewN | apply below_drew1) | exact HB.out)) hb); clear HB; have HO119 := n0_; have HB := n1_; clear n0_ n1_; (try clear hb); (try clear hb2); (try clear hk); (try clear hi); (try clear ho0)))
  all_goals
    go_ret
    exact ⟨_, by first | rfl | (simp [errW_none, errW_some] <;> rfl) | (simp [*, errW_none, errW_some] <;> rfl), by (with_reducible repeat (first | apply Kd.R_alloc | apply Kd.R_drewN | apply Kd.R_drew)); exact HO119.out, by repeat (first | (with_reducible first | exact HB.out | apply below_alloc | apply pw_below_drewN | apply below_drew1) | exact HB.out)⟩
def ident_Put.f (l0 : List Int) (a1_0 : Int) (a1_1 : Int) : Option (List Int) := (octets_PutId.f l0 a1_0).bind fun t121 => ((octets_Put.f t121 a1_1 2).bind fun t124 => (some t124))
def ident_Put.T1 : Bool × List (List Nat × List Nat) := (true, [([], []), ([], []), ([1], [1]), ([0, 2], [0, 2]), ([], []), ([4], [4]), ([3, 5, 3], [3, 5]), ([6, 6, 0, 1, 2, 3, 4, 5, 6], [6])])
def ident_Put.B1 : List Nat := [0, 0, 2, 7, 0, 16, 63, 127]
theorem ident_Put.tab1 : rtab .any (opsOf Try.f38 1) = ident_Put.T1 := by kernel_rfl
theorem ident_Put.bits1 : waitsOk ident_Put.T1.2 ident_Put.B1 = true := by kernel_rfl
set_option maxHeartbeats 8000000 in
set_option maxRecDepth 100000 in
theorem ident_Put.calls (A0 : Option Addr) (c0 : Nat) (l0 : List Int) (a1_0 : Int) (a1_1 : Int) (r : List Int) (w : World) (hr0 : Kd.C (Kd.int .u8) w A0 l0.length l0) (hc0 : l0.length ≤ c0) (h : ident_Put.f l0 a1_0 a1_1 = some r) :
    Calls Try.prog 38 #[.slice A0 l0.length c0, .agg #[.int .u64 a1_0, .int .i64 a1_1]] w fun e w' => ∃ v0_ : Value, e = .returned (v0_) ∧ Kd.R (Kd.int .u8) 5 w' w.heap.size (fun _ => True) v0_ r ∧ Below w.heap.size w w' := by
  have hu24 := Try.underlying24
  have HR0 := Aside0.mk hr0
  have HC0 := Aside0.mk hc0
  clear hr0 hc0
  have HB := Aside0.mk (Below.refl w.heap.size w)
  have H : ((octets_PutId.f l0 a1_0).bind fun t121 => ((octets_Put.f t121 a1_1 2).bind fun t124 => (some t124))) = some r := h
  clear h
  replace H := Option.bind_eq_some_iff.mp H
  obtain ⟨t121, A30, H⟩ := H
  replace H : ((octets_Put.f t121 a1_1 2).bind fun t124 => (some t124)) = some r := H
  have A3 := Aside0.mk A30
  clear A30
  replace H := Option.bind_eq_some_iff.mp H
  obtain ⟨t124, A40, H⟩ := H
  replace H : (some t124) = some r := H
  have A4 := Aside0.mk A40
  clear A40
  obtain rfl := Option.some.inj H
  go_enter Try.func38, Try.ntmps38
  try go_wp2_with (first | ((with_reducible refine gate_dst (N := 3) rfl ?_); refine box_event ?hg (N := 3) ?hd (cs := #[.int .u64 a1_0, .int .i64 a1_1]) (t := 24) ?hr ?_; (case hd => rfl); (case hg => rfl); (case hr => first | (go_simp; done) | (go_simp; rfl)); intro gb120 hg w5 hbox hb; have n0_ := Aside0.mk (below_step (by repeat (first | (with_reducible first | exact HB.out | apply below_alloc | apply pw_below_drewN | apply below_drew1) | exact HB.out)) hb); have n1_ := Aside0.mk (hbox); have n2_ := Aside0.mk ((by rw [hg]; exact (below_size (by repeat (first | (with_reducible first | exact HB.out | apply below_alloc | apply pw_below_drewN | apply below_drew1) | exact HB.out))) : w.heap.size ≤ gb120)); have n3_ := Aside0.mk ((by rw [hg]; exact (below_size (by repeat (first | (with_reducible first | exact HB.out | apply below_alloc | apply pw_below_drewN | apply below_drew1) | exact HB.out))) : w.heap.size ≤ gb120)); clear HB; have HB := n0_; have BK120 := n1_; have GW120 := n2_; have GE120 := n3_; clear n0_ n1_ n2_ n3_; clear hb hbox hg))
  have n0_ := Aside0.mk (blk_drew BK120.out)
  have n1_ := Aside0.mk (below_drew1 HB.out)
  clear BK120
  clear HB
  have BK120 := n0_
  have HB := n1_
  clear n0_ n1_
  refine start_ (n := 8) (S := fun w' => w'.cell? ⟨gb120, 0, none⟩ = some (.int .u64 a1_0) ∧ w'.cell? ⟨gb120, 1, none⟩ = some (.int .i64 a1_1)) (ds := []) #[false, false, false, false, false, false, false, false] (by kernel_rfl) rfl rfl ⟨(blk_cell BK120.out 0).trans rfl, (blk_cell BK120.out 1).trans rfl⟩ (fun hHeld => ?_); refine with_tabW ident_Put.tab1 ident_Put.bits1 (fun HT_ HW_ => ?_)
  generalize w5.drew = w6 at BK120 HB hHeld ⊢
  refine pure_ (i := 0) (N := some 5) (v := ?_) (a' := ?_) #[true, false, false, false, false, false, false, false] rfl rfl (any_of HT_.out (by kernel_rfl)) (fun _ _ _ h => h) (Or.inl ⟨by rfl, ?_⟩) ?_ ?_
  rotate_left
  · intro w'
    go_simp
    with_reducible rfl
  rotate_left
  · simp only [Act.put, List.setIfInBounds_toArray, List.set_cons_zero, List.set_cons_succ, i64_w, i32_w]
    rfl
  refine pure_ (i := 1) (N := some 6) (v := ?_) (a' := ?_) #[true, true, false, false, false, false, false, false] rfl rfl (any_of HT_.out (by kernel_rfl)) (fun _ _ _ h => h) (Or.inl ⟨by rfl, ?_⟩) ?_ ?_
  rotate_left
  · intro w'
    go_simp
    with_reducible rfl
  rotate_left
  · simp only [Act.put, List.setIfInBounds_toArray, List.set_cons_zero, List.set_cons_succ, i64_w, i32_w]
    rfl
  refine pure_ (i := 4) (N := some 9) (v := ?_) (a' := ?_) #[true, true, false, false, true, false, false, false] rfl rfl (any_of HT_.out (by kernel_rfl)) (fun _ _ _ h => h) (Or.inl ⟨by rfl, ?_⟩) ?_ ?_
  rotate_left
  · intro w'
    go_simp
    with_reducible rfl
  rotate_left
  · simp only [Act.put, List.setIfInBounds_toArray, List.set_cons_zero, List.set_cons_succ, i64_w, i32_w]
    rfl
  refine take_ (i := 2) (N := some 7) (v := ?_) (a' := ?_) #[true, true, true, false, true, false, false, false] rfl rfl (take_ofW HT_.out HW_.out (by kernel_rfl)) (fun _ _ _ h => h) (Or.inl ⟨by rfl, ?_⟩) hHeld ?_ ?_
  rotate_left
  · rintro w' ⟨s0, s1⟩
    go_simp
    with_reducible rfl
  rotate_left
  · simp only [Act.put, List.setIfInBounds_toArray, List.set_cons_zero, List.set_cons_succ, i64_w, i32_w]
    rfl
  refine take_ (i := 5) (N := some 10) (v := ?_) (a' := ?_) #[true, true, true, false, true, true, false, false] rfl rfl (take_ofW HT_.out HW_.out (by kernel_rfl)) (fun _ _ _ h => h) (Or.inl ⟨by rfl, ?_⟩) hHeld ?_ ?_
  rotate_left
  · rintro w' ⟨s0, s1⟩
    go_simp
    with_reducible rfl
  rotate_left
  · simp only [Act.put, List.setIfInBounds_toArray, List.set_cons_zero, List.set_cons_succ, i64_w, i32_w]
    rfl
  refine one_ (i := 3) (N := some 8) #[true, true, true, true, true, true, false, false] rfl rfl (one_of HT_.out (by kernel_rfl)) (by decide) (fun K hK => ?_)
  refine goes_ Try.func41 (by kernel_rfl) rfl #[.slice A0 l0.length c0, .int .u64 a1_0] (by rfl) rfl rfl (by (try simp only [List.map_toArray, List.map_cons, List.map_nil]); first | done | rfl | (simp only [List.length_drop, List.length_take]; rfl)) ?_
  with_reducible refine (octets_PutId.calls _ _ l0 a1_0 t121 _ ?side1 ?side2 A3.out).mono ?_
  (case side1 => repeat (first | exact (Kd.C_below HR0.out HB.out) | (with_reducible refine Kd.C_alloc ?_ _) | (with_reducible refine Kd.C_drewN ?_ _) | (with_reducible refine Kd.C_drew ?_)))
  (case side2 => exact HC0.out)
  rintro e w7 ⟨v122, rfl, ho0, hb⟩
  refine ⟨_, rfl, ?_⟩
  have n0_ := Aside0.mk (Kd.R_lower ho0 (below_size (by repeat (first | (with_reducible first | exact HB.out | apply below_alloc | apply pw_below_drewN | apply below_drew1 | refine below_set ?_ GE120.out) | exact HB.out))))
  have n1_ := Aside0.mk (blk_below (g := gb120) (o := .cells #[.int .u64 a1_0, .int .i64 a1_1] 24 (0, 0)) (by (with_reducible repeat (first | refine blk_drewN ?_ _ | refine blk_drew ?_ | refine blk_alloc ?_ _)); exact BK120.out) hb)
  have n2_ := Aside0.mk (below_step (by repeat (first | (with_reducible first | exact HB.out | apply below_alloc | apply pw_below_drewN | apply below_drew1 | refine below_set ?_ GE120.out) | exact HB.out)) hb)
  clear BK120
  clear HB
  have HO123 := n0_
  have BK120 := n1_
  have HB := n2_
  clear n0_ n1_ n2_
  (try clear hb)
  (try clear hb2)
  (try clear hk)
  (try clear hi)
  (try clear ho0)
  obtain ⟨Ao8, co8, eo8⟩ := Kd.R_slice HO123.out
  (first | subst eo8 | (injection eo8 with f1_ f2_ f3_; have f4_ := f1_.symm; have f5_ := f3_.symm; clear f1_ f2_ f3_; subst f4_; subst f5_))
  refine hK.out _ _ ⟨(blk_cell BK120.out 0).trans rfl, (blk_cell BK120.out 1).trans rfl⟩ (fun hHeld => ?_)
  clear hK K
  refine norm_ (a' := ?_) ?_ ?_
  rotate_left
  · show Act.put _ (some 8) _ = _
    simp only [Act.put, List.setIfInBounds_toArray, List.set_cons_zero, List.set_cons_succ, i64_w, i32_w]
    rfl
  refine one_ (i := 6) (N := some 11) #[true, true, true, true, true, true, true, false] rfl rfl (one_of HT_.out (by kernel_rfl)) (by decide) (fun K hK => ?_)
  refine goes_ Try.func39 (by kernel_rfl) rfl #[.slice Ao8 t121.length co8, .int .i64 a1_1, .int .i64 2] (by rfl) rfl rfl (by (try simp only [List.map_toArray, List.map_cons, List.map_nil]); first | done | rfl | (simp only [List.length_drop, List.length_take]; rfl)) ?_
  with_reducible refine (octets_Put.calls _ _ t121 a1_1 2 t124 _ ?side1 ?side2 A4.out).mono ?_
  (case side1 => repeat (first | exact (Kd.R_reads' HO123.out).2.2 | (with_reducible refine Kd.C_alloc ?_ _) | (with_reducible refine Kd.C_drewN ?_ _) | (with_reducible refine Kd.C_drew ?_)))
  (case side2 => exact (Kd.R_reads' HO123.out).2.1)
  rintro e w9 ⟨v125, rfl, ho0, hb⟩
  refine ⟨_, rfl, ?_⟩
  have n0_ := Aside0.mk (Kd.R_elder' (by (with_reducible repeat (first | apply Kd.R_alloc | apply Kd.R_drewN | apply Kd.R_drew)); exact HO123.out) (Kd.R_base ho0) hb)
  have n1_ := Aside0.mk (Kd.R_lower (Kd.R_new' ho0 (Kd.R_lt (by (with_reducible repeat (first | apply Kd.R_alloc | apply Kd.R_drewN | apply Kd.R_drew)); exact HO123.out))) (below_size (by repeat (first | (with_reducible first | exact HB.out | apply below_alloc | apply pw_below_drewN | apply below_drew1 | refine below_set ?_ GE120.out) | exact HB.out))))
  have n2_ := Aside0.mk (blk_below (g := gb120) (o := .cells #[.int .u64 a1_0, .int .i64 a1_1] 24 (0, 0)) (by (with_reducible repeat (first | refine blk_drewN ?_ _ | refine blk_drew ?_ | refine blk_alloc ?_ _)); exact BK120.out) hb)
  have n3_ := Aside0.mk (below_step (by repeat (first | (with_reducible first | exact HB.out | apply below_alloc | apply pw_below_drewN | apply below_drew1 | refine below_set ?_ GE120.out) | exact HB.out)) hb)
  clear HO123
  clear BK120
  clear HB
  have HO123 := n0_
  have HO126 := n1_
  have BK120 := n2_
  have HB := n3_
  clear n0_ n1_ n2_ n3_
  (try clear hb)
  (try clear hb2)
  (try clear hk)
  (try clear hi)
  (try clear ho0)
  refine hK.out _ _ ⟨(blk_cell BK120.out 0).trans rfl, (blk_cell BK120.out 1).trans rfl⟩ (fun hHeld => ?_)
  clear hK K
  refine norm_ (a' := ?_) ?_ ?_
  rotate_left
  · show Act.put _ (some 11) _ = _
    simp only [Act.put, List.setIfInBounds_toArray, List.set_cons_zero, List.set_cons_succ, i64_w, i32_w]
    rfl
  refine pure_ (i := 7) (N := some 4) (v := ?_) (a' := ?_) #[true, true, true, true, true, true, true, true] rfl rfl (any_of HT_.out (by kernel_rfl)) (fun _ _ _ h => h) (Or.inl ⟨by rfl, ?_⟩) ?_ ?_
  rotate_left
  · intro w'
    go_simp
    with_reducible rfl
  rotate_left
  · simp only [Act.put, List.setIfInBounds_toArray, List.set_cons_zero, List.set_cons_succ, i64_w, i32_w]
    rfl
  refine done_ (done_of HT_.out (by kernel_rfl)) ?_
  try go_wp2
  all_goals
    go_ret
    exact ⟨_, by first | rfl | (simp [errW_none, errW_some] <;> rfl) | (simp [*, errW_none, errW_some] <;> rfl), by (with_reducible repeat (first | apply Kd.R_alloc | apply Kd.R_drewN | apply Kd.R_drew)); exact Kd.R_mono HO126.out (fun _ hk => trivial), by repeat (first | (with_reducible first | exact HB.out | apply below_alloc | apply pw_below_drewN | apply below_drew1 | refine below_set ?_ GE120.out) | exact HB.out)⟩
end Go.Proofs.Ytiomlbkakiienaa.P
