/- Functions and loops of the given program as Lean functions, and that the code comes to what they say: written by this session's own program; Lean checks it. -/
import Derived.Test.YtiomlbkakiienaaZzPx0
import Derived.Test.YtiomlbkakiienaaZzPx1
import Derived.Test.YtiomlbkakiienaaZzPx4
namespace Go.Proofs.Ytiomlbkakiienaa.P
open Go.RowKit Go.Proofs.YtiomlbkakiienaaW.PrintWords Go.Proofs.YtiomlbkakiienaaW.PrintLast Go.Proofs.YtiomlbkakiienaaW.PrintMore
attribute [local go_sem] max2_int min2_int max_two min_two max_three min_three max_four min_four   -- for this text's walks alone
set_option linter.unusedVariables false
set_option linter.unusedSimpArgs false
def header_Get.f (k : Nat) (l0 : List Int) : Option (Int × Int × Int × Int × Int × Int × Int × Int × Int × Int × Int × Int × Int × Int × Int × Int × Int × Int × Int × Int × Int × Int × Int × Int × Int) := if (l0.length : Int) < 34 then (none) else ((octets_Get.f k l0 2 2).bind fun t10 => (if 0 < (l0.length : Int) then ((header_Known.f k (wrap64 (rd l0 0))).bind fun t15 => (if t15 = true then (if 1 < (l0.length : Int) then (if (Go.bits .and .u8 (rd l0 1) 15) = 2 then ((header_in.f t10.1 34 400).bind fun t16 => (if t16 = true then (if (l0.length : Int) < t10.1 then (none) else (if (l0.length : Int) > t10.1 then (none) else (if 4 < (l0.length : Int) then ((octets_Get.f k l0 6 2).bind fun t31 => ((octets_Signed.f k l0 8 8).bind fun t36 => ((ident_Get.f k l0 20).bind fun t41 => ((octets_Get.f k l0 30 2).bind fun t46 => ((octets_Signed.f k l0 33 1).bind fun t51 => (some (wrap64 (rd l0 0), wrap64 (rd l0 4), t31.1, t36.1, t41.1, t41.2.1, t46.1, t51.1, 0, 0, 0, 0, 0, 0, 0, 0, 0, 0, 0, 0, 0, 0, 0, t10.1, 0))))))) else (none)))) else (none))) else (none)) else (none)) else (none))) else (none)))
abbrev header_Get.c0 (x0 x1 x2 x3 x4 x5 x6 x7 x8 x9 x10 x11 x12 x13 x14 x15 x16 x17 x18 x19 x20 x21 x22 : Int) : Array Value := #[.int .i64 x0, .int .i64 x1, .int .i64 x2, .int .i64 x3, .int .u64 x4, .int .i64 x5, .int .i64 x6, .int .i64 x7, .int .i64 x8, .int .u64 x9, .int .i64 x10, .int .i64 x11, .int .i64 x12, .int .i64 x13, .int .i64 x14, .int .i64 x15, .int .i64 x16, .int .u64 x17, .int .i64 x18, .int .i64 x19, .int .i64 x20, .int .i64 x21, .int .i64 x22]
abbrev header_Get.v1 (x0 x1 x2 x3 x4 x5 x6 x7 x8 x9 x10 x11 x12 x13 x14 x15 x16 x17 x18 x19 x20 x21 x22 : Int) : Value := .agg #[.int .i64 x0, .int .i64 x1, .int .i64 x2, .int .i64 x3, .int .u64 x4, .int .i64 x5, .int .i64 x6, .int .i64 x7, .int .i64 x8, .int .u64 x9, .int .i64 x10, .int .i64 x11, .int .i64 x12, .int .i64 x13, .int .i64 x14, .int .i64 x15, .int .i64 x16, .int .u64 x17, .int .i64 x18, .int .i64 x19, .int .i64 x20, .int .i64 x21, .int .i64 x22]
open Go.Proofs.Ytiomlbkakiienaa.E in
set_option maxHeartbeats 60000000 in
set_option maxRecDepth 100000 in
theorem header_Get.calls (k : Nat) (A0 : Option Addr) (ak : Nat) (l0 : List Int) (r1 r2 r3 r4 r5 r6 r7 r8 r9 db dc dd de df dg dh di dj dk dl dm dn dp dq dr : Int) (w : World) (HR0 : Kd.C (Kd.int .u8) w A0 l0.length l0) (HC0 : l0.length ≤ ak) (h : header_Get.f k l0 = some (r1, r2, r3, r4, r5, r6, r7, r8, r9, db, dc, dd, de, df, dg, dh, di, dj, dk, dl, dm, dn, dp, dq, dr)) :
    Calls Try.prog 28 #[.slice A0 l0.length ak] w fun e w' => e = .returned (.tuple #[.agg #[.int .i64 r1, .int .i64 r2, .int .i64 r3, .int .i64 r4, .int .u64 r5, .int .i64 r6, .int .i64 r7, .int .i64 r8, .int .i64 r9, .int .u64 db, .int .i64 dc, .int .i64 dd, .int .i64 de, .int .i64 df, .int .i64 dg, .int .i64 dh, .int .i64 di, .int .u64 dj, .int .i64 dk, .int .i64 dl, .int .i64 dm, .int .i64 dn, .int .i64 dp], .int .i64 dq, .int .i64 dr]) ∧ Below w.heap.size w w' := by
 have H := h
 clear h
 unfold header_Get.f at H
 by_cases c1 : (l0.length : Int) < 34
 ·rw [if_pos c1] at H; exact absurd H (by simp)
 rw [if_neg c1] at H
 obtain ⟨cc, bK, H⟩ := Option.bind_eq_some_iff.mp H
 obtain ⟨aa, ar⟩ := cc
 (try dsimp only at H)
 by_cases c2 : 0 < (l0.length : Int)
 rotate_left
 ·rw [if_neg c2] at H; exact absurd H (by simp)
 rw [if_pos c2] at H
 obtain ⟨aT, bL, H⟩ := Option.bind_eq_some_iff.mp H
 by_cases c3 : aT = true
 rotate_left
 ·rw [if_neg c3] at H; exact absurd H (by simp)
 rw [if_pos c3] at H
 by_cases c4 : 1 < (l0.length : Int)
 rotate_left
 ·rw [if_neg c4] at H; exact absurd H (by simp)
 rw [if_pos c4] at H
 by_cases c5 : (Go.bits .and .u8 (rd l0 1) 15) = 2
 rotate_left
 ·rw [if_neg c5] at H; exact absurd H (by simp)
 rw [if_pos c5] at H
 obtain ⟨aB, bM, H⟩ := Option.bind_eq_some_iff.mp H
 by_cases c6 : aB = true
 rotate_left
 ·rw [if_neg c6] at H; exact absurd H (by simp)
 rw [if_pos c6] at H
 by_cases c7 : (l0.length : Int) < aa
 ·rw [if_pos c7] at H; exact absurd H (by simp)
 rw [if_neg c7] at H
 by_cases c8 : (l0.length : Int) > aa
 ·rw [if_pos c8] at H; exact absurd H (by simp)
 rw [if_neg c8] at H
 by_cases c9 : 4 < (l0.length : Int)
 rotate_left
 ·rw [if_neg c9] at H; exact absurd H (by simp)
 rw [if_pos c9] at H
 obtain ⟨cd, bN, H⟩ := Option.bind_eq_some_iff.mp H
 obtain ⟨ac, aw⟩ := cd
 (try dsimp only at H)
 obtain ⟨ce, bO, H⟩ := Option.bind_eq_some_iff.mp H
 obtain ⟨ad, ax⟩ := ce
 (try dsimp only at H)
 obtain ⟨cf, bP, H⟩ := Option.bind_eq_some_iff.mp H
 obtain ⟨af, ag, ay⟩ := cf
 (try dsimp only at H)
 obtain ⟨cg, bQ, H⟩ := Option.bind_eq_some_iff.mp H
 obtain ⟨ah, az⟩ := cg
 (try dsimp only at H)
 obtain ⟨ch, bS, H⟩ := Option.bind_eq_some_iff.mp H
 obtain ⟨ai, aA⟩ := ch
 (try dsimp only at H)
 simp only [Option.some.injEq, Prod.mk.injEq] at H
 obtain ⟨rfl, rfl, rfl, rfl, rfl, rfl, rfl, rfl, rfl, rfl, rfl, rfl, rfl, rfl, rfl, rfl, rfl, rfl, rfl, rfl, rfl, rfl, rfl, rfl, rfl⟩ := H
 refine calls_of_wp (fn := Try.f28) (by kernel_rfl) rfl ?_
 have hS := St.enter #[.slice A0 l0.length ak] 90 (by simp) [(0, .slice A0 l0.length ak)] (by simp)
 have b6 := Below.refl w.heap.size w
 refine wp_seq_k (fun K1 b7 => ?_)
 refine reg_seq (I := I1_ w) (ps := [IsB (header_Get.c0 0 0 0 0 0 0 0 0 0 0 0 0 0 0 0 0 0 0 0 0 0 0 0) 28 w.heap.size, VI 0, VI 0]) (by kernel_rfl) ?_ ?_ rfl hS b6 ?_ ?_
 ·exact bs1
 ·exact .cons (Stays.b _ _ _) (.v (.v (.nil)))
 ·refine .on rfl (fun a w hS hI hp => does_var (x_alloc rfl (by kernel_rfl)) (hI).size) ?_
  iterate 2 refine .on rfl (fun a w hS hI hp => does_val (x_assign rfl (rfl)) rfl) ?_
  exact .nil
 clear hS
 intro cS w3 hS cb hp
 obtain ⟨g4, bv, bt, aC⟩ := (show IsB _ 28 _ (sl _ 2) _ from hp 0 (by decide))
 have hS := hS.cons bv
 clear hp bv
 refine b7 _ _ ?_
 refine wp_seq_k (fun K5 b8 => ?_)
 refine wp_seq_k (fun K6 b9 => ?_)
 refine reg_seq (I := I2_ w w3) (ps := [IsV (.slice A0 l0.length ak), VI (l0.length : Int), VB (decide ((l0.length : Int) < 34))]) (by kernel_rfl) ?_ ?_ rfl hS ⟨cb, (bR w3)⟩ ?_ ?_
 ·exact bs2
 ·exact .v (.v (.v (.nil)))
 ·refine .ms 1 rfl rfl rfl ?_
  refine .on rfl (fun a w hS hI hp => does_val (x_len (e := 5) rfl (by kernel_rfl) (hp.V 0 rfl rfl)) rfl) ?_
  refine .on rfl (fun a w hS hI hp => does_val (x_bin rfl (hp.V 1 rfl rfl) (rfl) (b_lss _ _ _ _ _ _)) rfl) ?_
  exact .nil
 clear hS
 intro cT w8 hS bz hp
 have a9 : sl _ 10 = .bool (decide ((l0.length : Int) < 34)) := hp 2 (by decide)
 have hS := hS.cons a9
 clear hp a9
 refine b9 _ _ ?_
 refine wp_cond_false ((hS.get 0 rfl).trans (bF (decide_eq_false c1))) ?_
 refine wp_skip ?_
 refine b8 _ _ ?_
 refine wp_seq_k (fun K9 ca => ?_)
 refine reg_seq (I := I3_ w w3 w8) (ps := [IsV (.slice A0 l0.length ak), IsV (.tuple #[.int .i64 aa, .bool ar]), IsV (.tuple #[.int .i64 aa, .bool ar]), VI aa, VB ar, VI aa, VB ar]) (by kernel_rfl) ?_ ?_ rfl hS ⟨bz.1, bz.2, (bR w8)⟩ ?_ ?_
 ·exact bs3
 ·exact .v (.v (.v (.v (.v (.v (.v (.nil)))))))
 ·refine .ms 2 rfl rfl rfl ?_
  refine .on rfl (fun a w hS hI hp => does_call (by kernel_rfl) (ar3 (hp.V 0 rfl rfl) (rfl) (rfl)) ((octets_Get.calls k _ _ l0 2 2 aa ar _ (Kd.C_below HR0 hI.1) HC0 bK).mono fun _ _ h => ⟨_, h.1, h.2.below, rfl⟩)) ?_
  refine .mv 1 rfl rfl rfl ?_
  iterate 2 refine .on rfl (fun a w hS hI hp => does_val (x_extract rfl (hp.V 2 rfl rfl) rfl) rfl) ?_
  refine .asg 3 rfl rfl rfl ?_
  refine .asg 4 rfl rfl rfl ?_
  exact .nil
 clear hS
 intro cl bA hS bq hp
 replace hS := ((hS.nil).cons (hS.get 2 rfl)).cons (hS.get 1 rfl)
 have bw : sl _ 5 = .int .i64 aa := hp 5 (by decide)
 have hS := hS.cons bw
 clear hp bw
 refine ca _ _ ?_
 refine wp_seq_k (fun cH bT => ?_)
 refine wp_block ?_
 refine wp_seq_k (fun cI bU => ?_)
 refine reg_seq (I := I3_ w w3 bA) (ps := [IsV (.slice A0 l0.length ak), IsA (.int .u8 (rd l0 0)), IsV (.int .u8 (rd l0 0)), VI (wrap64 (rd l0 0)), VB aT, VB (!aT), VB (!aT), IsV (.slice A0 l0.length ak), IsA (.int .u8 (rd l0 1)), IsV (.int .u8 (rd l0 1)), IsV (.int .u8 (Go.bits .and .u8 (rd l0 1) 15)), VB (!decide ((Go.bits .and .u8 (rd l0 1) 15) = 2)), VB (!decide ((Go.bits .and .u8 (rd l0 1) 15) = 2)), VB (!decide ((Go.bits .and .u8 (rd l0 1) 15) = 2)), VI aa, VB aB, VB (!aB), VB (!aB), VB (!aB)]) (by kernel_rfl) ?_ ?_ rfl hS ⟨bq.1, bq.2.1, (bR bA)⟩ ?_ ?_
 ·exact bs3
 ·exact .v (.cons (Stays.a _) (.v (.v (.v (.v (.v (.v (.cons (Stays.a _) (.v (.v (.v (.v (.v (.v (.v (.v (.v (.v (.nil)))))))))))))))))))
 ·refine .ms 2 rfl rfl rfl ?_
  refine .on rfl (fun a w hS hI hp => does_index (e := 5) (xs := l0) rfl (hp.V 0 rfl rfl) (rfl) (by kernel_rfl) (by kernel_rfl) (by decide) c2 c2 ((Kd.C_below HR0 hI.1))) ?_
  refine .on rfl (fun a w hS hI hp => (hp.V 1 rfl rfl).elim fun _ h_ => does_val (x_load1 (d := .int .u8) rfl h_.1 (by kernel_rfl) rfl h_.2.2) rfl) ?_
  refine .on rfl (fun a w hS hI hp => does_val ((i64_w (rd l0 0)) ▸ x_convI rfl (by kernel_rfl) (by kernel_rfl) (hp.V 2 rfl rfl)) rfl) ?_
  refine .on rfl (fun a w hS hI hp => does_call (by kernel_rfl) (ar1 (hp.V 3 rfl rfl)) ((header_Known.calls k (wrap64 (rd l0 0)) aT _  bL).mono fun _ _ h => ⟨_, h.1, h.2.below, rfl⟩)) ?_
  refine .on rfl (fun a w hS hI hp => does_val (x_not rfl (hp.V 4 rfl rfl)) rfl) ?_
  refine .mv 5 rfl rfl rfl ?_
  refine .oy 6 24 rfl rfl ((congrArg (!·) c3)) (fun a w hS hI hp => does_val (x_move rfl (hS.get 2 rfl)) rfl) ?_
  refine .oy 6 24 rfl rfl ((congrArg (!·) c3)) (fun a w hS hI hp => does_index (e := 5) (xs := l0) rfl (hp.V 7 rfl rfl) (rfl) (by kernel_rfl) (by kernel_rfl) (by decide) c4 c4 ((Kd.C_below HR0 hI.1))) ?_
  refine .oy 6 24 rfl rfl ((congrArg (!·) c3)) (fun a w hS hI hp => (hp.V 8 rfl rfl).elim fun _ h_ => does_val (x_load1 (d := .int .u8) rfl h_.1 (by kernel_rfl) rfl h_.2.2) rfl) ?_
  refine .oy 6 24 rfl rfl ((congrArg (!·) c3)) (fun a w hS hI hp => does_val (x_bin rfl (hp.V 9 rfl rfl) (rfl) (b_and _ _ _ _ _ _)) rfl) ?_
  refine .oy 6 24 rfl rfl ((congrArg (!·) c3)) (fun a w hS hI hp => does_val (x_bin rfl (hp.V 10 rfl rfl) (rfl) (b_neq _ _ _ _ _ _)) rfl) ?_
  refine .on rfl (fun a w hS hI hp => does_val (x_pickF rfl ((hp.V 6 rfl rfl).trans (bF (congrArg (!·) c3))) (hp.V 11 rfl rfl)) rfl) ?_
  refine .mv 12 rfl rfl rfl ?_
  refine .oy 13 31 rfl rfl ((congrArg (!·) (decide_eq_true c5))) (fun a w hS hI hp => does_val (x_move rfl (hS.get 0 rfl)) rfl) ?_
  refine .oy 13 31 rfl rfl ((congrArg (!·) (decide_eq_true c5))) (fun a w hS hI hp => does_call (by kernel_rfl) (ar3 (hp.V 14 rfl rfl) (rfl) (rfl)) ((header_in.calls aa 34 400 aB _  bM).mono fun _ _ h => ⟨_, h.1, h.2.below, rfl⟩)) ?_
  refine .oy 13 31 rfl rfl ((congrArg (!·) (decide_eq_true c5))) (fun a w hS hI hp => does_val (x_not rfl (hp.V 15 rfl rfl)) rfl) ?_
  refine .on rfl (fun a w hS hI hp => does_val (x_pickF rfl ((hp.V 13 rfl rfl).trans (bF (congrArg (!·) (decide_eq_true c5)))) (hp.V 16 rfl rfl)) rfl) ?_
  refine .asg 17 rfl rfl rfl ?_
  exact .nil
 clear hS
 intro cm bB hS br hp
 have ba : sl _ 17 = .bool (!aB) := hp 18 (by decide)
 have hS := hS.cons ba
 clear hp ba
 refine bU _ _ ?_
 refine wp_cond_false ((hS.get 0 rfl).trans (bF (congrArg (!·) c6))) ?_
 refine wp_seq_k (fun cJ bV => ?_)
 refine reg_seq (I := I3_ w w3 bB) (ps := [IsV (.slice A0 l0.length ak), VI (l0.length : Int), VI aa, VB (decide ((l0.length : Int) < aa)), VB (decide ((l0.length : Int) < aa))]) (by kernel_rfl) ?_ ?_ rfl hS ⟨br.1, br.2.1, (bR bB)⟩ ?_ ?_
 ·exact bs3
 ·exact .v (.v (.v (.v (.v (.nil)))))
 ·refine .ms 3 rfl rfl rfl ?_
  refine .on rfl (fun a w hS hI hp => does_val (x_len (e := 5) rfl (by kernel_rfl) (hp.V 0 rfl rfl)) rfl) ?_
  refine .ms 1 rfl rfl rfl ?_
  refine .on rfl (fun a w hS hI hp => does_val (x_bin rfl (hp.V 1 rfl rfl) (hp.V 2 rfl rfl) (b_lss _ _ _ _ _ _)) rfl) ?_
  refine .asg 3 rfl rfl rfl ?_
  exact .nil
 clear hS
 intro cn bC hS bs hp
 replace hS := (((hS.nil).cons (hS.get 3 rfl)).cons (hS.get 2 rfl)).cons (hS.get 1 rfl)
 have bb : sl _ 37 = .bool (decide ((l0.length : Int) < aa)) := hp 4 (by decide)
 have hS := hS.cons bb
 clear hp bb
 refine bV _ _ ?_
 refine wp_cond_false ((hS.get 0 rfl).trans (bF (decide_eq_false c7))) ?_
 refine wp_seq_k (fun cK bW => ?_)
 refine reg_seq (I := I3_ w w3 bC) (ps := [IsV (.slice A0 l0.length ak), VI (l0.length : Int), VI aa, VB (decide ((l0.length : Int) > aa)), VB (decide ((l0.length : Int) > aa))]) (by kernel_rfl) ?_ ?_ rfl hS ⟨bs.1, bs.2.1, (bR bC)⟩ ?_ ?_
 ·exact bs3
 ·exact .v (.v (.v (.v (.v (.nil)))))
 ·refine .ms 3 rfl rfl rfl ?_
  refine .on rfl (fun a w hS hI hp => does_val (x_len (e := 5) rfl (by kernel_rfl) (hp.V 0 rfl rfl)) rfl) ?_
  refine .ms 1 rfl rfl rfl ?_
  refine .on rfl (fun a w hS hI hp => does_val (x_bin rfl (hp.V 1 rfl rfl) (hp.V 2 rfl rfl) (b_gtr _ _ _ _ _ _)) rfl) ?_
  refine .asg 3 rfl rfl rfl ?_
  exact .nil
 clear hS
 intro co au hS aj hp
 replace hS := (((hS.nil).cons (hS.get 3 rfl)).cons (hS.get 2 rfl)).cons (hS.get 1 rfl)
 have bc : sl _ 43 = .bool (decide ((l0.length : Int) > aa)) := hp 4 (by decide)
 have hS := hS.cons bc
 clear hp bc
 refine bW _ _ ?_
 refine wp_cond_false ((hS.get 0 rfl).trans (bF (decide_eq_false c8))) ?_
 refine wp_skip ?_
 refine bT _ _ ?_
 refine wp_seq_k (fun cL bX => ?_)
 refine reg_any_tail 10 [0, 1, 3, 7, 0, 16, 48, 112, 255, 0, 1023] (I := I3_ w w3 au) (ps := [IsV (.slice A0 l0.length ak), IsA (.int .u8 (rd l0 0)), IsV (.int .u8 (rd l0 0)), VI (wrap64 (rd l0 0)), IsV (.slice A0 l0.length ak), IsA (.int .u8 (rd l0 4)), IsV (.int .u8 (rd l0 4)), VI (wrap64 (rd l0 4)), IsV ((header_Get.v1 (wrap64 (rd l0 0)) (wrap64 (rd l0 4)) 0 0 0 0 0 0 0 0 0 0 0 0 0 0 0 0 0 0 0 0 0)), IsB (header_Get.c0 0 0 0 0 0 0 0 0 0 0 0 0 0 0 0 0 0 0 0 0 0 0 0) 28 au.heap.size]) (by kernel_rfl) (by kernel_rfl) (by kernel_rfl) (by decide) ?_ ?_ rfl hS ⟨aj.1, aj.2.1, (bR au)⟩ ?_ ?_
 ·exact bs3
 ·exact .v (.cons (Stays.a _) (.v (.v (.v (.cons (Stays.a _) (.v (.v (.v (.cons (Stays.b _ _ _) (.nil))))))))))
 ·refine .ms 3 rfl rfl rfl ?_
  refine .on rfl (fun a w hS hI hp => does_index (e := 5) (xs := l0) rfl (hp.V 0 rfl rfl) (rfl) (by kernel_rfl) (by kernel_rfl) (by decide) c2 c2 ((Kd.C_below HR0 hI.1))) ?_
  refine .on rfl (fun a w hS hI hp => (hp.V 1 rfl rfl).elim fun _ h_ => does_val (x_load1 (d := .int .u8) rfl h_.1 (by kernel_rfl) rfl h_.2.2) rfl) ?_
  refine .on rfl (fun a w hS hI hp => does_val ((i64_w (rd l0 0)) ▸ x_convI rfl (by kernel_rfl) (by kernel_rfl) (hp.V 2 rfl rfl)) rfl) ?_
  refine .ms 3 rfl rfl rfl ?_
  refine .on rfl (fun a w hS hI hp => does_index (e := 5) (xs := l0) rfl (hp.V 4 rfl rfl) (rfl) (by kernel_rfl) (by kernel_rfl) (by decide) c9 c9 ((Kd.C_below HR0 hI.1))) ?_
  refine .on rfl (fun a w hS hI hp => (hp.V 5 rfl rfl).elim fun _ h_ => does_val (x_load1 (d := .int .u8) rfl h_.1 (by kernel_rfl) rfl h_.2.2) rfl) ?_
  refine .on rfl (fun a w hS hI hp => does_val ((i64_w (rd l0 4)) ▸ x_convI rfl (by kernel_rfl) (by kernel_rfl) (hp.V 6 rfl rfl)) rfl) ?_
  refine .on rfl (fun a w hS hI hp => does_val (x_build (vs := [(0, .int .i64 (wrap64 (rd l0 0))), (1, .int .i64 (wrap64 (rd l0 4)))]) rfl (by rw [Array.toList_map]; exact (show [(0, a.eval (.tmp 52)), (1, a.eval (.tmp 56))] = _ from (li_cons (hp.V 3 rfl rfl) (li_cons (hp.V 7 rfl rfl) rfl)))) (by kernel_rfl)) rfl) ?_
  refine .on rfl (fun a w hS hI hp => does_var (x_alloc rfl (by kernel_rfl)) (hI.2.2).size) ?_
  exact .nil
 clear hS
 intro cp ci hS av hp
 replace hS := (((hS.nil).cons (hS.get 3 rfl)).cons (hS.get 2 rfl)).cons (hS.get 1 rfl)
 have bd : sl _ 57 = (header_Get.v1 (wrap64 (rd l0 0)) (wrap64 (rd l0 4)) 0 0 0 0 0 0 0 0 0 0 0 0 0 0 0 0 0 0 0 0 0) := hp 8 (by decide)
 obtain ⟨ae, bx, ab, aM⟩ := (show IsB _ 28 _ (sl _ 7) _ from hp 9 (by decide))
 have hS := hS.cons bd
 have hS := hS.cons bx
 clear hp bd bx
 show wpList _ _ _ [_] _ _
 refine list_step rfl (does_storeAll (g := ae) (cs := (header_Get.c0 (wrap64 (rd l0 0)) (wrap64 (rd l0 4)) 0 0 0 0 0 0 0 0 0 0 0 0 0 0 0 0 0 0 0 0 0)) rfl (hS.get 0 rfl) (hS.get 1 rfl) (((bR ci).block ae (blk_lt aM)).trans aM) (by kernel_rfl) (by kernel_rfl) (by kernel_rfl)) ?_
 rintro cA bD ⟨rfl, aN, hT⟩
 have a0 := hT.below av.1 (Nat.le_trans (aj.1).size ab) (av.1).size
 have aU := hT.below av.2.1 (Nat.le_trans (aj.2.1).size ab) (av.2.1).size
 have aE := hT.below av.2.2 ab (av.2.2).size
 clear hT
 refine wpList_nil ?_
 refine bX _ _ ?_
 refine wp_seq_k (fun cM bY => ?_)
 refine reg_seq_tail 6 (I := I4_ w w3 au bD) (ps := [IsV (.slice A0 l0.length ak), IsV (.tuple #[.int .i64 ac, .bool aw]), IsV (.tuple #[.int .i64 ac, .bool aw]), VI ac, VB aw, VP ae 2]) (by kernel_rfl) ?_ ?_ rfl hS ⟨a0, aU, aE, (bR bD)⟩ ?_ ?_
 ·exact bs4
 ·exact .v (.v (.v (.v (.v (.v (.nil))))))
 ·refine .ms 4 rfl rfl rfl ?_
  refine .on rfl (fun a w hS hI hp => does_call (by kernel_rfl) (ar3 (hp.V 0 rfl rfl) (rfl) (rfl)) ((octets_Get.calls k _ _ l0 6 2 ac aw _ (Kd.C_below HR0 hI.1) HC0 bN).mono fun _ _ h => ⟨_, h.1, h.2.below, rfl⟩)) ?_
  refine .mv 1 rfl rfl rfl ?_
  iterate 2 refine .on rfl (fun a w hS hI hp => does_val (x_extract rfl (hp.V 2 rfl rfl) rfl) rfl) ?_
  refine .on rfl (fun a w hS hI hp => does_val (x_fieldE (b := 0) rfl (hS.get 0 rfl) Try.underlying28 rfl rfl (by kernel_rfl)) rfl) ?_
  exact .nil
 clear hS
 intro cq cU hS al hp
 replace hS := ((((hS.nil).cons (hS.get 4 rfl)).cons (hS.get 3 rfl)).cons (hS.get 2 rfl)).cons (hS.get 0 rfl)
 have be : sl _ 61 = .int .i64 ac := hp 3 (by decide)
 have bf : sl _ 63 = .pointer (some ⟨ae, 2, none⟩) := hp 5 (by decide)
 have hS := hS.cons be
 have hS := hS.cons bf
 clear hp be bf
 show wpList _ _ _ [_] _ _
 refine list_step rfl (does_store (g := ae) (off := 2) (v := .int .i64 ac) (new := (header_Get.c0 (wrap64 (rd l0 0)) (wrap64 (rd l0 4)) ac 0 0 0 0 0 0 0 0 0 0 0 0 0 0 0 0 0 0 0 0)) rfl (hS.get 0 rfl) (hS.get 1 rfl) ((al.2.2.2.block ae (blk_lt aN)).trans aN) (by kernel_rfl) (by kernel_rfl) (by kernel_rfl) (by kernel_rfl)) ?_
 rintro cB bE ⟨rfl, aO, hT⟩
 have a1 := hT.below al.1 (Nat.le_trans (aj.1).size ab) (al.1).size
 have aV := hT.below al.2.1 (Nat.le_trans (aj.2.1).size ab) (al.2.1).size
 have aF := hT.below al.2.2.1 ab (al.2.2.1).size
 clear hT
 refine wpList_nil ?_
 refine bY _ _ ?_
 refine wp_seq_k (fun cN bZ => ?_)
 refine reg_seq_tail 6 (I := I4_ w w3 au bE) (ps := [IsV (.slice A0 l0.length ak), IsV (.tuple #[.int .i64 ad, .bool ax]), IsV (.tuple #[.int .i64 ad, .bool ax]), VI ad, VB ax, VP ae 3]) (by kernel_rfl) ?_ ?_ rfl hS ⟨a1, aV, aF, (bR bE)⟩ ?_ ?_
 ·exact bs4
 ·exact .v (.v (.v (.v (.v (.v (.nil))))))
 ·refine .ms 5 rfl rfl rfl ?_
  refine .on rfl (fun a w hS hI hp => does_call (by kernel_rfl) (ar3 (hp.V 0 rfl rfl) (rfl) (rfl)) ((octets_Signed.calls k _ _ l0 8 8 ad ax _ (Kd.C_below HR0 hI.1) HC0 bO).mono fun _ _ h => ⟨_, h.1, h.2, rfl⟩)) ?_
  refine .mv 1 rfl rfl rfl ?_
  iterate 2 refine .on rfl (fun a w hS hI hp => does_val (x_extract rfl (hp.V 2 rfl rfl) rfl) rfl) ?_
  refine .on rfl (fun a w hS hI hp => does_val (x_fieldE (b := 0) rfl (hS.get 2 rfl) Try.underlying28 rfl rfl (by kernel_rfl)) rfl) ?_
  exact .nil
 clear hS
 intro cr cV hS am hp
 replace hS := ((((hS.nil).cons (hS.get 5 rfl)).cons (hS.get 4 rfl)).cons (hS.get 3 rfl)).cons (hS.get 2 rfl)
 have bg : sl _ 67 = .int .i64 ad := hp 3 (by decide)
 have bh : sl _ 69 = .pointer (some ⟨ae, 3, none⟩) := hp 5 (by decide)
 have hS := hS.cons bg
 have hS := hS.cons bh
 clear hp bg bh
 show wpList _ _ _ [_] _ _
 refine list_step rfl (does_store (g := ae) (off := 3) (v := .int .i64 ad) (new := (header_Get.c0 (wrap64 (rd l0 0)) (wrap64 (rd l0 4)) ac ad 0 0 0 0 0 0 0 0 0 0 0 0 0 0 0 0 0 0 0)) rfl (hS.get 0 rfl) (hS.get 1 rfl) ((am.2.2.2.block ae (blk_lt aO)).trans aO) (by kernel_rfl) (by kernel_rfl) (by kernel_rfl) (by kernel_rfl)) ?_
 rintro cC bG ⟨rfl, aP, hT⟩
 have a2 := hT.below am.1 (Nat.le_trans (aj.1).size ab) (am.1).size
 have aW := hT.below am.2.1 (Nat.le_trans (aj.2.1).size ab) (am.2.1).size
 have aG := hT.below am.2.2.1 ab (am.2.2.1).size
 clear hT
 refine wpList_nil ?_
 refine bZ _ _ ?_
 refine wp_seq_k (fun cO b0 => ?_)
 refine reg_seq_tail 6 (I := I4_ w w3 au bG) (ps := [IsV (.slice A0 l0.length ak), IsV (.tuple #[.agg #[.int .u64 af, .int .i64 ag], .bool ay]), IsV (.tuple #[.agg #[.int .u64 af, .int .i64 ag], .bool ay]), IsV (.agg #[.int .u64 af, .int .i64 ag]), VB ay, VP ae 4]) (by kernel_rfl) ?_ ?_ rfl hS ⟨a2, aW, aG, (bR bG)⟩ ?_ ?_
 ·exact bs4
 ·exact .v (.v (.v (.v (.v (.v (.nil))))))
 ·refine .ms 5 rfl rfl rfl ?_
  refine .on rfl (fun a w hS hI hp => does_call (by kernel_rfl) (ar2 (hp.V 0 rfl rfl) (rfl)) ((ident_Get.calls k _ _ l0 20 af ag ay _ (Kd.C_below HR0 hI.1) HC0 bP).mono fun _ _ h => ⟨_, h.1, h.2, rfl⟩)) ?_
  refine .mv 1 rfl rfl rfl ?_
  iterate 2 refine .on rfl (fun a w hS hI hp => does_val (x_extract rfl (hp.V 2 rfl rfl) rfl) rfl) ?_
  refine .on rfl (fun a w hS hI hp => does_val (x_fieldE (b := 0) rfl (hS.get 2 rfl) Try.underlying28 rfl rfl (by kernel_rfl)) rfl) ?_
  exact .nil
 clear hS
 intro ct cW hS an hp
 replace hS := ((((hS.nil).cons (hS.get 5 rfl)).cons (hS.get 4 rfl)).cons (hS.get 3 rfl)).cons (hS.get 2 rfl)
 have bi : sl _ 73 = .agg #[.int .u64 af, .int .i64 ag] := hp 3 (by decide)
 have bj : sl _ 75 = .pointer (some ⟨ae, 4, none⟩) := hp 5 (by decide)
 have hS := hS.cons bi
 have hS := hS.cons bj
 clear hp bi bj
 show wpList _ _ _ [_] _ _
 refine list_step rfl (does_store (g := ae) (off := 4) (v := .agg #[.int .u64 af, .int .i64 ag]) (new := (header_Get.c0 (wrap64 (rd l0 0)) (wrap64 (rd l0 4)) ac ad af ag 0 0 0 0 0 0 0 0 0 0 0 0 0 0 0 0 0)) rfl (hS.get 0 rfl) (hS.get 1 rfl) ((an.2.2.2.block ae (blk_lt aP)).trans aP) (by kernel_rfl) (by kernel_rfl) (by kernel_rfl) (by kernel_rfl)) ?_
 rintro cD bH ⟨rfl, aQ, hT⟩
 have a3 := hT.below an.1 (Nat.le_trans (aj.1).size ab) (an.1).size
 have aX := hT.below an.2.1 (Nat.le_trans (aj.2.1).size ab) (an.2.1).size
 have aH := hT.below an.2.2.1 ab (an.2.2.1).size
 clear hT
 refine wpList_nil ?_
 refine b0 _ _ ?_
 refine wp_seq_k (fun cP b1 => ?_)
 refine reg_seq_tail 6 (I := I4_ w w3 au bH) (ps := [IsV (.slice A0 l0.length ak), IsV (.tuple #[.int .i64 ah, .bool az]), IsV (.tuple #[.int .i64 ah, .bool az]), VI ah, VB az, VP ae 6]) (by kernel_rfl) ?_ ?_ rfl hS ⟨a3, aX, aH, (bR bH)⟩ ?_ ?_
 ·exact bs4
 ·exact .v (.v (.v (.v (.v (.v (.nil))))))
 ·refine .ms 5 rfl rfl rfl ?_
  refine .on rfl (fun a w hS hI hp => does_call (by kernel_rfl) (ar3 (hp.V 0 rfl rfl) (rfl) (rfl)) ((octets_Get.calls k _ _ l0 30 2 ah az _ (Kd.C_below HR0 hI.1) HC0 bQ).mono fun _ _ h => ⟨_, h.1, h.2.below, rfl⟩)) ?_
  refine .mv 1 rfl rfl rfl ?_
  iterate 2 refine .on rfl (fun a w hS hI hp => does_val (x_extract rfl (hp.V 2 rfl rfl) rfl) rfl) ?_
  refine .on rfl (fun a w hS hI hp => does_val (x_fieldE (b := 0) rfl (hS.get 2 rfl) Try.underlying28 rfl rfl (by kernel_rfl)) rfl) ?_
  exact .nil
 clear hS
 intro cu cX hS ao hp
 replace hS := ((((hS.nil).cons (hS.get 5 rfl)).cons (hS.get 4 rfl)).cons (hS.get 3 rfl)).cons (hS.get 2 rfl)
 have bk : sl _ 79 = .int .i64 ah := hp 3 (by decide)
 have bl : sl _ 81 = .pointer (some ⟨ae, 6, none⟩) := hp 5 (by decide)
 have hS := hS.cons bk
 have hS := hS.cons bl
 clear hp bk bl
 show wpList _ _ _ [_] _ _
 refine list_step rfl (does_store (g := ae) (off := 6) (v := .int .i64 ah) (new := (header_Get.c0 (wrap64 (rd l0 0)) (wrap64 (rd l0 4)) ac ad af ag ah 0 0 0 0 0 0 0 0 0 0 0 0 0 0 0 0)) rfl (hS.get 0 rfl) (hS.get 1 rfl) ((ao.2.2.2.block ae (blk_lt aQ)).trans aQ) (by kernel_rfl) (by kernel_rfl) (by kernel_rfl) (by kernel_rfl)) ?_
 rintro cE bI ⟨rfl, aR, hT⟩
 have a4 := hT.below ao.1 (Nat.le_trans (aj.1).size ab) (ao.1).size
 have aY := hT.below ao.2.1 (Nat.le_trans (aj.2.1).size ab) (ao.2.1).size
 have aI := hT.below ao.2.2.1 ab (ao.2.2.1).size
 clear hT
 refine wpList_nil ?_
 refine b1 _ _ ?_
 refine wp_seq_k (fun cQ b2 => ?_)
 refine reg_seq_tail 6 (I := I4_ w w3 au bI) (ps := [IsV (.slice A0 l0.length ak), IsV (.tuple #[.int .i64 ai, .bool aA]), IsV (.tuple #[.int .i64 ai, .bool aA]), VI ai, VB aA, VP ae 7]) (by kernel_rfl) ?_ ?_ rfl hS ⟨a4, aY, aI, (bR bI)⟩ ?_ ?_
 ·exact bs4
 ·exact .v (.v (.v (.v (.v (.v (.nil))))))
 ·refine .ms 5 rfl rfl rfl ?_
  refine .on rfl (fun a w hS hI hp => does_call (by kernel_rfl) (ar3 (hp.V 0 rfl rfl) (rfl) (rfl)) ((octets_Signed.calls k _ _ l0 33 1 ai aA _ (Kd.C_below HR0 hI.1) HC0 bS).mono fun _ _ h => ⟨_, h.1, h.2, rfl⟩)) ?_
  refine .mv 1 rfl rfl rfl ?_
  iterate 2 refine .on rfl (fun a w hS hI hp => does_val (x_extract rfl (hp.V 2 rfl rfl) rfl) rfl) ?_
  refine .on rfl (fun a w hS hI hp => does_val (x_fieldE (b := 0) rfl (hS.get 2 rfl) Try.underlying28 rfl rfl (by kernel_rfl)) rfl) ?_
  exact .nil
 clear hS
 intro cv cY hS ap hp
 replace hS := (((hS.nil).cons (hS.get 4 rfl)).cons (hS.get 3 rfl)).cons (hS.get 2 rfl)
 have bm : sl _ 85 = .int .i64 ai := hp 3 (by decide)
 have bn : sl _ 87 = .pointer (some ⟨ae, 7, none⟩) := hp 5 (by decide)
 have hS := hS.cons bm
 have hS := hS.cons bn
 clear hp bm bn
 show wpList _ _ _ [_] _ _
 refine list_step rfl (does_store (g := ae) (off := 7) (v := .int .i64 ai) (new := (header_Get.c0 (wrap64 (rd l0 0)) (wrap64 (rd l0 4)) ac ad af ag ah ai 0 0 0 0 0 0 0 0 0 0 0 0 0 0 0)) rfl (hS.get 0 rfl) (hS.get 1 rfl) ((ap.2.2.2.block ae (blk_lt aR)).trans aR) (by kernel_rfl) (by kernel_rfl) (by kernel_rfl) (by kernel_rfl)) ?_
 rintro cF bJ ⟨rfl, aq, hT⟩
 have a5 := hT.below ap.1 (Nat.le_trans (aj.1).size ab) (ap.1).size
 have aZ := hT.below ap.2.1 (Nat.le_trans (aj.2.1).size ab) (ap.2.1).size
 have aJ := hT.below ap.2.2.1 ab (ap.2.2.1).size
 clear hT
 refine wpList_nil ?_
 refine b2 _ _ ?_
 refine wp_seq_k (fun cR b3 => ?_)
 refine reg_seq_tail 2 (I := I4_ w w3 au bJ) (ps := [IsV ((header_Get.v1 (wrap64 (rd l0 0)) (wrap64 (rd l0 4)) ac ad af ag ah ai 0 0 0 0 0 0 0 0 0 0 0 0 0 0 0)), VI aa]) (by kernel_rfl) ?_ ?_ rfl hS ⟨a5, aZ, aJ, (bR bJ)⟩ ?_ ?_
 ·exact bs4
 ·exact .v (.v (.nil))
 ·refine .on rfl (fun a w hS hI hp => does_loadrow rfl (hS.get 2 rfl) (((hI.2.2.2).block ae (blk_lt aq)).trans aq) Try.underlying28 rfl (by kernel_rfl) rfl) ?_
  refine .ms 3 rfl rfl rfl ?_
  exact .nil
 clear hS
 intro cw cZ hS aD hp
 replace hS := (hS.nil).cons (hS.get 4 rfl)
 have bo : sl _ 88 = (header_Get.v1 (wrap64 (rd l0 0)) (wrap64 (rd l0 4)) ac ad af ag ah ai 0 0 0 0 0 0 0 0 0 0 0 0 0 0 0) := hp 0 (by decide)
 have bp : sl _ 89 = .int .i64 aa := hp 1 (by decide)
 have hS := hS.cons bo
 have hS := hS.cons bp
 clear hp bo bp
 show wpList _ _ _ [_, _, _] _ _
 refine list_step rfl (does_storeAll (g := g4) (cs := (header_Get.c0 (wrap64 (rd l0 0)) (wrap64 (rd l0 4)) ac ad af ag ah ai 0 0 0 0 0 0 0 0 0 0 0 0 0 0 0)) rfl (hS.get 2 rfl) (hS.get 1 rfl) ((aD.2.1.block g4 (blk_lt aC)).trans aC) (by kernel_rfl) (by kernel_rfl) (by kernel_rfl)) ?_
 rintro cG cj ⟨rfl, aS, hT⟩
 have cz := hT.blk ((aD.2.2.2.block ae (blk_lt aq)).trans aq) (Nat.ne_of_gt (Nat.lt_of_lt_of_le (Nat.lt_of_lt_of_le (blk_lt aC) (aj.2.1).size) ab))
 have a6 := hT.below aD.1 bt (aD.1).size
 clear hT
 refine list_step rfl (R := fun v w' => Below _ _ w' ∧ (VI aa) v w') (does_val (x_assign rfl (hS.get 0 rfl)) rfl) ?_
 rintro b4 ck ⟨hb, he⟩
 have a7 := below_step a6 hb
 have aK := below_step (bR cj) hb
 obtain rfl : b4 = .int .i64 aa := he
 refine hS.next (v := .int .i64 aa) (d := 3) rfl (by decide) (by rfl) ?_
 clear hS
 intro cx hS
 refine list_step rfl (R := fun v w' => Below _ _ w' ∧ (VI 0) v w') (does_val (x_assign rfl (rfl)) rfl) ?_
 rintro b5 da ⟨hb, he⟩
 have a8 := below_step a7 hb
 have aL := below_step aK hb
 have bu := below_step (bR ck) hb
 obtain rfl : b5 = .int .i64 0 := he
 refine hS.next (v := .int .i64 0) (d := 4) rfl (by decide) (by rfl) ?_
 clear hS
 intro cy hS
 refine wpList_nil ?_
 refine b3 _ _ ?_
 refine wp_ret ?_
 (try simp only [Exit.then, Exit.inBlock, Exit.jump, Exit.noGoto])
 exact bodyPost_ret (v := .tuple #[(header_Get.v1 (wrap64 (rd l0 0)) (wrap64 (rd l0 4)) ac ad af ag ah ai 0 0 0 0 0 0 0 0 0 0 0 0 0 0 0), .int .i64 aa, .int .i64 0]) (results_list (rs := [.cell 2 28, .tmp 3, .tmp 4]) rfl (by simp) (Vals.cell g4 28 (header_Get.c0 (wrap64 (rd l0 0)) (wrap64 (rd l0 4)) ac ad af ag ah ai 0 0 0 0 0 0 0 0 0 0 0 0 0 0 0) (0, 0) _ (hS.get 4 rfl) ((aL.block g4 (blk_lt aS)).trans aS) Try.underlying28 rfl (by kernel_rfl) (Vals.at (hS.get 1 rfl) (Vals.at (hS.get 0 rfl) .nil)))) hS.nodef ⟨rfl, a8⟩
mutual
def body_Len.j0 : Nat → Int → Bool → Option (Int)
  | 0, _, _ => none
  | k + 1, x3, x4 => if x4 = true then (some 10) else (if x3 = 2 then (body_Len.j1 k x3 (x3 == 2)) else (if x3 = 3 then (body_Len.j1 k x3 (x3 == 3)) else (if x3 = 10 then (body_Len.j1 k x3 (x3 == 10)) else (body_Len.j1 k x3 (x3 == 9)))))
def body_Len.j1 : Nat → Int → Bool → Option (Int)
  | 0, _, _ => none
  | k + 1, x3, x9 => if x9 = true then (some 20) else (if x3 = 11 then (some 30) else (if x3 = 13 then (some 14) else (some 0)))
end
def body_Len.f (k : Nat) (a0 : Int) : Option (Int) := if a0 = 0 then (body_Len.j0 k a0 (a0 == 0)) else (if a0 = 1 then (body_Len.j0 k a0 (a0 == 1)) else (if a0 = 8 then (body_Len.j0 k a0 (a0 == 8)) else (body_Len.j0 k a0 (a0 == 12))))
set_option maxHeartbeats 8000000 in
set_option maxRecDepth 100000 in
theorem body_Len.calls (k : Nat) (a0 : Int) (r : Int) (w : World) (h : body_Len.f k a0 = some r) :
    Calls Try.prog 63 #[.int .i64 a0] w fun e w' => e = .returned (.int .i64 r) ∧ Drawn0 w w' := by
  have H : (if a0 = 0 then (body_Len.j0 k a0 (a0 == 0)) else (if a0 = 1 then (body_Len.j0 k a0 (a0 == 1)) else (if a0 = 8 then (body_Len.j0 k a0 (a0 == 8)) else (body_Len.j0 k a0 (a0 == 12))))) = some r := h
  clear h
  have HC2 := Aside0.mk H
  clear H
  go_enter Try.func63, Try.ntmps63
  go_upto_if 4 with (fail)
  go_cut [4] (fun v4 wc => ∃ (kq : Nat) (x4_1 : Bool), v4 = .bool x4_1 ∧ Aside0 (body_Len.j0 kq a0 x4_1 = some r) ∧ Aside0 (kq ≤ k) ∧ Drawn0 w wc)
  case first =>
    have H := HC2.out
    clear HC2
    by_cases c3 : a0 = 0
    · rw [if_pos c3] at H
      have c3b0 : (a0 == 0) = true := beq_iff_eq.mpr c3
      have c3b1 : (a0 != 0) = false := bne_eq_false_iff_eq.mpr c3
      clear c3
      (first | rw [c3b0] | (simp only [i64_w, i32_w]; rw [c3b0]) | skip)
      have H' := Aside0.mk H
      clear H
      go_wp2
      go_meet
      case rel => exact ⟨_, ((a0 == 0)), (by first | rfl | (simp; done) | (simp [*]; done)), H', ⟨by first | omega | exact Nat.le_refl _⟩, by repeat (first | exact Drawn0.refl _ | apply Drawn0.step)⟩
    · rw [if_neg c3] at H
      have c3b0 : (a0 == 0) = false := beq_eq_false_iff_ne.mpr c3
      have c3b1 : (a0 != 0) = true := bne_iff_ne.mpr c3
      (first | rw [c3b0] | (simp only [i64_w, i32_w]; rw [c3b0]) | skip)
      by_cases c4 : a0 = 1
      · rw [if_pos c4] at H
        have c4b0 : (a0 == 1) = true := beq_iff_eq.mpr c4
        have c4b1 : (a0 != 1) = false := bne_eq_false_iff_eq.mpr c4
        clear c4
        have H' := Aside0.mk H
        clear H
        go_wp2
        go_meet
        case rel => exact ⟨_, ((a0 == 1)), (by first | rfl | (simp; done) | (simp [*]; done)), H', ⟨by first | omega | exact Nat.le_refl _⟩, by repeat (first | exact Drawn0.refl _ | apply Drawn0.step)⟩
      · rw [if_neg c4] at H
        have c4b0 : (a0 == 1) = false := beq_eq_false_iff_ne.mpr c4
        have c4b1 : (a0 != 1) = true := bne_iff_ne.mpr c4
        by_cases c5 : a0 = 8
        · rw [if_pos c5] at H
          have c5b0 : (a0 == 8) = true := beq_iff_eq.mpr c5
          have c5b1 : (a0 != 8) = false := bne_eq_false_iff_eq.mpr c5
          clear c5
          have H' := Aside0.mk H
          clear H
          go_wp2
          go_meet
          case rel => exact ⟨_, ((a0 == 8)), (by first | rfl | (simp; done) | (simp [*]; done)), H', ⟨by first | omega | exact Nat.le_refl _⟩, by repeat (first | exact Drawn0.refl _ | apply Drawn0.step)⟩
        · rw [if_neg c5] at H
          have c5b0 : (a0 == 8) = false := beq_eq_false_iff_ne.mpr c5
          have c5b1 : (a0 != 8) = true := bne_iff_ne.mpr c5
          have H' := Aside0.mk H
          clear H
          go_wp2
          go_meet
          case rel => exact ⟨_, ((a0 == 12)), (by first | rfl | (simp; done) | (simp [*]; done)), H', ⟨by first | omega | exact Nat.le_refl _⟩, by repeat (first | exact Drawn0.refl _ | apply Drawn0.step)⟩
  case rest =>
    clear HC2
    try clear p2
    try clear c3
    try clear c3b0
    try clear c3b1
    try clear c4
    try clear c4b0
    try clear c4b1
    try clear c5
    try clear c5b0
    try clear c5b1
    obtain ⟨kq, x4_1, rfl, HA, HJ1, ⟨mc1, rfl⟩⟩ := hcut
    cases kq with
    | zero => exact absurd HA.out (by simp [body_Len.j0])
    | succ kj1 =>
      have H := HA.out
      clear HA
      simp only [body_Len.j0] at H
      by_cases c6 : x4_1 = true
      · subst c6
        have H1 : (some 10) = some r := by rw [if_pos rfl] at H; exact H
        clear H
        have H := H1
        clear H1
        obtain rfl := Option.some.inj H
        go_wp2
        all_goals
          go_ret
          exact ⟨by first | rfl | (simp; done) | (simp [*]; done), by repeat (first | exact Drawn0.refl _ | apply Drawn0.step)⟩
      · replace c6 := Bool.eq_false_iff.mpr c6
        subst c6
        have H1 : (if a0 = 2 then (body_Len.j1 kj1 a0 (a0 == 2)) else (if a0 = 3 then (body_Len.j1 kj1 a0 (a0 == 3)) else (if a0 = 10 then (body_Len.j1 kj1 a0 (a0 == 10)) else (body_Len.j1 kj1 a0 (a0 == 9))))) = some r := by rw [if_neg (show ¬ (false = true) by decide)] at H; exact H
        clear H
        have H := H1
        clear H1
        have HC7 := Aside0.mk H
        clear H
        go_upto_if 9 with (fail)
        go_cut [9] (fun v9 wc => ∃ (kq : Nat) (x9_6 : Bool), v9 = .bool x9_6 ∧ Aside0 (body_Len.j1 kq a0 x9_6 = some r) ∧ Aside0 (kq ≤ kj1) ∧ Drawn0 w wc)
        case first =>
          have H := HC7.out
          clear HC7
          by_cases c8 : a0 = 2
          · rw [if_pos c8] at H
            have c8b0 : (a0 == 2) = true := beq_iff_eq.mpr c8
            have c8b1 : (a0 != 2) = false := bne_eq_false_iff_eq.mpr c8
            clear c8
            (first | rw [c8b0] | (simp only [i64_w, i32_w]; rw [c8b0]) | skip)
            have H' := Aside0.mk H
            clear H
            go_wp2
            go_meet
            case rel => exact ⟨_, ((a0 == 2)), (by first | rfl | (simp; done) | (simp [*]; done)), H', ⟨by have := HJ1.out; first | omega | exact Nat.le_refl _⟩, by repeat (first | exact Drawn0.refl _ | apply Drawn0.step)⟩
          · rw [if_neg c8] at H
            have c8b0 : (a0 == 2) = false := beq_eq_false_iff_ne.mpr c8
            have c8b1 : (a0 != 2) = true := bne_iff_ne.mpr c8
            (first | rw [c8b0] | (simp only [i64_w, i32_w]; rw [c8b0]) | skip)
            by_cases c9 : a0 = 3
            · rw [if_pos c9] at H
              have c9b0 : (a0 == 3) = true := beq_iff_eq.mpr c9
              have c9b1 : (a0 != 3) = false := bne_eq_false_iff_eq.mpr c9
              clear c9
              have H' := Aside0.mk H
              clear H
              go_wp2
              go_meet
              case rel => exact ⟨_, ((a0 == 3)), (by first | rfl | (simp; done) | (simp [*]; done)), H', ⟨by have := HJ1.out; first | omega | exact Nat.le_refl _⟩, by repeat (first | exact Drawn0.refl _ | apply Drawn0.step)⟩
            · rw [if_neg c9] at H
              have c9b0 : (a0 == 3) = false := beq_eq_false_iff_ne.mpr c9
              have c9b1 : (a0 != 3) = true := bne_iff_ne.mpr c9
              by_cases c10 : a0 = 10
              · rw [if_pos c10] at H
                have c10b0 : (a0 == 10) = true := beq_iff_eq.mpr c10
                have c10b1 : (a0 != 10) = false := bne_eq_false_iff_eq.mpr c10
                clear c10
                have H' := Aside0.mk H
                clear H
                go_wp2
                go_meet
                case rel => exact ⟨_, ((a0 == 10)), (by first | rfl | (simp; done) | (simp [*]; done)), H', ⟨by have := HJ1.out; first | omega | exact Nat.le_refl _⟩, by repeat (first | exact Drawn0.refl _ | apply Drawn0.step)⟩
              · rw [if_neg c10] at H
                have c10b0 : (a0 == 10) = false := beq_eq_false_iff_ne.mpr c10
                have c10b1 : (a0 != 10) = true := bne_iff_ne.mpr c10
                have H' := Aside0.mk H
                clear H
                go_wp2
                go_meet
                case rel => exact ⟨_, ((a0 == 9)), (by first | rfl | (simp; done) | (simp [*]; done)), H', ⟨by have := HJ1.out; first | omega | exact Nat.le_refl _⟩, by repeat (first | exact Drawn0.refl _ | apply Drawn0.step)⟩
        case rest =>
          clear HC7
          try clear c1
          try clear p2
          try clear c3
          try clear c3b0
          try clear c3b1
          try clear c4
          try clear c4b0
          try clear c4b1
          try clear c5
          try clear c5b0
          try clear c5b1
          try clear c6
          try clear c8
          try clear c8b0
          try clear c8b1
          try clear c9
          try clear c9b0
          try clear c9b1
          try clear c10
          try clear c10b0
          try clear c10b1
          try clear p2
          obtain ⟨kq, x9_6, rfl, HA, HJ6, ⟨mc6, rfl⟩⟩ := hcut
          cases kq with
          | zero => exact absurd HA.out (by simp [body_Len.j1])
          | succ kj6 =>
            have H := HA.out
            clear HA
            simp only [body_Len.j1] at H
            by_cases c11 : x9_6 = true
            · subst c11
              have H1 : (some 20) = some r := by rw [if_pos rfl] at H; exact H
              clear H
              have H := H1
              clear H1
              obtain rfl := Option.some.inj H
              go_wp2
              all_goals
                go_ret
                exact ⟨by first | rfl | (simp; done) | (simp [*]; done), by repeat (first | exact Drawn0.refl _ | apply Drawn0.step)⟩
            · replace c11 := Bool.eq_false_iff.mpr c11
              subst c11
              have H1 : (if a0 = 11 then (some 30) else (if a0 = 13 then (some 14) else (some 0))) = some r := by rw [if_neg (show ¬ (false = true) by decide)] at H; exact H
              clear H
              have H := H1
              clear H1
              by_cases c12 : a0 = 11
              · rw [if_pos c12] at H
                have c12b0 : (a0 == 11) = true := beq_iff_eq.mpr c12
                have c12b1 : (a0 != 11) = false := bne_eq_false_iff_eq.mpr c12
                clear c12
                obtain rfl := Option.some.inj H
                go_wp2
                all_goals
                  go_ret
                  exact ⟨by first | rfl | (simp; done) | (simp [*]; done), by repeat (first | exact Drawn0.refl _ | apply Drawn0.step)⟩
              · rw [if_neg c12] at H
                have c12b0 : (a0 == 11) = false := beq_eq_false_iff_ne.mpr c12
                have c12b1 : (a0 != 11) = true := bne_iff_ne.mpr c12
                by_cases c13 : a0 = 13
                · rw [if_pos c13] at H
                  have c13b0 : (a0 == 13) = true := beq_iff_eq.mpr c13
                  have c13b1 : (a0 != 13) = false := bne_eq_false_iff_eq.mpr c13
                  clear c13
                  obtain rfl := Option.some.inj H
                  go_wp2
                  all_goals
                    go_ret
                    exact ⟨by first | rfl | (simp; done) | (simp [*]; done), by repeat (first | exact Drawn0.refl _ | apply Drawn0.step)⟩
                · rw [if_neg c13] at H
                  have c13b0 : (a0 == 13) = false := beq_eq_false_iff_ne.mpr c13
                  have c13b1 : (a0 != 13) = true := bne_iff_ne.mpr c13
                  obtain rfl := Option.some.inj H
                  go_wp2
                  all_goals
                    go_ret
                    exact ⟨by first | rfl | (simp; done) | (simp [*]; done), by repeat (first | exact Drawn0.refl _ | apply Drawn0.step)⟩
def stamp_Get.f (k : Nat) (l0 : List Int) (a1 : Int) : Option (Int × Bool) := if a1 < 0 then (none) else (if a1 > (l0.length : Int) then (none) else (if (wrap64 ((l0.length : Int) - a1)) < 10 then (none) else ((octets_Get.f k l0 a1 6).bind fun t9 => ((octets_Get.f k l0 (wrap64 (a1 + 6)) 4).bind fun t13 => (if t13.1 ≥ 1000000000 then (none) else (if t9.1 > 4000000 then (none) else ((stamp_May.f (wrap64 ((wrap64 (t9.1 * 1000000000)) + t13.1))).bind fun t18 => (if t18 = true then (some (wrap64 ((wrap64 (t9.1 * 1000000000)) + t13.1), true)) else (none)))))))))
open Go.Proofs.Ytiomlbkakiienaa.E in
set_option maxHeartbeats 60000000 in
set_option maxRecDepth 100000 in
theorem stamp_Get.calls (k : Nat) (A0 : Option Addr) (af : Nat) (l0 : List Int) (a1 r1 : Int) (r2 : Bool) (w : World) (HR0 : Kd.C (Kd.int .u8) w A0 l0.length l0) (HC0 : l0.length ≤ af) (h : stamp_Get.f k l0 a1 = some (r1, r2)) :
    Calls Try.prog 64 #[.slice A0 l0.length af, .int .i64 a1] w fun e w' => e = .returned (.tuple #[.int .i64 r1, .bool r2]) ∧ Below w.heap.size w w' := by
 have H := h
 clear h
 unfold stamp_Get.f at H
 by_cases c1 : a1 < 0
 ·rw [if_pos c1] at H; exact absurd H (by simp)
 rw [if_neg c1] at H
 by_cases c2 : a1 > (l0.length : Int)
 ·rw [if_pos c2] at H; exact absurd H (by simp)
 rw [if_neg c2] at H
 by_cases c3 : (wrap64 ((l0.length : Int) - a1)) < 10
 ·rw [if_pos c3] at H; exact absurd H (by simp)
 rw [if_neg c3] at H
 obtain ⟨t9, aB, H⟩ := Option.bind_eq_some_iff.mp H
 obtain ⟨ab, ad⟩ := t9
 (try dsimp only at H)
 obtain ⟨aJ, ap, H⟩ := Option.bind_eq_some_iff.mp H
 obtain ⟨aa, ac⟩ := aJ
 (try dsimp only at H)
 by_cases c4 : aa ≥ 1000000000
 ·rw [if_pos c4] at H; exact absurd H (by simp)
 rw [if_neg c4] at H
 by_cases c5 : ab > 4000000
 ·rw [if_pos c5] at H; exact absurd H (by simp)
 rw [if_neg c5] at H
 obtain ⟨ae, aq, H⟩ := Option.bind_eq_some_iff.mp H
 by_cases c6 : ae = true
 rotate_left
 ·rw [if_neg c6] at H; exact absurd H (by simp)
 rw [if_pos c6] at H
 simp only [Option.some.injEq, Prod.mk.injEq] at H
 obtain ⟨rfl, rfl⟩ := H
 refine calls_of_wp (fn := Try.f64) (by kernel_rfl) rfl ?_
 have hS := St.enter #[.slice A0 l0.length af, .int .i64 a1] 56 (by simp) [(0, .slice A0 l0.length af), (1, .int .i64 a1)] (by simp)
 have aC := Below.refl w.heap.size w
 refine wp_seq_k (fun K1 aD => ?_)
 refine reg_seq (I := I1_ w) (ps := [VI 0, VB false]) (by kernel_rfl) ?_ ?_ rfl hS aC ?_ ?_
 ·exact bs1
 ·exact .v (.v (.nil))
 ·refine .on rfl (fun a w hS hI hp => does_val (x_assign rfl (rfl)) rfl) ?_
  refine .on rfl (fun a w hS hI hp => does_val (x_assign rfl (rfl)) rfl) ?_
  exact .nil
 clear hS
 intro aS w3 hS aH hp
 clear hp
 refine aD _ _ ?_
 refine wp_seq_k (fun K4 aE => ?_)
 refine wp_seq_k (fun K5 aF => ?_)
 refine reg_seq (I := I2_ w w3) (ps := [VI a1, VB (decide (a1 < 0)), VB (decide (a1 < 0)), VI a1, IsV (.slice A0 l0.length af), VI (l0.length : Int), VB (decide (a1 > (l0.length : Int))), VB (decide (a1 > (l0.length : Int))), VB (decide (a1 > (l0.length : Int))), IsV (.slice A0 l0.length af), VI (l0.length : Int), VI a1, VI (wrap64 ((l0.length : Int) - a1)), VB (decide ((wrap64 ((l0.length : Int) - a1)) < 10)), VB (decide ((wrap64 ((l0.length : Int) - a1)) < 10))]) (by kernel_rfl) ?_ ?_ rfl hS ⟨aH, (bR w3)⟩ ?_ ?_
 ·exact bs2
 ·exact .v (.v (.v (.v (.v (.v (.v (.v (.v (.v (.v (.v (.v (.v (.v (.nil)))))))))))))))
 ·refine .ms 1 rfl rfl rfl ?_
  refine .on rfl (fun a w hS hI hp => does_val (x_bin rfl (hp.V 0 rfl rfl) (rfl) (b_lss _ _ _ _ _ _)) rfl) ?_
  refine .mv 1 rfl rfl rfl ?_
  refine .oy 2 12 rfl rfl ((decide_eq_false c1)) (fun a w hS hI hp => does_val (x_move rfl (hS.get 1 rfl)) rfl) ?_
  refine .oy 2 12 rfl rfl ((decide_eq_false c1)) (fun a w hS hI hp => does_val (x_move rfl (hS.get 0 rfl)) rfl) ?_
  refine .oy 2 12 rfl rfl ((decide_eq_false c1)) (fun a w hS hI hp => does_val (x_len (e := 5) rfl (by kernel_rfl) (hp.V 4 rfl rfl)) rfl) ?_
  refine .oy 2 12 rfl rfl ((decide_eq_false c1)) (fun a w hS hI hp => does_val (x_bin rfl (hp.V 3 rfl rfl) (hp.V 5 rfl rfl) (b_gtr _ _ _ _ _ _)) rfl) ?_
  refine .on rfl (fun a w hS hI hp => does_val (x_pickF rfl ((hp.V 2 rfl rfl).trans (bF (decide_eq_false c1))) (hp.V 6 rfl rfl)) rfl) ?_
  refine .mv 7 rfl rfl rfl ?_
  refine .oy 8 18 rfl rfl ((decide_eq_false c2)) (fun a w hS hI hp => does_val (x_move rfl (hS.get 0 rfl)) rfl) ?_
  refine .oy 8 18 rfl rfl ((decide_eq_false c2)) (fun a w hS hI hp => does_val (x_len (e := 5) rfl (by kernel_rfl) (hp.V 9 rfl rfl)) rfl) ?_
  refine .oy 8 18 rfl rfl ((decide_eq_false c2)) (fun a w hS hI hp => does_val (x_move rfl (hS.get 1 rfl)) rfl) ?_
  refine .oy 8 18 rfl rfl ((decide_eq_false c2)) (fun a w hS hI hp => does_val (x_bin rfl (hp.V 10 rfl rfl) (hp.V 11 rfl rfl) (b_sub _ _ _ _ _)) rfl) ?_
  refine .oy 8 18 rfl rfl ((decide_eq_false c2)) (fun a w hS hI hp => does_val (x_bin rfl (hp.V 12 rfl rfl) (rfl) (b_lss _ _ _ _ _ _)) rfl) ?_
  refine .on rfl (fun a w hS hI hp => does_val (x_pickF rfl ((hp.V 8 rfl rfl).trans (bF (decide_eq_false c2))) (hp.V 13 rfl rfl)) rfl) ?_
  exact .nil
 clear hS
 intro aT w7 hS aI hp
 have ag : sl _ 24 = .bool (decide ((wrap64 ((l0.length : Int) - a1)) < 10)) := hp 14 (by decide)
 have hS := hS.cons ag
 clear hp ag
 refine aF _ _ ?_
 refine wp_cond_false ((hS.get 0 rfl).trans (bF (decide_eq_false c3))) ?_
 refine wp_skip ?_
 refine aE _ _ ?_
 refine wp_seq_k (fun K8 aG => ?_)
 refine reg_seq (I := I2_ w w7) (ps := [IsV (.slice A0 l0.length af), VI a1, IsV (.tuple #[.int .i64 ab, .bool ad]), IsV (.tuple #[.int .i64 ab, .bool ad]), VI ab, VB ad, VI ab, VB ad]) (by kernel_rfl) ?_ ?_ rfl hS ⟨aI.1, (bR w7)⟩ ?_ ?_
 ·exact bs2
 ·exact .v (.v (.v (.v (.v (.v (.v (.v (.nil))))))))
 ·refine .ms 1 rfl rfl rfl ?_
  refine .ms 2 rfl rfl rfl ?_
  refine .on rfl (fun a w hS hI hp => does_call (by kernel_rfl) (ar3 (hp.V 0 rfl rfl) (hp.V 1 rfl rfl) (rfl)) ((octets_Get.calls k _ _ l0 a1 6 ab ad _ (Kd.C_below HR0 hI.1) HC0 aB).mono fun _ _ h => ⟨_, h.1, h.2.below, rfl⟩)) ?_
  refine .mv 2 rfl rfl rfl ?_
  iterate 2 refine .on rfl (fun a w hS hI hp => does_val (x_extract rfl (hp.V 3 rfl rfl) rfl) rfl) ?_
  refine .asg 4 rfl rfl rfl ?_
  refine .asg 5 rfl rfl rfl ?_
  exact .nil
 clear hS
 intro aK am hS ax hp
 replace hS := ((hS.nil).cons (hS.get 2 rfl)).cons (hS.get 1 rfl)
 have ak : sl _ 6 = .int .i64 ab := hp 6 (by decide)
 have hS := hS.cons ak
 clear hp ak
 refine aG _ _ ?_
 refine wp_seq_k (fun aO ar => ?_)
 refine reg_seq (I := I2_ w am) (ps := [IsV (.slice A0 l0.length af), VI a1, VI (wrap64 (a1 + 6)), IsV (.tuple #[.int .i64 aa, .bool ac]), IsV (.tuple #[.int .i64 aa, .bool ac]), VI aa, VB ac, VI aa, VB ac]) (by kernel_rfl) ?_ ?_ rfl hS ⟨ax.1, (bR am)⟩ ?_ ?_
 ·exact bs2
 ·exact .v (.v (.v (.v (.v (.v (.v (.v (.v (.nil)))))))))
 ·refine .ms 1 rfl rfl rfl ?_
  refine .ms 2 rfl rfl rfl ?_
  refine .on rfl (fun a w hS hI hp => does_val (x_bin rfl (hp.V 1 rfl rfl) (rfl) (b_add _ _ _ _ _)) rfl) ?_
  refine .on rfl (fun a w hS hI hp => does_call (by kernel_rfl) (ar3 (hp.V 0 rfl rfl) (hp.V 2 rfl rfl) (rfl)) ((octets_Get.calls k _ _ l0 (wrap64 (a1 + 6)) 4 aa ac _ (Kd.C_below HR0 hI.1) HC0 ap).mono fun _ _ h => ⟨_, h.1, h.2.below, rfl⟩)) ?_
  refine .mv 3 rfl rfl rfl ?_
  iterate 2 refine .on rfl (fun a w hS hI hp => does_val (x_extract rfl (hp.V 4 rfl rfl) rfl) rfl) ?_
  refine .asg 5 rfl rfl rfl ?_
  refine .asg 6 rfl rfl rfl ?_
  exact .nil
 clear hS
 intro aL an hS ay hp
 replace hS := (hS.nil).cons (hS.get 0 rfl)
 have al : sl _ 8 = .int .i64 aa := hp 7 (by decide)
 have hS := hS.cons al
 clear hp al
 refine ar _ _ ?_
 refine wp_seq_k (fun aP au => ?_)
 refine wp_seq_k (fun aQ av => ?_)
 refine reg_seq (I := I2_ w an) (ps := [VI aa, VB (decide (aa ≥ 1000000000)), VB (decide (aa ≥ 1000000000)), VI ab, VB (decide (ab > 4000000)), VB (decide (ab > 4000000)), VB (decide (ab > 4000000)), VI ab, VI (wrap64 (ab * 1000000000)), VI aa, VI (wrap64 ((wrap64 (ab * 1000000000)) + aa)), VB ae, VB (!ae), VB (!ae)]) (by kernel_rfl) ?_ ?_ rfl hS ⟨ay.1, (bR an)⟩ ?_ ?_
 ·exact bs2
 ·exact .v (.v (.v (.v (.v (.v (.v (.v (.v (.v (.v (.v (.v (.v (.nil))))))))))))))
 ·refine .ms 0 rfl rfl rfl ?_
  refine .on rfl (fun a w hS hI hp => does_val (x_bin rfl (hp.V 0 rfl rfl) (rfl) (b_geq _ _ _ _ _ _)) rfl) ?_
  refine .mv 1 rfl rfl rfl ?_
  refine .oy 2 40 rfl rfl ((decide_eq_false c4)) (fun a w hS hI hp => does_val (x_move rfl (hS.get 1 rfl)) rfl) ?_
  refine .oy 2 40 rfl rfl ((decide_eq_false c4)) (fun a w hS hI hp => does_val (x_bin rfl (hp.V 3 rfl rfl) (rfl) (b_gtr _ _ _ _ _ _)) rfl) ?_
  refine .on rfl (fun a w hS hI hp => does_val (x_pickF rfl ((hp.V 2 rfl rfl).trans (bF (decide_eq_false c4))) (hp.V 4 rfl rfl)) rfl) ?_
  refine .mv 5 rfl rfl rfl ?_
  refine .oy 6 44 rfl rfl ((decide_eq_false c5)) (fun a w hS hI hp => does_val (x_move rfl (hS.get 1 rfl)) rfl) ?_
  refine .oy 6 44 rfl rfl ((decide_eq_false c5)) (fun a w hS hI hp => does_val (x_bin rfl (hp.V 7 rfl rfl) (rfl) (b_mul _ _ _ _ _)) rfl) ?_
  refine .oy 6 44 rfl rfl ((decide_eq_false c5)) (fun a w hS hI hp => does_val (x_move rfl (hS.get 0 rfl)) rfl) ?_
  refine .oy 6 44 rfl rfl ((decide_eq_false c5)) (fun a w hS hI hp => does_val (x_bin rfl (hp.V 8 rfl rfl) (hp.V 9 rfl rfl) (b_add _ _ _ _ _)) rfl) ?_
  refine .oy 6 44 rfl rfl ((decide_eq_false c5)) (fun a w hS hI hp => does_call (by kernel_rfl) (ar1 (hp.V 10 rfl rfl)) ((stamp_May.calls (wrap64 ((wrap64 (ab * 1000000000)) + aa)) ae _  aq).mono fun _ _ h => ⟨_, h.1, h.2.below, rfl⟩)) ?_
  refine .oy 6 44 rfl rfl ((decide_eq_false c5)) (fun a w hS hI hp => does_val (x_not rfl (hp.V 11 rfl rfl)) rfl) ?_
  refine .on rfl (fun a w hS hI hp => does_val (x_pickF rfl ((hp.V 6 rfl rfl).trans (bF (decide_eq_false c5))) (hp.V 12 rfl rfl)) rfl) ?_
  exact .nil
 clear hS
 intro aM ao hS az hp
 have ah : sl _ 51 = .bool (!ae) := hp 13 (by decide)
 have hS := hS.cons ah
 clear hp ah
 refine av _ _ ?_
 refine wp_cond_false ((hS.get 0 rfl).trans (bF (congrArg (!·) c6))) ?_
 refine wp_skip ?_
 refine au _ _ ?_
 refine wp_seq_k (fun aR aw => ?_)
 refine reg_seq (I := I2_ w ao) (ps := [VI ab, VI (wrap64 (ab * 1000000000)), VI aa, VI (wrap64 ((wrap64 (ab * 1000000000)) + aa)), VI (wrap64 ((wrap64 (ab * 1000000000)) + aa)), VB true]) (by kernel_rfl) ?_ ?_ rfl hS ⟨az.1, (bR ao)⟩ ?_ ?_
 ·exact bs2
 ·exact .v (.v (.v (.v (.v (.v (.nil))))))
 ·refine .ms 2 rfl rfl rfl ?_
  refine .on rfl (fun a w hS hI hp => does_val (x_bin rfl (hp.V 0 rfl rfl) (rfl) (b_mul _ _ _ _ _)) rfl) ?_
  refine .ms 1 rfl rfl rfl ?_
  refine .on rfl (fun a w hS hI hp => does_val (x_bin rfl (hp.V 1 rfl rfl) (hp.V 2 rfl rfl) (b_add _ _ _ _ _)) rfl) ?_
  refine .asg 3 rfl rfl rfl ?_
  refine .on rfl (fun a w hS hI hp => does_val (x_assign rfl (rfl)) rfl) ?_
  exact .nil
 clear hS
 intro aN aU hS aA hp
 replace hS := hS.nil
 have ai : sl _ 4 = .int .i64 (wrap64 ((wrap64 (ab * 1000000000)) + aa)) := hp 4 (by decide)
 have aj : sl _ 5 = .bool true := hp 5 (by decide)
 have hS := hS.cons ai
 have hS := hS.cons aj
 clear hp ai aj
 refine aw _ _ ?_
 refine wp_ret ?_
 (try simp only [Exit.then, Exit.inBlock, Exit.jump, Exit.noGoto])
 exact bodyPost_ret (v := .tuple #[.int .i64 (wrap64 ((wrap64 (ab * 1000000000)) + aa)), .bool true]) (results_list (rs := [.tmp 4, .tmp 5]) rfl (by simp) (Vals.at (hS.get 1 rfl) (Vals.at (hS.get 0 rfl) .nil))) hS.nodef ⟨rfl, aA.1⟩
def body_Get.j1 (k : Nat) (y1_1 : List Int) (x1_2 x1_3_0 x1_3_1 x1_3_2 x1_3_3 x1_3_4 x1_3_5 x1_3_6 x1_3_7 x1_3_8 x1_3_9 x1_3_10 x1_3_11 x1_3_12 x1_3_13 x1_3_14 x1_3_15 x1_3_16 x1_3_17 x1_3_18 x1_3_19 x1_3_20 x1_3_21 x1_3_22 x1_6_0 x1_6_1 x1_6_2 x1_6_3 x1_6_4 x1_6_5 x1_6_6 x1_6_7 x1_6_8 x1_6_9 x1_6_10 x1_6_11 x1_6_12 x1_6_13 x1_6_14 x1_6_15 x1_6_16 x1_6_17 x1_6_18 x1_6_19 x1_6_20 x1_6_21 x1_6_22 x1_9 x1_10 : Int) : Option (Int × Int × Int × Int × Int × Int × Int × Int × Int × Int × Int × Int × Int × Int × Int × Int × Int × Int × Int × Int × Int × Int × Int × Int × Int) := (body_targeted.f x1_3_0).bind fun t1003 => (if t1003 = true then (none) else (if x1_3_0 = 11 then (none) else (if x1_3_0 = 13 then (none) else (some (x1_3_0, x1_3_1, x1_3_2, x1_3_3, x1_3_4, x1_3_5, x1_3_6, x1_3_7, x1_3_8, x1_3_9, x1_3_10, x1_3_11, x1_3_12, x1_3_13, x1_3_14, x1_3_15, x1_3_16, x1_3_17, x1_3_18, x1_3_19, x1_3_20, x1_3_21, x1_3_22, wrap64 (x1_9 + x1_10), 0)))))
def body_Get.f (k : Nat) (a0_0 a0_1 a0_2 a0_3 a0_4 a0_5 a0_6 a0_7 a0_8 a0_9 a0_10 a0_11 a0_12 a0_13 a0_14 a0_15 a0_16 a0_17 a0_18 a0_19 a0_20 a0_21 a0_22 : Int) (l1 : List Int) (a2 : Int) : Option (Int × Int × Int × Int × Int × Int × Int × Int × Int × Int × Int × Int × Int × Int × Int × Int × Int × Int × Int × Int × Int × Int × Int × Int × Int) := (body_Len.f k a0_0).bind fun t14 => (if a2 < 0 then (none) else (if a2 > (l1.length : Int) then (none) else (if (wrap64 ((l1.length : Int) - a2)) < t14 then (none) else (if t14 = 0 then (none) else ((body_stamped.f a0_0).bind fun t23 => (if t23 = true then ((stamp_Get.f k l1 a2).bind fun t28 => (if t28.2 = true then (body_Get.j1 k l1 (wrap64 (a2 + 10)) a0_0 a0_1 a0_2 a0_3 a0_4 a0_5 a0_6 a0_7 t28.1 a0_9 a0_10 a0_11 a0_12 a0_13 a0_14 a0_15 a0_16 a0_17 a0_18 a0_19 a0_20 a0_21 a0_22 0 0 0 0 0 0 0 0 0 0 0 0 0 0 0 0 0 0 0 0 0 0 0 a2 t14) else (none))) else (none)))))))
abbrev body_Get.v0 (x0 x1 x2 x3 x4 x5 x6 x7 x8 x9 x10 x11 x12 x13 x14 x15 x16 x17 x18 x19 x20 x21 x22 : Int) : Value := .agg #[.int .i64 x0, .int .i64 x1, .int .i64 x2, .int .i64 x3, .int .u64 x4, .int .i64 x5, .int .i64 x6, .int .i64 x7, .int .i64 x8, .int .u64 x9, .int .i64 x10, .int .i64 x11, .int .i64 x12, .int .i64 x13, .int .i64 x14, .int .i64 x15, .int .i64 x16, .int .u64 x17, .int .i64 x18, .int .i64 x19, .int .i64 x20, .int .i64 x21, .int .i64 x22]
abbrev body_Get.c1 (x0 x1 x2 x3 x4 x5 x6 x7 x8 x9 x10 x11 x12 x13 x14 x15 x16 x17 x18 x19 x20 x21 x22 : Int) : Array Value := #[.int .i64 x0, .int .i64 x1, .int .i64 x2, .int .i64 x3, .int .u64 x4, .int .i64 x5, .int .i64 x6, .int .i64 x7, .int .i64 x8, .int .u64 x9, .int .i64 x10, .int .i64 x11, .int .i64 x12, .int .i64 x13, .int .i64 x14, .int .i64 x15, .int .i64 x16, .int .u64 x17, .int .i64 x18, .int .i64 x19, .int .i64 x20, .int .i64 x21, .int .i64 x22]
open Go.Proofs.Ytiomlbkakiienaa.E in
set_option maxHeartbeats 60000000 in
set_option maxRecDepth 100000 in
theorem body_Get.calls (k : Nat) (aI bw bx bz bA bB bC bD ck bE a4 a5 a6 a7 a8 a9 ba bb bc bd be bf bg : Int) (A1 : Option Addr) (bH : Nat) (l1 : List Int) (a2 r1 r2 r3 r4 r5 r6 r7 r8 r9 d9 ea eb ec ed ee ef eg eh ei ej ek el em en eo : Int) (w : World) (HR1 : Kd.C (Kd.int .u8) w A1 l1.length l1) (HC1 : l1.length ≤ bH) (h : body_Get.f k aI bw bx bz bA bB bC bD ck bE a4 a5 a6 a7 a8 a9 ba bb bc bd be bf bg l1 a2 = some (r1, r2, r3, r4, r5, r6, r7, r8, r9, d9, ea, eb, ec, ed, ee, ef, eg, eh, ei, ej, ek, el, em, en, eo)) :
    Calls Try.prog 29 #[.agg #[.int .i64 aI, .int .i64 bw, .int .i64 bx, .int .i64 bz, .int .u64 bA, .int .i64 bB, .int .i64 bC, .int .i64 bD, .int .i64 ck, .int .u64 bE, .int .i64 a4, .int .i64 a5, .int .i64 a6, .int .i64 a7, .int .i64 a8, .int .i64 a9, .int .i64 ba, .int .u64 bb, .int .i64 bc, .int .i64 bd, .int .i64 be, .int .i64 bf, .int .i64 bg], .slice A1 l1.length bH, .int .i64 a2] w fun e w' => e = .returned (.tuple #[.agg #[.int .i64 r1, .int .i64 r2, .int .i64 r3, .int .i64 r4, .int .u64 r5, .int .i64 r6, .int .i64 r7, .int .i64 r8, .int .i64 r9, .int .u64 d9, .int .i64 ea, .int .i64 eb, .int .i64 ec, .int .i64 ed, .int .i64 ee, .int .i64 ef, .int .i64 eg, .int .u64 eh, .int .i64 ei, .int .i64 ej, .int .i64 ek, .int .i64 el, .int .i64 em], .int .i64 en, .int .i64 eo]) ∧ Below w.heap.size w w' := by
 have H := h
 clear h
 unfold body_Get.f at H
 refine calls_of_wp (fn := Try.f29) (by kernel_rfl) rfl ?_
 have hS := St.enter #[(body_Get.v0 aI bw bx bz bA bB bC bD ck bE a4 a5 a6 a7 a8 a9 ba bb bc bd be bf bg), .slice A1 l1.length bH, .int .i64 a2] 151 (by simp) [(0, (body_Get.v0 aI bw bx bz bA bB bC bD ck bE a4 a5 a6 a7 a8 a9 ba bb bc bd be bf bg)), (1, .slice A1 l1.length bH), (2, .int .i64 a2)] (by simp)
 have dn := Below.refl w.heap.size w
 refine wp_seq_k (fun K1 dw => ?_)
 refine reg_seq_tail 1 (I := I1_ w) (ps := [IsB (body_Get.c1 aI bw bx bz bA bB bC bD ck bE a4 a5 a6 a7 a8 a9 ba bb bc bd be bf bg) 28 w.heap.size]) (by kernel_rfl) ?_ ?_ rfl hS dn ?_ ?_
 ·exact bs1
 ·exact .cons (Stays.b _ _ _) (.nil)
 ·refine .on rfl (fun a w hS hI hp => does_var (x_box rfl (congrArg Value.cells (hS.get 0 rfl))) (hI).size) ?_
  exact .nil
 clear hS
 intro d7 w3 hS cU hp
 replace hS := ((hS.nil).cons (hS.get 2 rfl)).cons (hS.get 1 rfl)
 obtain ⟨g4, cS, b1, aE⟩ := (show IsB _ 28 _ (sl _ 3) _ from hp 0 (by decide))
 have hS := hS.cons cS
 clear hp cS
 show wpList _ _ _ [_, _, _] _ _
 refine list_step rfl (R := fun v w' => Below _ _ w' ∧ (IsB (body_Get.c1 0 0 0 0 0 0 0 0 0 0 0 0 0 0 0 0 0 0 0 0 0 0 0) 28 w3.heap.size) v w') (does_var (x_alloc rfl (by kernel_rfl)) ((bR w3)).size) ?_
 rintro ep w5 ⟨hb, he⟩
 have cl := below_step cU hb
 have ce := below_step (bR w3) hb
 obtain ⟨g6, rfl, b2, b0⟩ := he
 have cw : g6 ≠ g4 := Nat.ne_of_gt (Nat.lt_of_lt_of_le (blk_lt (((bR w3).block g4 (blk_lt aE)).trans aE)) b2)
 refine hS.next (v := .pointer (some ⟨g6, 0, none⟩)) (d := 6) rfl (by decide) (by rfl) ?_
 clear hS
 intro d8 hS
 refine list_step rfl (R := fun v w' => Below _ _ w' ∧ (VI 0) v w') (does_val (x_assign rfl (rfl)) rfl) ?_
 rintro dB w9 ⟨hb, he⟩
 have cm := below_step cl hb
 have cf := below_step ce hb
 have cg := below_step (bR w5) hb
 obtain rfl : dB = .int .i64 0 := he
 refine hS.next (v := .int .i64 0) (d := 7) rfl (by decide) (by rfl) ?_
 clear hS
 intro dN hS
 refine list_step rfl (R := fun v w' => Below _ _ w' ∧ (VI 0) v w') (does_val (x_assign rfl (rfl)) rfl) ?_
 rintro dk cV ⟨hb, he⟩
 have ca := below_step cm hb
 have bU := below_step cf hb
 have bV := below_step cg hb
 have da := below_step (bR w9) hb
 obtain rfl : dk = .int .i64 0 := he
 refine hS.next (v := .int .i64 0) (d := 8) rfl (by decide) (by rfl) ?_
 clear hS
 intro dO hS
 refine wpList_nil ?_
 refine dw _ _ ?_
 refine wp_scope_fwd 0 (fun cP aJ => ∃ (aY : List Int) (bu : Option Addr) (bv : Nat) (bZ aa au av aw ax ay az aA aB aC ad ae af ag ah ai aj ak al am an ao ap : Int) (aq : Nat) (bj bk bl bm bn bo bp bq br bs aL aM aN aO aP aQ aR aS aT aU aV aW aX : Int) (aD : Nat) (aH ar : Int) , body_Get.j1 k aY bZ aa au av aw ax ay az aA aB aC ad ae af ag ah ai aj ak al am an ao ap bj bk bl bm bn bo bp bq br bs aL aM aN aO aP aQ aR aS aT aU aV aW aX aH ar = some (r1, r2, r3, r4, r5, r6, r7, r8, r9, d9, ea, eb, ec, ed, ee, ef, eg, eh, ei, ej, ek, el, em, en, eo) ∧ St 151 [(1, .slice bu aY.length bv), (2, .int .i64 bZ), (3, .pointer (some ⟨aq, 0, none⟩)), (6, .pointer (some ⟨aD, 0, none⟩)), (9, .int .i64 aH), (10, .int .i64 ar)] cP ∧ Below w.heap.size w aJ ∧ aY.length ≤ bv ∧ Kd.C (Kd.int .u8) w bu aY.length aY ∧ w.heap.size ≤ aq ∧ aJ.heap[aq]? = some (.cells (body_Get.c1 aa au av aw ax ay az aA aB aC ad ae af ag ah ai aj ak al am an ao ap) 28 (0, 0)) ∧ w.heap.size ≤ aD ∧ aJ.heap[aD]? = some (.cells (body_Get.c1 bj bk bl bm bn bo bp bq br bs aL aM aN aO aP aQ aR aS aT aU aV aW aX) 28 (0, 0)) ∧ aD ≠ aq) rfl ?_ (fun J1 => ?_)
 ·clear H hS
  rintro cP aJ ⟨aY, bu, bv, bZ, aa, au, av, aw, ax, ay, az, aA, aB, aC, ad, ae, af, ag, ah, ai, aj, ak, al, am, an, ao, ap, aq, bj, bk, bl, bm, bn, bo, bp, bq, br, bs, aL, aM, aN, aO, aP, aQ, aR, aS, aT, aU, aV, aW, aX, aD, aH, ar, H, hS, ch, dK, dx, cR, ab, bN, a0, bO⟩
  unfold body_Get.j1 at H
  (try dsimp only at H)
  obtain ⟨bh, cj, H⟩ := Option.bind_eq_some_iff.mp H
  by_cases c1 : bh = true
  ·rw [if_pos c1] at H; exact absurd H (by simp)
  rw [if_neg c1] at H
  by_cases c2 : aa = 11
  ·rw [if_pos c2] at H; exact absurd H (by simp)
  rw [if_neg c2] at H
  by_cases c3 : aa = 13
  ·rw [if_pos c3] at H; exact absurd H (by simp)
  rw [if_neg c3] at H
  simp only [Option.some.injEq, Prod.mk.injEq] at H
  obtain ⟨rfl, rfl, rfl, rfl, rfl, rfl, rfl, rfl, rfl, rfl, rfl, rfl, rfl, rfl, rfl, rfl, rfl, rfl, rfl, rfl, rfl, rfl, rfl, rfl, rfl⟩ := H
  refine wp_seq_k (fun dD cn => ?_)
  refine wp_seq_k (fun dE co => ?_)
  refine reg_seq (I := I2_ w aJ) (ps := [VP aq 0, VI aa, VB bh]) (by kernel_rfl) ?_ ?_ rfl hS ⟨ch, (bR aJ)⟩ ?_ ?_
  ·exact bs2
  ·exact .v (.v (.v (.nil)))
  ·refine .on rfl (fun a w hS hI hp => does_val (x_fieldE (b := 0) rfl (hS.get 2 rfl) Try.underlying28 rfl rfl (by kernel_rfl)) rfl) ?_
   refine .on rfl (fun a w hS hI hp => does_val (x_load1 (d := .int .i64) rfl (hp.V 0 rfl rfl) (by kernel_rfl) rfl ((blk_cell (((hI.2).block aq (blk_lt ab)).trans ab) 0).trans rfl)) rfl) ?_
   refine .on rfl (fun a w hS hI hp => does_call (by kernel_rfl) (ar1 (hp.V 1 rfl rfl)) ((body_targeted.calls aa bh _  cj).mono fun _ _ h => ⟨_, h.1, h.2.below, rfl⟩)) ?_
   exact .nil
  clear hS
  intro dp b6 hS bP hp
  have cF : sl _ 55 = .bool bh := hp 2 (by decide)
  have hS := hS.cons cF
  clear hp cF
  refine co _ _ ?_
  refine wp_cond_false ((hS.get 0 rfl).trans (bF (Bool.eq_false_iff.2 c1))) ?_
  refine wp_skip ?_
  refine cn _ _ ?_
  refine wp_seq_k (fun dF cp => ?_)
  refine wp_seq_k (fun dG cq => ?_)
  refine reg_seq (I := I3_ w aJ b6) (ps := [VP aq 0, VI aa]) (by kernel_rfl) ?_ ?_ rfl hS ⟨bP.1, bP.2, (bR b6)⟩ ?_ ?_
  ·exact bs3
  ·exact .v (.v (.nil))
  ·refine .on rfl (fun a w hS hI hp => does_val (x_fieldE (b := 0) rfl (hS.get 3 rfl) Try.underlying28 rfl rfl (by kernel_rfl)) rfl) ?_
   refine .on rfl (fun a w hS hI hp => does_val (x_load1 (d := .int .i64) rfl (hp.V 0 rfl rfl) (by kernel_rfl) rfl ((blk_cell (((hI.2.1).block aq (blk_lt ab)).trans ab) 0).trans rfl)) rfl) ?_
   exact .nil
  clear hS
  intro dq b7 hS bQ hp
  replace hS := ((((((hS.nil).cons (hS.get 6 rfl)).cons (hS.get 5 rfl)).cons (hS.get 4 rfl)).cons (hS.get 3 rfl)).cons (hS.get 2 rfl)).cons (hS.get 1 rfl)
  have cG : sl _ 66 = .int .i64 aa := hp 1 (by decide)
  have hS := hS.cons cG
  clear hp cG
  refine cq _ _ ?_
  refine wp_block ?_
  refine wp_seq_k (fun dH cr => ?_)
  refine reg_seq (I := I3_ w aJ b7) (ps := [VB (decide (aa = 11)), VB (decide (aa = 11))]) (by kernel_rfl) ?_ ?_ rfl hS ⟨bQ.1, bQ.2.1, (bR b7)⟩ ?_ ?_
  ·exact bs3
  ·exact .v (.v (.nil))
  ·refine .on rfl (fun a w hS hI hp => does_val (x_bin rfl (hS.get 0 rfl) (rfl) (b_eql _ _ _ _ _ _)) rfl) ?_
   refine .asg 0 rfl rfl rfl ?_
   exact .nil
  clear hS
  intro dr b8 hS bS hp
  have cH : sl _ 67 = .bool (decide (aa = 11)) := hp 1 (by decide)
  have hS := hS.cons cH
  clear hp cH
  refine cr _ _ ?_
  refine wp_cond_false ((hS.get 0 rfl).trans (bF (decide_eq_false c2))) ?_
  refine wp_seq_k (fun dI ct => ?_)
  refine reg_seq (I := I3_ w aJ b8) (ps := [VB (decide (aa = 13)), VB (decide (aa = 13))]) (by kernel_rfl) ?_ ?_ rfl hS ⟨bS.1, bS.2.1, (bR b8)⟩ ?_ ?_
  ·exact bs3
  ·exact .v (.v (.nil))
  ·refine .on rfl (fun a w hS hI hp => does_val (x_bin rfl (hS.get 1 rfl) (rfl) (b_eql _ _ _ _ _ _)) rfl) ?_
   refine .asg 0 rfl rfl rfl ?_
   exact .nil
  clear hS
  intro ds b9 hS bT hp
  replace hS := ((((((hS.nil).cons (hS.get 7 rfl)).cons (hS.get 6 rfl)).cons (hS.get 5 rfl)).cons (hS.get 4 rfl)).cons (hS.get 3 rfl)).cons (hS.get 2 rfl)
  have b3 : sl _ 124 = .bool (decide (aa = 13)) := hp 1 (by decide)
  have hS := hS.cons b3
  clear hp b3
  refine ct _ _ ?_
  refine wp_cond_false ((hS.get 0 rfl).trans (bF (decide_eq_false c3))) ?_
  refine wp_skip ?_
  refine cp _ _ ?_
  refine wp_seq_k (fun dJ cu => ?_)
  refine reg_seq_tail 4 (I := I3_ w aJ b9) (ps := [IsV ((body_Get.v0 aa au av aw ax ay az aA aB aC ad ae af ag ah ai aj ak al am an ao ap)), VI aH, VI ar, VI (wrap64 (aH + ar))]) (by kernel_rfl) ?_ ?_ rfl hS ⟨bT.1, bT.2.1, (bR b9)⟩ ?_ ?_
  ·exact bs3
  ·exact .v (.v (.v (.v (.nil))))
  ·refine .on rfl (fun a w hS hI hp => does_loadrow rfl (hS.get 3 rfl) (((hI.2.1).block aq (blk_lt ab)).trans ab) Try.underlying28 rfl (by kernel_rfl) rfl) ?_
   refine .ms 5 rfl rfl rfl ?_
   refine .ms 6 rfl rfl rfl ?_
   refine .on rfl (fun a w hS hI hp => does_val (x_bin rfl (hp.V 1 rfl rfl) (hp.V 2 rfl rfl) (b_add _ _ _ _ _)) rfl) ?_
   exact .nil
  clear hS
  intro dt dL hS aK hp
  replace hS := (hS.nil).cons (hS.get 4 rfl)
  have b4 : sl _ 147 = (body_Get.v0 aa au av aw ax ay az aA aB aC ad ae af ag ah ai aj ak al am an ao ap) := hp 0 (by decide)
  have b5 : sl _ 150 = .int .i64 (wrap64 (aH + ar)) := hp 3 (by decide)
  have hS := hS.cons b4
  have hS := hS.cons b5
  clear hp b4 b5
  show wpList _ _ _ [_, _, _] _ _
  refine list_step rfl (does_storeAll (g := aD) (cs := (body_Get.c1 aa au av aw ax ay az aA aB aC ad ae af ag ah ai aj ak al am an ao ap)) rfl (hS.get 2 rfl) (hS.get 1 rfl) ((aK.2.1.block aD (blk_lt a0)).trans a0) (by kernel_rfl) (by kernel_rfl) (by kernel_rfl)) ?_
  rintro dA cN ⟨rfl, bi, hT⟩
  have dy := hT.blk ((aK.2.1.block aq (blk_lt ab)).trans ab) (Ne.symm bO)
  have bI := hT.below aK.1 bN (aK.1).size
  clear hT
  refine list_step rfl (R := fun v w' => Below _ _ w' ∧ (VI (wrap64 (aH + ar))) v w') (does_val (x_assign rfl (hS.get 0 rfl)) rfl) ?_
  rintro cK cO ⟨hb, he⟩
  have bJ := below_step bI hb
  have a1 := below_step (bR cN) hb
  obtain rfl : cK = .int .i64 (wrap64 (aH + ar)) := he
  refine hS.next (v := .int .i64 (wrap64 (aH + ar))) (d := 7) rfl (by decide) (by rfl) ?_
  clear hS
  intro du hS
  refine list_step rfl (R := fun v w' => Below _ _ w' ∧ (VI 0) v w') (does_val (x_assign rfl (rfl)) rfl) ?_
  rintro cL dM ⟨hb, he⟩
  have bK := below_step bJ hb
  have a3 := below_step a1 hb
  have ci := below_step (bR cO) hb
  obtain rfl : cL = .int .i64 0 := he
  refine hS.next (v := .int .i64 0) (d := 8) rfl (by decide) (by rfl) ?_
  clear hS
  intro dv hS
  refine wpList_nil ?_
  refine cu _ _ ?_
  refine wp_ret ?_
  (try simp only [Exit.then, Exit.inBlock, Exit.jump, Exit.noGoto])
  exact bodyPost_ret (v := .tuple #[(body_Get.v0 aa au av aw ax ay az aA aB aC ad ae af ag ah ai aj ak al am an ao ap), .int .i64 (wrap64 (aH + ar)), .int .i64 0]) (results_list (rs := [.cell 6 28, .tmp 7, .tmp 8]) rfl (by simp) (Vals.cell aD 28 (body_Get.c1 aa au av aw ax ay az aA aB aC ad ae af ag ah ai aj ak al am an ao ap) (0, 0) _ (hS.get 4 rfl) ((a3.block aD (blk_lt bi)).trans bi) Try.underlying28 rfl (by kernel_rfl) (Vals.at (hS.get 1 rfl) (Vals.at (hS.get 0 rfl) .nil)))) hS.nodef ⟨rfl, bK⟩
 obtain ⟨aF, c7, H⟩ := Option.bind_eq_some_iff.mp H
 by_cases c1 : a2 < 0
 ·rw [if_pos c1] at H; exact absurd H (by simp)
 rw [if_neg c1] at H
 by_cases c2 : a2 > (l1.length : Int)
 ·rw [if_pos c2] at H; exact absurd H (by simp)
 rw [if_neg c2] at H
 by_cases c3 : (wrap64 ((l1.length : Int) - a2)) < aF
 ·rw [if_pos c3] at H; exact absurd H (by simp)
 rw [if_neg c3] at H
 by_cases c4 : aF = 0
 ·rw [if_pos c4] at H; exact absurd H (by simp)
 rw [if_neg c4] at H
 obtain ⟨bt, c8, H⟩ := Option.bind_eq_some_iff.mp H
 by_cases c5 : bt = true
 rotate_left
 ·rw [if_neg c5] at H; exact absurd H (by simp)
 rw [if_pos c5] at H
 obtain ⟨dz, c9, H⟩ := Option.bind_eq_some_iff.mp H
 obtain ⟨aG, ac⟩ := dz
 (try dsimp only at H)
 by_cases c6 : ac = true
 rotate_left
 ·rw [if_neg c6] at H; exact absurd H (by simp)
 rw [if_pos c6] at H
 refine wp_seq_k (fun dY db => ?_)
 refine reg_seq (I := I4_ w w3 w5 cV) (ps := [VI a2, VP g4 0, VI aI, VI aF, VI a2, VI aF, VB true]) (by kernel_rfl) ?_ ?_ rfl hS ⟨ca, bU, bV, (bR cV)⟩ ?_ ?_
 ·exact bs4
 ·exact .v (.v (.v (.v (.v (.v (.v (.nil)))))))
 ·refine .ms 5 rfl rfl rfl ?_
  refine .on rfl (fun a w hS hI hp => does_val (x_fieldE (b := 0) rfl (hS.get 3 rfl) Try.underlying28 rfl rfl (by kernel_rfl)) rfl) ?_
  refine .on rfl (fun a w hS hI hp => does_val (x_load1 (d := .int .i64) rfl (hp.V 1 rfl rfl) (by kernel_rfl) rfl ((blk_cell (((hI.2.1).block g4 (blk_lt aE)).trans aE) 0).trans rfl)) rfl) ?_
  refine .on rfl (fun a w hS hI hp => does_call (by kernel_rfl) (ar1 (hp.V 2 rfl rfl)) ((body_Len.calls k aI aF _  c7).mono fun _ _ h => ⟨_, h.1, h.2.below, rfl⟩)) ?_
  refine .asg 0 rfl rfl rfl ?_
  refine .asg 3 rfl rfl rfl ?_
  refine .on rfl (fun a w hS hI hp => does_val (x_assign rfl (rfl)) rfl) ?_
  exact .nil
 clear hS
 intro dP cW hS bW hp
 replace hS := ((((hS.nil).cons (hS.get 5 rfl)).cons (hS.get 4 rfl)).cons (hS.get 3 rfl)).cons (hS.get 2 rfl)
 have cT : sl _ 9 = .int .i64 a2 := hp 4 (by decide)
 have cx : sl _ 10 = .int .i64 aF := hp 5 (by decide)
 have hS := hS.cons cT
 have hS := hS.cons cx
 clear hp cT cx
 refine db _ _ ?_
 refine wp_seq_k (fun dZ dc => ?_)
 refine wp_seq_k (fun d0 dd => ?_)
 refine reg_seq (I := I4_ w w3 w5 cW) (ps := [VI a2, VB (decide (a2 < 0)), VB (decide (a2 < 0)), VI a2, IsV (.slice A1 l1.length bH), VI (l1.length : Int), VB (decide (a2 > (l1.length : Int))), VB (decide (a2 > (l1.length : Int))), VB (decide (a2 > (l1.length : Int))), IsV (.slice A1 l1.length bH), VI (l1.length : Int), VI a2, VI (wrap64 ((l1.length : Int) - a2)), VI aF, VB (decide ((wrap64 ((l1.length : Int) - a2)) < aF)), VB (decide ((wrap64 ((l1.length : Int) - a2)) < aF))]) (by kernel_rfl) ?_ ?_ rfl hS ⟨bW.1, bW.2.1, bW.2.2.1, (bR cW)⟩ ?_ ?_
 ·exact bs4
 ·exact .v (.v (.v (.v (.v (.v (.v (.v (.v (.v (.v (.v (.v (.v (.v (.v (.nil))))))))))))))))
 ·refine .ms 5 rfl rfl rfl ?_
  refine .on rfl (fun a w hS hI hp => does_val (x_bin rfl (hp.V 0 rfl rfl) (rfl) (b_lss _ _ _ _ _ _)) rfl) ?_
  refine .mv 1 rfl rfl rfl ?_
  refine .oy 2 18 rfl rfl ((decide_eq_false c1)) (fun a w hS hI hp => does_val (x_move rfl (hS.get 5 rfl)) rfl) ?_
  refine .oy 2 18 rfl rfl ((decide_eq_false c1)) (fun a w hS hI hp => does_val (x_move rfl (hS.get 4 rfl)) rfl) ?_
  refine .oy 2 18 rfl rfl ((decide_eq_false c1)) (fun a w hS hI hp => does_val (x_len (e := 5) rfl (by kernel_rfl) (hp.V 4 rfl rfl)) rfl) ?_
  refine .oy 2 18 rfl rfl ((decide_eq_false c1)) (fun a w hS hI hp => does_val (x_bin rfl (hp.V 3 rfl rfl) (hp.V 5 rfl rfl) (b_gtr _ _ _ _ _ _)) rfl) ?_
  refine .on rfl (fun a w hS hI hp => does_val (x_pickF rfl ((hp.V 2 rfl rfl).trans (bF (decide_eq_false c1))) (hp.V 6 rfl rfl)) rfl) ?_
  refine .mv 7 rfl rfl rfl ?_
  refine .oy 8 24 rfl rfl ((decide_eq_false c2)) (fun a w hS hI hp => does_val (x_move rfl (hS.get 4 rfl)) rfl) ?_
  refine .oy 8 24 rfl rfl ((decide_eq_false c2)) (fun a w hS hI hp => does_val (x_len (e := 5) rfl (by kernel_rfl) (hp.V 9 rfl rfl)) rfl) ?_
  refine .oy 8 24 rfl rfl ((decide_eq_false c2)) (fun a w hS hI hp => does_val (x_move rfl (hS.get 5 rfl)) rfl) ?_
  refine .oy 8 24 rfl rfl ((decide_eq_false c2)) (fun a w hS hI hp => does_val (x_bin rfl (hp.V 10 rfl rfl) (hp.V 11 rfl rfl) (b_sub _ _ _ _ _)) rfl) ?_
  refine .oy 8 24 rfl rfl ((decide_eq_false c2)) (fun a w hS hI hp => does_val (x_move rfl (hS.get 0 rfl)) rfl) ?_
  refine .oy 8 24 rfl rfl ((decide_eq_false c2)) (fun a w hS hI hp => does_val (x_bin rfl (hp.V 12 rfl rfl) (hp.V 13 rfl rfl) (b_lss _ _ _ _ _ _)) rfl) ?_
  refine .on rfl (fun a w hS hI hp => does_val (x_pickF rfl ((hp.V 8 rfl rfl).trans (bF (decide_eq_false c2))) (hp.V 14 rfl rfl)) rfl) ?_
  exact .nil
 clear hS
 intro dQ cX hS bX hp
 have cy : sl _ 31 = .bool (decide ((wrap64 ((l1.length : Int) - a2)) < aF)) := hp 15 (by decide)
 have hS := hS.cons cy
 clear hp cy
 refine dd _ _ ?_
 refine wp_cond_false ((hS.get 0 rfl).trans (bF (decide_eq_false c3))) ?_
 refine wp_skip ?_
 refine dc _ _ ?_
 refine wp_seq_k (fun d1 de => ?_)
 refine wp_seq_k (fun d2 df => ?_)
 refine reg_seq (I := I4_ w w3 w5 cX) (ps := [VI aF, VB (decide (aF = 0)), VB (decide (aF = 0)), VP g4 0, VI aI, VB bt, VB (!bt), VB (!bt)]) (by kernel_rfl) ?_ ?_ rfl hS ⟨bX.1, bX.2.1, bX.2.2.1, (bR cX)⟩ ?_ ?_
 ·exact bs4
 ·exact .v (.v (.v (.v (.v (.v (.v (.v (.nil))))))))
 ·refine .ms 1 rfl rfl rfl ?_
  refine .on rfl (fun a w hS hI hp => does_val (x_bin rfl (hp.V 0 rfl rfl) (rfl) (b_eql _ _ _ _ _ _)) rfl) ?_
  refine .mv 1 rfl rfl rfl ?_
  refine .oy 2 35 rfl rfl ((decide_eq_false c4)) (fun a w hS hI hp => does_val (x_fieldE (b := 0) rfl (hS.get 4 rfl) Try.underlying28 rfl rfl (by kernel_rfl)) rfl) ?_
  refine .oy 2 35 rfl rfl ((decide_eq_false c4)) (fun a w hS hI hp => does_val (x_load1 (d := .int .i64) rfl (hp.V 3 rfl rfl) (by kernel_rfl) rfl ((blk_cell (((hI.2.1).block g4 (blk_lt aE)).trans aE) 0).trans rfl)) rfl) ?_
  refine .oy 2 35 rfl rfl ((decide_eq_false c4)) (fun a w hS hI hp => does_call (by kernel_rfl) (ar1 (hp.V 4 rfl rfl)) ((body_stamped.calls aI bt _  c8).mono fun _ _ h => ⟨_, h.1, h.2.below, rfl⟩)) ?_
  refine .oy 2 35 rfl rfl ((decide_eq_false c4)) (fun a w hS hI hp => does_val (x_not rfl (hp.V 5 rfl rfl)) rfl) ?_
  refine .on rfl (fun a w hS hI hp => does_val (x_pickF rfl ((hp.V 2 rfl rfl).trans (bF (decide_eq_false c4))) (hp.V 6 rfl rfl)) rfl) ?_
  exact .nil
 clear hS
 intro dR cY hS bY hp
 replace hS := ((((((hS.nil).cons (hS.get 6 rfl)).cons (hS.get 5 rfl)).cons (hS.get 4 rfl)).cons (hS.get 3 rfl)).cons (hS.get 2 rfl)).cons (hS.get 1 rfl)
 have cz : sl _ 40 = .bool (!bt) := hp 7 (by decide)
 have hS := hS.cons cz
 clear hp cz
 refine df _ _ ?_
 refine wp_cond_false ((hS.get 0 rfl).trans (bF (congrArg (!·) c5))) ?_
 refine wp_skip ?_
 refine de _ _ ?_
 refine wp_seq_k (fun d3 dg => ?_)
 refine wp_seq_k (fun d4 dh => ?_)
 refine reg_seq_tail 7 (I := I4_ w w3 w5 cY) (ps := [IsV (.slice A1 l1.length bH), VI a2, IsV (.tuple #[.int .i64 aG, .bool ac]), IsV (.tuple #[.int .i64 aG, .bool ac]), VI aG, VB ac, VP g4 8]) (by kernel_rfl) ?_ ?_ rfl hS ⟨bY.1, bY.2.1, bY.2.2.1, (bR cY)⟩ ?_ ?_
 ·exact bs4
 ·exact .v (.v (.v (.v (.v (.v (.v (.nil)))))))
 ·refine .ms 5 rfl rfl rfl ?_
  refine .ms 6 rfl rfl rfl ?_
  refine .on rfl (fun a w hS hI hp => does_call (by kernel_rfl) (ar2 (hp.V 0 rfl rfl) (hp.V 1 rfl rfl)) ((stamp_Get.calls k _ _ l1 a2 aG ac _ (Kd.C_below HR1 hI.1) HC1 c9).mono fun _ _ h => ⟨_, h.1, h.2, rfl⟩)) ?_
  refine .mv 2 rfl rfl rfl ?_
  iterate 2 refine .on rfl (fun a w hS hI hp => does_val (x_extract rfl (hp.V 3 rfl rfl) rfl) rfl) ?_
  refine .on rfl (fun a w hS hI hp => does_val (x_fieldE (b := 0) rfl (hS.get 4 rfl) Try.underlying28 rfl rfl (by kernel_rfl)) rfl) ?_
  exact .nil
 clear hS
 intro dS eq hS bG hp
 replace hS := ((((((hS.nil).cons (hS.get 6 rfl)).cons (hS.get 5 rfl)).cons (hS.get 4 rfl)).cons (hS.get 3 rfl)).cons (hS.get 2 rfl)).cons (hS.get 1 rfl)
 have cA : sl _ 45 = .int .i64 aG := hp 4 (by decide)
 have cB : sl _ 46 = .bool ac := hp 5 (by decide)
 have cC : sl _ 47 = .pointer (some ⟨g4, 8, none⟩) := hp 6 (by decide)
 have hS := hS.cons cA
 have hS := hS.cons cB
 have hS := hS.cons cC
 clear hp cA cB cC
 show wpList _ _ _ [_, _] _ _
 refine list_step rfl (does_store (g := g4) (off := 8) (v := .int .i64 aG) (new := (body_Get.c1 aI bw bx bz bA bB bC bD aG bE a4 a5 a6 a7 a8 a9 ba bb bc bd be bf bg)) rfl (hS.get 0 rfl) (hS.get 2 rfl) ((bG.2.1.block g4 (blk_lt aE)).trans aE) (by kernel_rfl) (by kernel_rfl) (by kernel_rfl) (by kernel_rfl)) ?_
 rintro dX cM ⟨rfl, bM, hT⟩
 have cv := hT.blk ((bG.2.2.1.block g6 (blk_lt b0)).trans b0) cw
 have cb := hT.below bG.1 b1 (bG.1).size
 clear hT
 refine list_step rfl (R := fun v w' => Below _ _ w' ∧ (VB ac) v w') (does_val (x_assign rfl (hS.get 1 rfl)) rfl) ?_
 rintro dl cZ ⟨hb, he⟩
 have cc := below_step cb hb
 have bL := below_step (bR cM) hb
 obtain rfl : dl = .bool ac := he
 refine hS.next (v := .bool ac) (d := 11) rfl (by decide) (by rfl) ?_
 clear hS
 intro dT hS
 refine wpList_nil ?_
 refine dh _ _ ?_
 refine wp_seq_k (fun d5 di => ?_)
 refine reg_seq (I := I3_ w cM cZ) (ps := [VB ac, VB (!ac)]) (by kernel_rfl) ?_ ?_ rfl hS ⟨cc, bL, (bR cZ)⟩ ?_ ?_
 ·exact bs3
 ·exact .v (.v (.nil))
 ·refine .ms 0 rfl rfl rfl ?_
  refine .on rfl (fun a w hS hI hp => does_val (x_not rfl (hp.V 0 rfl rfl)) rfl) ?_
  exact .nil
 clear hS
 intro dU c0 hS cI hp
 replace hS := ((((((hS.nil).cons (hS.get 9 rfl)).cons (hS.get 8 rfl)).cons (hS.get 7 rfl)).cons (hS.get 6 rfl)).cons (hS.get 5 rfl)).cons (hS.get 4 rfl)
 have cD : sl _ 49 = .bool (!ac) := hp 1 (by decide)
 have hS := hS.cons cD
 clear hp cD
 refine di _ _ ?_
 refine wp_cond_false ((hS.get 0 rfl).trans (bF (congrArg (!·) c6))) ?_
 refine wp_skip ?_
 refine dg _ _ ?_
 refine wp_seq_k (fun d6 dj => ?_)
 refine reg_seq_tail 2 (I := I3_ w cM c0) (ps := [VI a2, VI (wrap64 (a2 + 10))]) (by kernel_rfl) ?_ ?_ rfl hS ⟨cI.1, cI.2.1, (bR c0)⟩ ?_ ?_
 ·exact bs3
 ·exact .v (.v (.nil))
 ·refine .ms 6 rfl rfl rfl ?_
  refine .on rfl (fun a w hS hI hp => does_val (x_bin rfl (hp.V 0 rfl rfl) (rfl) (b_add _ _ _ _ _)) rfl) ?_
  exact .nil
 clear hS
 intro dV dC hS cJ hp
 replace hS := ((((((hS.nil).cons (hS.get 6 rfl)).cons (hS.get 5 rfl)).cons (hS.get 4 rfl)).cons (hS.get 3 rfl)).cons (hS.get 2 rfl)).cons (hS.get 1 rfl)
 have cE : sl _ 52 = .int .i64 (wrap64 (a2 + 10)) := hp 1 (by decide)
 have hS := hS.cons cE
 clear hp cE
 show wpList _ _ _ [_] _ _
 refine list_step rfl (R := fun v w' => Below _ _ w' ∧ (VI (wrap64 (a2 + 10))) v w') (does_val (x_assign rfl (hS.get 0 rfl)) rfl) ?_
 rintro dm er ⟨hb, he⟩
 have cd := below_step cJ.1 hb
 have aZ := below_step cJ.2.1 hb
 have cQ := below_step (bR dC) hb
 obtain rfl : dm = .int .i64 (wrap64 (a2 + 10)) := he
 replace hS := ((((((hS.nil).cons (hS.get 5 rfl)).cons (hS.get 4 rfl)).cons (hS.get 3 rfl)).cons (hS.get 2 rfl)).cons (hS.get 1 rfl)).cons (hS.get 0 rfl)
 refine hS.next (v := .int .i64 (wrap64 (a2 + 10))) (d := 2) rfl (by decide) (by rfl) ?_
 clear hS
 intro dW hS
 refine wpList_nil ?_
 refine dj _ _ ?_
 replace hS := ((((((hS.nil).cons (hS.get 2 rfl)).cons (hS.get 3 rfl)).cons (hS.get 4 rfl)).cons (hS.get 5 rfl)).cons (hS.get 0 rfl)).cons (hS.get 6 rfl)
 exact wp_label_seq (J1 _ _ ⟨l1, A1, bH, wrap64 (a2 + 10), aI, bw, bx, bz, bA, bB, bC, bD, aG, bE, a4, a5, a6, a7, a8, a9, ba, bb, bc, bd, be, bf, bg, g4, 0, 0, 0, 0, 0, 0, 0, 0, 0, 0, 0, 0, 0, 0, 0, 0, 0, 0, 0, 0, 0, 0, 0, g6, a2, aF, H, hS, cd, HC1, (HR1), b1, ((aZ.block g4 (blk_lt bM)).trans bM), (Nat.le_trans (cU).size b2), ((aZ.block g6 (blk_lt cv)).trans cv), cw⟩)
end Go.Proofs.Ytiomlbkakiienaa.P
