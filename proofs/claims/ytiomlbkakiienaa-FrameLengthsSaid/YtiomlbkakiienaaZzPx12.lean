/- Functions and loops of the given program as Lean functions, and that the code comes to what they say: written by this session's own program; Lean checks it. -/
import Derived.Test.YtiomlbkakiienaaZzPx0
import Derived.Test.YtiomlbkakiienaaZzPx1
import Derived.Test.YtiomlbkakiienaaZzPx2
import Derived.Test.YtiomlbkakiienaaZzPx5
import Derived.Test.YtiomlbkakiienaaZzPx11
namespace Go.Proofs.Ytiomlbkakiienaa.P
open Go.RowKit Go.Proofs.YtiomlbkakiienaaW.PrintWords Go.Proofs.YtiomlbkakiienaaW.PrintLast Go.Proofs.YtiomlbkakiienaaW.PrintMore
attribute [local go_sem] max2_int min2_int max_two min_two max_three min_three max_four min_four   -- for this text's walks alone
set_option linter.unusedVariables false
set_option linter.unusedSimpArgs false
attribute [local go_sem high] eqA43
/-! ### carillonlaw00_Place: function 15 -/
/-! ### carillonlaw09_FrameCuts: function 4: by our own printer -/
/-! ### carillonlaw09_FrameLengths: function 5: by our own printer -/
def carillonlaw09_FrameLengths.f (k : Nat)  : Option (Bool) := (frame_Put.f k 12 0 0 0 0 0 0 0 0 0 0 0 0 0 0 0 0 0 0 0 0 0 0 [(⟨9, strOfNums (List.replicate (352 : Int).toNat (0 : Int))⟩ : S43)]).bind fun t13 => (if 0 ≤ (wrap64 (352 + 2)) then (if (wrap64 (352 + 2) : Int).toNat * 1 ≤ 281474976710656 then ((frame_Put.f k 12 0 0 0 0 0 0 0 0 0 0 0 0 0 0 0 0 0 0 0 0 0 0 [(⟨9, strOfNums (List.replicate (wrap64 (352 + 2) : Int).toNat (0 : Int))⟩ : S43)]).bind fun t17 => ((frame_Get.f k t13.1).bind fun t21 => (if t13.2 = true then (if t17.2 = true then (some false) else (if (t13.1.size : Int) = 400 then (if t21.2.2.2.2.2.2.2.2.2.2.2.2.2.2.2.2.2.2.2.2.2.2.2.2 = 0 then (if ((t21.1 == 12) && ((t21.2.1 == 0) && ((t21.2.2.1 == 0) && ((t21.2.2.2.1 == 0) && ((t21.2.2.2.2.1 == 0) && ((t21.2.2.2.2.2.1 == 0) && ((t21.2.2.2.2.2.2.1 == 0) && ((t21.2.2.2.2.2.2.2.1 == 0) && ((t21.2.2.2.2.2.2.2.2.1 == 0) && ((t21.2.2.2.2.2.2.2.2.2.1 == 0) && ((t21.2.2.2.2.2.2.2.2.2.2.1 == 0) && ((t21.2.2.2.2.2.2.2.2.2.2.2.1 == 0) && ((t21.2.2.2.2.2.2.2.2.2.2.2.2.1 == 0) && ((t21.2.2.2.2.2.2.2.2.2.2.2.2.2.1 == 0) && ((t21.2.2.2.2.2.2.2.2.2.2.2.2.2.2.1 == 0) && ((t21.2.2.2.2.2.2.2.2.2.2.2.2.2.2.2.1 == 0) && ((t21.2.2.2.2.2.2.2.2.2.2.2.2.2.2.2.2.1 == 0) && ((t21.2.2.2.2.2.2.2.2.2.2.2.2.2.2.2.2.2.1 == 0) && ((t21.2.2.2.2.2.2.2.2.2.2.2.2.2.2.2.2.2.2.1 == 0) && ((t21.2.2.2.2.2.2.2.2.2.2.2.2.2.2.2.2.2.2.2.1 == 0) && ((t21.2.2.2.2.2.2.2.2.2.2.2.2.2.2.2.2.2.2.2.2.1 == 0) && ((t21.2.2.2.2.2.2.2.2.2.2.2.2.2.2.2.2.2.2.2.2.2.1 == 0) && (t21.2.2.2.2.2.2.2.2.2.2.2.2.2.2.2.2.2.2.2.2.2.2.1 == 0))))))))))))))))))))))) = true then (if (t21.2.2.2.2.2.2.2.2.2.2.2.2.2.2.2.2.2.2.2.2.2.2.2.1.length : Int) = 1 then (if 0 < (t21.2.2.2.2.2.2.2.2.2.2.2.2.2.2.2.2.2.2.2.2.2.2.2.1.length : Int) then (if (((rd_T43 t21.2.2.2.2.2.2.2.2.2.2.2.2.2.2.2.2.2.2.2.2.2.2.2.1 0).f1).size : Int) = 352 then ((carillonlaw09_awake.f k ).bind fun t33 => (some t33)) else (some false)) else (none)) else (some false)) else (some false)) else (some false)) else (some false))) else (some false)))) else (none)) else (none))
open Go.Proofs.Ytiomlbkakiienaa.E in
set_option maxRecDepth 100000 in
theorem carillonlaw09_FrameLengths.eql28 (x y : Operand) (w : World) (a0 a1 a2 a3 a4 a5 a6 a7 a8 a9 a10 a11 a12 a13 a14 a15 a16 a17 a18 a19 a20 a21 a22 b0 b1 b2 b3 b4 b5 b6 b7 b8 b9 b10 b11 b12 b13 b14 b15 b16 b17 b18 b19 b20 b21 b22 : Int) : (do eqGuard .eql 28 x y (.agg #[.int .i64 a0, .int .i64 a1, .int .i64 a2, .int .i64 a3, .int .u64 a4, .int .i64 a5, .int .i64 a6, .int .i64 a7, .int .i64 a8, .int .u64 a9, .int .i64 a10, .int .i64 a11, .int .i64 a12, .int .i64 a13, .int .i64 a14, .int .i64 a15, .int .i64 a16, .int .u64 a17, .int .i64 a18, .int .i64 a19, .int .i64 a20, .int .i64 a21, .int .i64 a22]) (.agg #[.int .i64 b0, .int .i64 b1, .int .i64 b2, .int .i64 b3, .int .u64 b4, .int .i64 b5, .int .i64 b6, .int .i64 b7, .int .i64 b8, .int .u64 b9, .int .i64 b10, .int .i64 b11, .int .i64 b12, .int .i64 b13, .int .i64 b14, .int .i64 b15, .int .i64 b16, .int .u64 b17, .int .i64 b18, .int .i64 b19, .int .i64 b20, .int .i64 b21, .int .i64 b22]); binOp .eql 28 (.agg #[.int .i64 a0, .int .i64 a1, .int .i64 a2, .int .i64 a3, .int .u64 a4, .int .i64 a5, .int .i64 a6, .int .i64 a7, .int .i64 a8, .int .u64 a9, .int .i64 a10, .int .i64 a11, .int .i64 a12, .int .i64 a13, .int .i64 a14, .int .i64 a15, .int .i64 a16, .int .u64 a17, .int .i64 a18, .int .i64 a19, .int .i64 a20, .int .i64 a21, .int .i64 a22]) (.agg #[.int .i64 b0, .int .i64 b1, .int .i64 b2, .int .i64 b3, .int .u64 b4, .int .i64 b5, .int .i64 b6, .int .i64 b7, .int .i64 b8, .int .u64 b9, .int .i64 b10, .int .i64 b11, .int .i64 b12, .int .i64 b13, .int .i64 b14, .int .i64 b15, .int .i64 b16, .int .u64 b17, .int .i64 b18, .int .i64 b19, .int .i64 b20, .int .i64 b21, .int .i64 b22]) : Sem Value).run Try.prog w = .ok (.bool ((a0 == b0) && ((a1 == b1) && ((a2 == b2) && ((a3 == b3) && ((a4 == b4) && ((a5 == b5) && ((a6 == b6) && ((a7 == b7) && ((a8 == b8) && ((a9 == b9) && ((a10 == b10) && ((a11 == b11) && ((a12 == b12) && ((a13 == b13) && ((a14 == b14) && ((a15 == b15) && ((a16 == b16) && ((a17 == b17) && ((a18 == b18) && ((a19 == b19) && ((a20 == b20) && ((a21 == b21) && (a22 == b22)))))))))))))))))))))))) w := by
  have hu3 := Try.underlying3
  have hu22 := Try.underlying22
  have hu24 := Try.underlying24
  have hu26 := Try.underlying26
  have hu28 := Try.underlying28
  conv => lhs; simp [eqGuard, go_sem, hu3, hu22, hu24, hu26, hu28]
  exact ite_and (ite_and (ite_and (ite_and (ite_and (ite_and (ite_and (ite_and (ite_and (ite_and (ite_and (ite_and (ite_and (ite_and (ite_and (ite_and (ite_and (ite_and (ite_and (ite_and (ite_and (ite_and (ite_last))))))))))))))))))))))
open Go.Proofs.Ytiomlbkakiienaa.E in
theorem carillonlaw09_FrameLengths.flat43 : Flat k43 (fun x => [.int .i64 x.f0, .string x.f1]) := ⟨fun w x cs h => k43_open h, fun w base x => k43_mkM w base _ x⟩
abbrev carillonlaw09_FrameLengths.v0 (x0 x1 x2 x3 x4 x5 x6 x7 x8 x9 x10 x11 x12 x13 x14 x15 x16 x17 x18 x19 x20 x21 x22 : Int) : Value := .agg #[.int .i64 x0, .int .i64 x1, .int .i64 x2, .int .i64 x3, .int .u64 x4, .int .i64 x5, .int .i64 x6, .int .i64 x7, .int .i64 x8, .int .u64 x9, .int .i64 x10, .int .i64 x11, .int .i64 x12, .int .i64 x13, .int .i64 x14, .int .i64 x15, .int .i64 x16, .int .u64 x17, .int .i64 x18, .int .i64 x19, .int .i64 x20, .int .i64 x21, .int .i64 x22]
abbrev carillonlaw09_FrameLengths.c1 (x0 x1 x2 x3 x4 x5 x6 x7 x8 x9 x10 x11 x12 x13 x14 x15 x16 x17 x18 x19 x20 x21 x22 : Int) : Array Value := #[.int .i64 x0, .int .i64 x1, .int .i64 x2, .int .i64 x3, .int .u64 x4, .int .i64 x5, .int .i64 x6, .int .i64 x7, .int .i64 x8, .int .u64 x9, .int .i64 x10, .int .i64 x11, .int .i64 x12, .int .i64 x13, .int .i64 x14, .int .i64 x15, .int .i64 x16, .int .u64 x17, .int .i64 x18, .int .i64 x19, .int .i64 x20, .int .i64 x21, .int .i64 x22]
open Go.Proofs.Ytiomlbkakiienaa.E in
set_option maxHeartbeats 60000000 in
set_option maxRecDepth 100000 in
theorem carillonlaw09_FrameLengths.calls (k : Nat) (w : World) (h : carillonlaw09_FrameLengths.f k  = some true) :
    Calls Try.prog 5 #[] w fun e w' => e = .returned (.bool true) ∧ Below w.heap.size w w' := by
 have H := h
 clear h
 unfold carillonlaw09_FrameLengths.f at H
 obtain ⟨bY, bF, H⟩ := Option.bind_eq_some_iff.mp H
 obtain ⟨aq, aD⟩ := bY
 (try dsimp only at H)
 by_cases c1 : 0 ≤ (wrap64 (352 + 2))
 rotate_left
 ·rw [if_neg c1] at H
  exact absurd H (by simp)
 rw [if_pos c1] at H
 by_cases c2 : (wrap64 (352 + 2) : Int).toNat * 1 ≤ 281474976710656
 rotate_left
 ·rw [if_neg c2] at H
  exact absurd H (by simp)
 rw [if_pos c2] at H
 obtain ⟨bZ, bG, H⟩ := Option.bind_eq_some_iff.mp H
 obtain ⟨aI, aC⟩ := bZ
 (try dsimp only at H)
 obtain ⟨ca, bH, H⟩ := Option.bind_eq_some_iff.mp H
 obtain ⟨ar, au, av, aw, ax, ay, az, aA, aB, ac, ad, ae, af, ag, ah, ai, aj, ak, al, am, an, ao, ap, aa, ab⟩ := ca
 (try dsimp only at H)
 by_cases c3 : aD = true
 rotate_left
 ·rw [if_neg c3] at H
  exact absurd H (by simp)
 rw [if_pos c3] at H
 by_cases c4 : aC = true
 ·rw [if_pos c4] at H
  exact absurd H (by simp)
 rw [if_neg c4] at H
 by_cases c5 : (aq.size : Int) = 400
 rotate_left
 ·rw [if_neg c5] at H
  exact absurd H (by simp)
 rw [if_pos c5] at H
 by_cases c6 : ab = 0
 rotate_left
 ·rw [if_neg c6] at H
  exact absurd H (by simp)
 rw [if_pos c6] at H
 by_cases c7 : ((ar == 12) && ((au == 0) && ((av == 0) && ((aw == 0) && ((ax == 0) && ((ay == 0) && ((az == 0) && ((aA == 0) && ((aB == 0) && ((ac == 0) && ((ad == 0) && ((ae == 0) && ((af == 0) && ((ag == 0) && ((ah == 0) && ((ai == 0) && ((aj == 0) && ((ak == 0) && ((al == 0) && ((am == 0) && ((an == 0) && ((ao == 0) && (ap == 0))))))))))))))))))))))) = true
 rotate_left
 ·rw [if_neg c7] at H
  exact absurd H (by simp)
 rw [if_pos c7] at H
 by_cases c8 : (aa.length : Int) = 1
 rotate_left
 ·rw [if_neg c8] at H
  exact absurd H (by simp)
 rw [if_pos c8] at H
 by_cases c9 : 0 < (aa.length : Int)
 rotate_left
 ·rw [if_neg c9] at H
  exact absurd H (by simp)
 rw [if_pos c9] at H
 by_cases bg : (((rd_T43 aa 0).f1).size : Int) = 352
 rotate_left
 ·rw [if_neg bg] at H
  exact absurd H (by simp)
 rw [if_pos bg] at H
 obtain ⟨aV, bI, H⟩ := Option.bind_eq_some_iff.mp H
 have hret := Option.some.inj H
 clear H
 refine calls_of_wp (fn := Try.f5) (by kernel_rfl) rfl ?_
 have hS := St.enter #[] 74 (by simp) [] (by simp)
 have bU := Below.refl w.heap.size w
 refine wp_seq_k (fun K1 bV => ?_)
 refine reg_seq (I := I1_ w) (ps := [VB false]) (by kernel_rfl) ?_ ?_ rfl hS bU ?_ ?_
 ·exact bs1
 ·exact .v (.nil)
 ·refine .on rfl (fun a w hS hI hp => does_val (x_assign rfl (rfl)) rfl) ?_
  exact .nil
 clear hS
 intro cq w3 hS bC hp
 clear hp
 refine bV _ _ ?_
 refine wp_seq_k (fun K4 bW => ?_)
 refine reg_seq_tail 2 (I := I2_ w w3) (ps := [IsV ((carillonlaw09_FrameLengths.v0 12 0 0 0 0 0 0 0 0 0 0 0 0 0 0 0 0 0 0 0 0 0 0)), IsB (carillonlaw09_FrameLengths.c1 0 0 0 0 0 0 0 0 0 0 0 0 0 0 0 0 0 0 0 0 0 0 0) 28 w3.heap.size]) (by kernel_rfl) ?_ ?_ rfl hS ⟨bC, (bR w3)⟩ ?_ ?_
 ·exact bs2
 ·exact .v (.cons (Stays.b _ _ _) (.nil))
 ·refine .on rfl (fun a w hS hI hp => does_val (x_build (vs := [(0, .int .i64 12)]) rfl (by rw [Array.toList_map]; exact (show [(0, a.eval (.const (.int .i64 12)))] = _ from (li_cons (rfl) rfl))) (by kernel_rfl)) rfl) ?_
  refine .on rfl (fun a w hS hI hp => does_var (x_alloc rfl (by kernel_rfl)) (hI.2).size) ?_
  exact .nil
 clear hS
 intro cr w6 hS bk hp
 have bq : sl _ 10 = (carillonlaw09_FrameLengths.v0 12 0 0 0 0 0 0 0 0 0 0 0 0 0 0 0 0 0 0 0 0 0 0) := hp 0 (by decide)
 obtain ⟨g7, bv, bj, bi⟩ := (show IsB _ 28 _ (sl _ 1) _ from hp 1 (by decide))
 have hS := hS.cons bq
 have hS := hS.cons bv
 clear hp bq bv
 show wpList _ _ _ [_] _ _
 refine list_step rfl (does_storeAll (g := g7) (cs := (carillonlaw09_FrameLengths.c1 12 0 0 0 0 0 0 0 0 0 0 0 0 0 0 0 0 0 0 0 0 0 0)) rfl (hS.get 0 rfl) (hS.get 1 rfl) (((bR w6).block g7 (blk_lt bi)).trans bi) (by kernel_rfl) (by kernel_rfl) (by kernel_rfl)) ?_
 rintro ct w8 ⟨rfl, aF, hT⟩
 have bp := hT.below bk.1 (Nat.le_trans (bC).size bj) (bk.1).size
 have bo := hT.below bk.2 bj (bk.2).size
 clear hT
 refine wpList_nil ?_
 refine bW _ _ ?_
 refine wp_seq_k (fun K9 bX => ?_)
 refine reg_seq (I := I3_ w w3 w8) (ps := [VI 352]) (by kernel_rfl) ?_ ?_ rfl hS ⟨bp, bo, (bR w8)⟩ ?_ ?_
 ·exact bs3
 ·exact .v (.nil)
 ·refine .on rfl (fun a w hS hI hp => does_val (x_assign rfl (rfl)) rfl) ?_
  exact .nil
 clear hS
 intro cc aN hS be hp
 replace hS := (hS.nil).cons (hS.get 0 rfl)
 have bw : sl _ 2 = .int .i64 352 := hp 0 (by decide)
 have hS := hS.cons bw
 clear hp bw
 refine bX _ _ ?_
 refine wp_seq_k (fun cm bJ => ?_)
 refine reg_any (I := I4_ w w3 w8 aN) (ps := [IsV ((carillonlaw09_FrameLengths.v0 12 0 0 0 0 0 0 0 0 0 0 0 0 0 0 0 0 0 0 0 0 0 0)), VI 352, IsR (Kd.int .u8) 5 aN.heap.size (List.replicate (352 : Int).toNat (0 : Int)), IsV (.string (strOfNums (List.replicate (352 : Int).toNat (0 : Int)))), IsV (.agg #[.int .i64 9, .string (strOfNums (List.replicate (352 : Int).toNat (0 : Int)))]), IsR k43 43 aN.heap.size [(⟨9, strOfNums (List.replicate (352 : Int).toNat (0 : Int))⟩ : S43)], IsV (.tuple #[.string aq, .bool aD]), IsV (.tuple #[.string aq, .bool aD]), IsV (.string aq), VB aD, IsV (.string aq), VB aD]) (by kernel_rfl) (by kernel_rfl) ?_ ?_ rfl hS ⟨be.1, be.2.1, be.2.2, (bR aN)⟩ ?_ ?_
 ·exact bs4
 ·exact .v (.v (.cons (Stays.r _ _ _ _) (.v (.v (.cons (Stays.r _ _ _ _) (.v (.v (.v (.v (.v (.v (.nil))))))))))))
 ·refine .on rfl (fun a w hS hI hp => does_loadrow rfl (hS.get 1 rfl) (((hI.2.2.1).block g7 (blk_lt aF)).trans aF) Try.underlying28 rfl (by kernel_rfl) rfl) ?_
  refine .ms 0 rfl rfl rfl ?_
  refine .on rfl (fun a w hS hI hp => does_make (flat_int .u8) aN.heap.size 36 5 (.tmp 13) (.tmp 13) rfl rfl 352 (hp.V 1 rfl rfl) (hp.V 1 rfl rfl) (by kernel_rfl) (.int .u8 0) (0 : Int) 1 (by kernel_rfl) rfl (by decide) (by decide) (by decide) (by decide) (hI.2.2.2).size) ?_
  refine .on rfl (fun a w hS hI hp => (IsC.of_r (hp.V 2 rfl rfl)).elim fun A_ h_ => h_.elim fun c_ h_ => h_.elim fun hv_ h_ => h_.elim fun hl_ hc_ => does_val (x_conv rfl hv_ (Kd.C_string (by kernel_rfl) (e := 5) (by kernel_rfl) (by kernel_rfl) hc_)) rfl) ?_
  refine .on rfl (fun a w hS hI hp => does_val (x_build (vs := [(0, .int .i64 9), (1, .string (strOfNums (List.replicate (352 : Int).toNat (0 : Int))))]) rfl (by rw [Array.toList_map]; exact (show [(0, a.eval (.const (.int .i64 9))), (1, a.eval (.tmp 15))] = _ from (li_cons (rfl) (li_cons (hp.V 3 rfl rfl) rfl)))) (by kernel_rfl)) rfl) ?_
  refine .on rfl (fun a w hS hI hp => does_litT carillonlaw09_FrameLengths.flat43 aN.heap.size 29 43 _ [(0, .agg #[.int .i64 9, .string (strOfNums (List.replicate (352 : Int).toNat (0 : Int)))])] (⟨9, strOfNums (List.replicate (352 : Int).toNat (0 : Int))⟩ : S43) rfl (by kernel_rfl) (by rw [Array.toList_map]; exact (show [(0, a.eval (.tmp 16))] = _ from (li_cons (hp.V 4 rfl rfl) rfl))) (by kernel_rfl) (hI.2.2.2).size) ?_
  refine .on rfl (fun a w hS hI hp => (IsC.of_r (hp.V 5 rfl rfl)).elim fun A_ h_ => h_.elim fun c_ h_ => h_.elim fun hv_ h_ => h_.elim fun hl_ hc_ => does_call (by kernel_rfl) (ar2 (hp.V 0 rfl rfl) (hv_)) ((frame_Put.calls k 12 0 0 0 0 0 0 0 0 0 0 0 0 0 0 0 0 0 0 0 0 0 0 _ _ [(⟨9, strOfNums (List.replicate (352 : Int).toNat (0 : Int))⟩ : S43)] aq aD _ hc_ hl_ bF).mono fun _ _ h => ⟨_, h.1, h.2, rfl⟩)) ?_
  refine .mv 6 rfl rfl rfl rfl ?_
  iterate 2 refine .on rfl (fun a w hS hI hp => does_val (x_extract rfl (hp.V 7 rfl rfl) rfl) rfl) ?_
  refine .asg 8 rfl rfl rfl rfl ?_
  refine .asg 9 rfl rfl rfl rfl ?_
  exact .nil
 clear hS
 intro cd aO hS bf hp
 have bx : sl _ 3 = .string aq := hp 10 (by decide)
 have bz : sl _ 4 = .bool aD := hp 11 (by decide)
 have hS := hS.cons bx
 have hS := hS.cons bz
 clear hp bx bz
 refine bJ _ _ ?_
 refine wp_seq_k (fun cn bK => ?_)
 refine reg_any (I := I4_ w w3 w8 aO) (ps := [IsV ((carillonlaw09_FrameLengths.v0 12 0 0 0 0 0 0 0 0 0 0 0 0 0 0 0 0 0 0 0 0 0 0)), VI 352, VI (wrap64 (352 + 2)), IsR (Kd.int .u8) 5 aO.heap.size (List.replicate (wrap64 (352 + 2) : Int).toNat (0 : Int)), IsV (.string (strOfNums (List.replicate (wrap64 (352 + 2) : Int).toNat (0 : Int)))), IsV (.agg #[.int .i64 9, .string (strOfNums (List.replicate (wrap64 (352 + 2) : Int).toNat (0 : Int)))]), IsR k43 43 aO.heap.size [(⟨9, strOfNums (List.replicate (wrap64 (352 + 2) : Int).toNat (0 : Int))⟩ : S43)], IsV (.tuple #[.string aI, .bool aC]), IsV (.tuple #[.string aI, .bool aC]), IsV (.string aI), VB aC, IsV (.string aI), VB aC]) (by kernel_rfl) (by kernel_rfl) ?_ ?_ rfl hS ⟨bf.1, bf.2.1, bf.2.2.1, (bR aO)⟩ ?_ ?_
 ·exact bs4
 ·exact .v (.v (.v (.cons (Stays.r _ _ _ _) (.v (.v (.cons (Stays.r _ _ _ _) (.v (.v (.v (.v (.v (.v (.nil)))))))))))))
 ·refine .on rfl (fun a w hS hI hp => does_loadrow rfl (hS.get 3 rfl) (((hI.2.2.1).block g7 (blk_lt aF)).trans aF) Try.underlying28 rfl (by kernel_rfl) rfl) ?_
  refine .ms 2 rfl rfl rfl ?_
  refine .on rfl (fun a w hS hI hp => does_val (x_bin rfl (hp.V 1 rfl rfl) (rfl) (b_add _ _ _ _ _)) rfl) ?_
  refine .on rfl (fun a w hS hI hp => does_make (flat_int .u8) aO.heap.size 36 5 (.tmp 24) (.tmp 24) rfl rfl (wrap64 (352 + 2)) (hp.V 2 rfl rfl) (hp.V 2 rfl rfl) (by kernel_rfl) (.int .u8 0) (0 : Int) 1 (by kernel_rfl) rfl (by decide) (by decide) c1 c2 (hI.2.2.2).size) ?_
  refine .on rfl (fun a w hS hI hp => (IsC.of_r (hp.V 3 rfl rfl)).elim fun A_ h_ => h_.elim fun c_ h_ => h_.elim fun hv_ h_ => h_.elim fun hl_ hc_ => does_val (x_conv rfl hv_ (Kd.C_string (by kernel_rfl) (e := 5) (by kernel_rfl) (by kernel_rfl) hc_)) rfl) ?_
  refine .on rfl (fun a w hS hI hp => does_val (x_build (vs := [(0, .int .i64 9), (1, .string (strOfNums (List.replicate (wrap64 (352 + 2) : Int).toNat (0 : Int))))]) rfl (by rw [Array.toList_map]; exact (show [(0, a.eval (.const (.int .i64 9))), (1, a.eval (.tmp 26))] = _ from (li_cons (rfl) (li_cons (hp.V 4 rfl rfl) rfl)))) (by kernel_rfl)) rfl) ?_
  refine .on rfl (fun a w hS hI hp => does_litT carillonlaw09_FrameLengths.flat43 aO.heap.size 29 43 _ [(0, .agg #[.int .i64 9, .string (strOfNums (List.replicate (wrap64 (352 + 2) : Int).toNat (0 : Int)))])] (⟨9, strOfNums (List.replicate (wrap64 (352 + 2) : Int).toNat (0 : Int))⟩ : S43) rfl (by kernel_rfl) (by rw [Array.toList_map]; exact (show [(0, a.eval (.tmp 27))] = _ from (li_cons (hp.V 5 rfl rfl) rfl))) (by kernel_rfl) (hI.2.2.2).size) ?_
  refine .on rfl (fun a w hS hI hp => (IsC.of_r (hp.V 6 rfl rfl)).elim fun A_ h_ => h_.elim fun c_ h_ => h_.elim fun hv_ h_ => h_.elim fun hl_ hc_ => does_call (by kernel_rfl) (ar2 (hp.V 0 rfl rfl) (hv_)) ((frame_Put.calls k 12 0 0 0 0 0 0 0 0 0 0 0 0 0 0 0 0 0 0 0 0 0 0 _ _ [(⟨9, strOfNums (List.replicate (wrap64 (352 + 2) : Int).toNat (0 : Int))⟩ : S43)] aI aC _ hc_ hl_ bG).mono fun _ _ h => ⟨_, h.1, h.2, rfl⟩)) ?_
  refine .mv 7 rfl rfl rfl rfl ?_
  iterate 2 refine .on rfl (fun a w hS hI hp => does_val (x_extract rfl (hp.V 8 rfl rfl) rfl) rfl) ?_
  refine .asg 9 rfl rfl rfl rfl ?_
  refine .asg 10 rfl rfl rfl rfl ?_
  exact .nil
 clear hS
 intro ce aJ hS aK hp
 have bA : sl _ 6 = .bool aC := hp 12 (by decide)
 have hS := hS.cons bA
 clear hp bA
 refine bK _ _ ?_
 refine wp_seq_k (fun co bL => ?_)
 refine reg_seq_tail 7 (I := I4_ w w3 w8 aJ) (ps := [IsV (.string aq), IsT (fun v0_ => #[(carillonlaw09_FrameLengths.v0 ar au av aw ax ay az aA aB ac ad ae af ag ah ai aj ak al am an ao ap), v0_, .int .i64 ab]) (IsR k43 43 aJ.heap.size aa), IsT (fun v0_ => #[(carillonlaw09_FrameLengths.v0 ar au av aw ax ay az aA aB ac ad ae af ag ah ai aj ak al am an ao ap), v0_, .int .i64 ab]) (IsR k43 43 aJ.heap.size aa), IsV ((carillonlaw09_FrameLengths.v0 ar au av aw ax ay az aA aB ac ad ae af ag ah ai aj ak al am an ao ap)), IsR k43 43 aJ.heap.size aa, VI ab, IsB (carillonlaw09_FrameLengths.c1 0 0 0 0 0 0 0 0 0 0 0 0 0 0 0 0 0 0 0 0 0 0 0) 28 aJ.heap.size]) (by kernel_rfl) ?_ ?_ rfl hS ⟨aK.1, aK.2.1, aK.2.2.1, (bR aJ)⟩ ?_ ?_
 ·exact bs4
 ·exact .v (.cons (Stays.t _ (Stays.r _ _ _ _)) (.cons (Stays.t _ (Stays.r _ _ _ _)) (.v (.cons (Stays.r _ _ _ _) (.v (.cons (Stays.b _ _ _) (.nil)))))))
 ·refine .ms 2 rfl rfl rfl ?_
  refine .on rfl (fun a w hS hI hp => does_call (by kernel_rfl) (ar1 (hp.V 0 rfl rfl)) ((frame_Get.calls k aq ar au av aw ax ay az aA aB ac ad ae af ag ah ai aj ak al am an ao ap aa ab _  bH).mono fun _ _ h => h.elim fun v0 h => ⟨_, h.1, h.2.2, v0, rfl, Kd.R_lower h.2.1 hI.2.2.2.size⟩)) ?_
  refine .on rfl (fun a w hS hI hp => does_val (x_move rfl rfl) (hp.V 1 rfl rfl)) ?_
  refine .on rfl (fun a w hS hI hp => (hp.V 2 rfl rfl).elim fun v0 h0 => does_val (x_extract rfl h0.1 rfl) rfl) ?_
  refine .on rfl (fun a w hS hI hp => (hp.V 2 rfl rfl).elim fun v0 h0 => does_val (x_extract rfl h0.1 rfl) h0.2) ?_
  refine .on rfl (fun a w hS hI hp => (hp.V 2 rfl rfl).elim fun v0 h0 => does_val (x_extract rfl h0.1 rfl) rfl) ?_
  refine .on rfl (fun a w hS hI hp => does_var (x_alloc rfl (by kernel_rfl)) (hI.2.2.2).size) ?_
  exact .nil
 clear hS
 intro cf aW hS aE hp
 have br : sl _ 35 = (carillonlaw09_FrameLengths.v0 ar au av aw ax ay az aA aB ac ad ae af ag ah ai aj ak al am an ao ap) := hp 3 (by decide)
 obtain ⟨aL, aM, bd, ck, cj⟩ := Kd.R_reads (show Kd.R k43 43 aW aJ.heap.size (fun _ => True) (sl _ 36) aa from hp 4 (by decide))
 have bO : Kd.R k43 43 aW aJ.heap.size (fun _ => True) (.slice aL aa.length aM) aa := bd ▸ (hp 4 (by decide))
 have bs : sl _ 37 = .int .i64 ab := hp 5 (by decide)
 obtain ⟨bh, bB, aH, aG⟩ := (show IsB _ 28 _ (sl _ 7) _ from hp 6 (by decide))
 have hS := hS.cons br
 have hS := hS.cons bd
 have hS := hS.cons bs
 have hS := hS.cons bB
 clear hp br bd bs bB
 show wpList _ _ _ [_, _, _] _ _
 refine list_step rfl (does_storeAll (g := bh) (cs := (carillonlaw09_FrameLengths.c1 ar au av aw ax ay az aA aB ac ad ae af ag ah ai aj ak al am an ao ap)) rfl (hS.get 0 rfl) (hS.get 3 rfl) (((bR aW).block bh (blk_lt aG)).trans aG) (by kernel_rfl) (by kernel_rfl) (by kernel_rfl)) ?_
 rintro cl bD ⟨rfl, aU, hT⟩
 have bP := hT.rowT rfl (((bR aW).block bh (blk_lt aG)).trans aG) (Kd.R_below bO (bR aW)) (by decide)
 have bN := (Kd.R_reads' bP).2.2
 have bl := hT.below aE.1 (Nat.le_trans (aK.1).size aH) (aE.1).size
 have aX := hT.below aE.2.1 (Nat.le_trans (aK.2.1).size aH) (aE.2.1).size
 have aY := hT.below aE.2.2.1 (Nat.le_trans (aK.2.2.1).size aH) (aE.2.2.1).size
 have aP := hT.below aE.2.2.2 aH (aE.2.2.2).size
 clear hT
 refine list_step rfl (R := fun v w' => Below _ _ w' ∧ (IsV (.slice aL aa.length aM)) v w') (does_val (x_assign rfl (hS.get 2 rfl)) rfl) ?_
 rintro bS cb ⟨hb, he⟩
 have bm := below_step bl hb
 have aZ := below_step aX hb
 have ba := below_step aY hb
 have aQ := below_step aP hb
 have aR := below_step (bR bD) hb
 obtain rfl : bS = .slice aL aa.length aM := he
 refine hS.next (v := .slice aL aa.length aM) (d := 8) rfl (by decide) (by rfl) ?_
 clear hS
 intro cg hS
 refine list_step rfl (R := fun v w' => Below _ _ w' ∧ (VI ab) v w') (does_val (x_assign rfl (hS.get 2 rfl)) rfl) ?_
 rintro bT bE ⟨hb, he⟩
 have bn := below_step bm hb
 have bb := below_step aZ hb
 have bc := below_step ba hb
 have aS := below_step aQ hb
 have aT := below_step aR hb
 have bt := below_step (bR cb) hb
 obtain rfl : bT = .int .i64 ab := he
 refine hS.next (v := .int .i64 ab) (d := 9) rfl (by decide) (by rfl) ?_
 clear hS
 intro ch hS
 refine wpList_nil ?_
 refine bL _ _ ?_
 refine wp_seq_k (fun cp bM => ?_)
 refine reg_seq (I := I6_ w w3 w8 aJ bD bE) (ps := [VB aD, VB aD, VB aC, VB (!aC), VB (!aC), VB (!aC), IsV (.string aq), VI (aq.size : Int), VB (decide ((aq.size : Int) = 400)), VB (decide ((aq.size : Int) = 400)), VB (decide ((aq.size : Int) = 400)), VI ab, VB (decide (ab = 0)), VB (decide (ab = 0)), VB (decide (ab = 0)), IsV ((carillonlaw09_FrameLengths.v0 ar au av aw ax ay az aA aB ac ad ae af ag ah ai aj ak al am an ao ap)), IsV ((carillonlaw09_FrameLengths.v0 12 0 0 0 0 0 0 0 0 0 0 0 0 0 0 0 0 0 0 0 0 0 0)), VB ((ar == 12) && ((au == 0) && ((av == 0) && ((aw == 0) && ((ax == 0) && ((ay == 0) && ((az == 0) && ((aA == 0) && ((aB == 0) && ((ac == 0) && ((ad == 0) && ((ae == 0) && ((af == 0) && ((ag == 0) && ((ah == 0) && ((ai == 0) && ((aj == 0) && ((ak == 0) && ((al == 0) && ((am == 0) && ((an == 0) && ((ao == 0) && (ap == 0))))))))))))))))))))))), VB ((ar == 12) && ((au == 0) && ((av == 0) && ((aw == 0) && ((ax == 0) && ((ay == 0) && ((az == 0) && ((aA == 0) && ((aB == 0) && ((ac == 0) && ((ad == 0) && ((ae == 0) && ((af == 0) && ((ag == 0) && ((ah == 0) && ((ai == 0) && ((aj == 0) && ((ak == 0) && ((al == 0) && ((am == 0) && ((an == 0) && ((ao == 0) && (ap == 0))))))))))))))))))))))), VB ((ar == 12) && ((au == 0) && ((av == 0) && ((aw == 0) && ((ax == 0) && ((ay == 0) && ((az == 0) && ((aA == 0) && ((aB == 0) && ((ac == 0) && ((ad == 0) && ((ae == 0) && ((af == 0) && ((ag == 0) && ((ah == 0) && ((ai == 0) && ((aj == 0) && ((ak == 0) && ((al == 0) && ((am == 0) && ((an == 0) && ((ao == 0) && (ap == 0))))))))))))))))))))))), IsV (.slice aL aa.length aM), VI (aa.length : Int), VB (decide ((aa.length : Int) = 1)), VB (decide ((aa.length : Int) = 1)), VB (decide ((aa.length : Int) = 1)), IsV (.slice aL aa.length aM), IsAT [.int .i64 ((rd_T43 aa 0).f0), .string ((rd_T43 aa 0).f1)], IsAT [.string ((rd_T43 aa 0).f1)], IsV (.string ((rd_T43 aa 0).f1)), VI (((rd_T43 aa 0).f1).size : Int), VI 352, VB (decide ((((rd_T43 aa 0).f1).size : Int) = 352)), VB (decide ((((rd_T43 aa 0).f1).size : Int) = 352)), VB (decide ((((rd_T43 aa 0).f1).size : Int) = 352)), VB aV, VB aV, VB aV]) (by kernel_rfl) ?_ ?_ rfl hS ⟨bn, bb, bc, aS, aT, (bR bE)⟩ ?_ ?_
 ·exact bs6
 ·exact .v (.v (.v (.v (.v (.v (.v (.v (.v (.v (.v (.v (.v (.v (.v (.v (.v (.v (.v (.v (.v (.v (.v (.v (.v (.v (.cons (Stays.at_ _) (.cons (Stays.at_ _) (.v (.v (.v (.v (.v (.v (.v (.v (.v (.nil)))))))))))))))))))))))))))))))))))))
 ·refine .ms 7 rfl rfl rfl ?_
  refine .mv 0 rfl rfl rfl rfl ?_
  refine .oy 1 39 rfl rfl rfl rfl rfl c3 (fun a w hS hI hp => does_val (x_move rfl (hS.get 6 rfl)) rfl) ?_
  refine .oy 1 39 rfl rfl rfl rfl rfl c3 (fun a w hS hI hp => does_val (x_not rfl (hp.V 2 rfl rfl)) rfl) ?_
  refine .pt 1 3 rfl rfl rfl rfl c3 rfl rfl ?_
  refine .mv 4 rfl rfl rfl rfl ?_
  refine .oy 5 43 rfl rfl rfl rfl rfl ((congrArg (!·) (Bool.eq_false_iff.2 c4))) (fun a w hS hI hp => does_val (x_move rfl (hS.get 8 rfl)) rfl) ?_
  refine .oy 5 43 rfl rfl rfl rfl rfl ((congrArg (!·) (Bool.eq_false_iff.2 c4))) (fun a w hS hI hp => does_val (x_lenS rfl (by kernel_rfl) (hp.V 6 rfl rfl)) rfl) ?_
  refine .oy 5 43 rfl rfl rfl rfl rfl ((congrArg (!·) (Bool.eq_false_iff.2 c4))) (fun a w hS hI hp => does_val (x_bin rfl (hp.V 7 rfl rfl) (rfl) (b_eql _ _ _ _ _ _)) rfl) ?_
  refine .pt 5 8 rfl rfl rfl rfl ((congrArg (!·) (Bool.eq_false_iff.2 c4))) rfl rfl ?_
  refine .mv 9 rfl rfl rfl rfl ?_
  refine .oy 10 48 rfl rfl rfl rfl rfl ((decide_eq_true c5)) (fun a w hS hI hp => does_val (x_move rfl (hS.get 0 rfl)) rfl) ?_
  refine .oy 10 48 rfl rfl rfl rfl rfl ((decide_eq_true c5)) (fun a w hS hI hp => does_val (x_bin rfl (hp.V 11 rfl rfl) (rfl) (b_eql _ _ _ _ _ _)) rfl) ?_
  refine .pt 10 12 rfl rfl rfl rfl ((decide_eq_true c5)) rfl rfl ?_
  refine .mv 13 rfl rfl rfl rfl ?_
  refine .oy 14 52 rfl rfl rfl rfl rfl ((decide_eq_true c6)) (fun a w hS hI hp => does_loadrow rfl (hS.get 2 rfl) (((hI.2.2.2.2.1).block bh (blk_lt aU)).trans aU) Try.underlying28 rfl (by kernel_rfl) rfl) ?_
  refine .oy 14 52 rfl rfl rfl rfl rfl ((decide_eq_true c6)) (fun a w hS hI hp => does_loadrow rfl (hS.get 10 rfl) (((hI.2.2.1).block g7 (blk_lt aF)).trans aF) Try.underlying28 rfl (by kernel_rfl) rfl) ?_
  refine .oy 14 52 rfl rfl rfl rfl rfl ((decide_eq_true c6)) (fun a w hS hI hp => does_val (x_bin rfl (hp.V 15 rfl rfl) (hp.V 16 rfl rfl) (carillonlaw09_FrameLengths.eql28 _ _ _ ar au av aw ax ay az aA aB ac ad ae af ag ah ai aj ak al am an ao ap 12 0 0 0 0 0 0 0 0 0 0 0 0 0 0 0 0 0 0 0 0 0 0)) rfl) ?_
  refine .pt 14 17 rfl rfl rfl rfl ((decide_eq_true c6)) rfl rfl ?_
  refine .mv 18 rfl rfl rfl rfl ?_
  refine .oy 19 57 rfl rfl rfl rfl rfl c7 (fun a w hS hI hp => does_val (x_move rfl (hS.get 1 rfl)) rfl) ?_
  refine .oy 19 57 rfl rfl rfl rfl rfl c7 (fun a w hS hI hp => does_val (x_len (e := 43) rfl (by kernel_rfl) (hp.V 20 rfl rfl)) rfl) ?_
  refine .oy 19 57 rfl rfl rfl rfl rfl c7 (fun a w hS hI hp => does_val (x_bin rfl (hp.V 21 rfl rfl) (rfl) (b_eql _ _ _ _ _ _)) rfl) ?_
  refine .pt 19 22 rfl rfl rfl rfl c7 rfl rfl ?_
  refine .mv 23 rfl rfl rfl rfl ?_
  refine .oy 24 62 rfl rfl rfl rfl rfl ((decide_eq_true c8)) (fun a w hS hI hp => does_val (x_move rfl (hS.get 1 rfl)) rfl) ?_
  refine .oy 24 62 rfl rfl rfl rfl rfl ((decide_eq_true c8)) (fun a w hS hI hp => does_indexT carillonlaw09_FrameLengths.flat43 (e := 43) (xs := aa) (i := 0) z43 rfl (hp.V 25 rfl rfl) (rfl) (by kernel_rfl) (by kernel_rfl) (by decide) c9 c9 (by decide) ((Kd.C_below bN hI.2.2.2.2.1))) ?_
  refine .oy 24 62 rfl rfl rfl rfl rfl ((decide_eq_true c8)) (fun a w hS hI hp => does_fieldT (cs := [.int .i64 ((rd_T43 aa 0).f0), .string ((rd_T43 aa 0).f1)]) (off := 1) rfl (hp.V 26 rfl rfl) Try.underlying43 rfl rfl (by kernel_rfl) rfl) ?_
  refine .oy 24 62 rfl rfl rfl rfl rfl ((decide_eq_true c8)) (fun a w hS hI hp => does_loadA (d := .string) rfl (hp.V 27 rfl rfl) (by kernel_rfl) rfl) ?_
  refine .oy 24 62 rfl rfl rfl rfl rfl ((decide_eq_true c8)) (fun a w hS hI hp => does_val (x_lenS rfl (by kernel_rfl) (hp.V 28 rfl rfl)) rfl) ?_
  refine .oy 24 62 rfl rfl rfl rfl rfl ((decide_eq_true c8)) (fun a w hS hI hp => does_val (x_move rfl (hS.get 9 rfl)) rfl) ?_
  refine .oy 24 62 rfl rfl rfl rfl rfl ((decide_eq_true c8)) (fun a w hS hI hp => does_val (x_bin rfl (hp.V 29 rfl rfl) (hp.V 30 rfl rfl) (b_eql _ _ _ _ _ _)) rfl) ?_
  refine .pt 24 31 rfl rfl rfl rfl ((decide_eq_true c8)) rfl rfl ?_
  refine .mv 32 rfl rfl rfl rfl ?_
  refine .oy 33 71 rfl rfl rfl rfl rfl ((decide_eq_true bg)) (fun a w hS hI hp => does_call (by kernel_rfl) rfl ((carillonlaw09_awake.calls k  aV _  bI).mono fun _ _ h => ⟨_, h.1, h.2, rfl⟩)) ?_
  refine .pt 33 34 rfl rfl rfl rfl ((decide_eq_true bg)) rfl rfl ?_
  refine .asg 35 rfl rfl rfl rfl ?_
  exact .nil
 clear hS
 intro ci cu hS bQ hp
 replace hS := hS.nil
 have bu : sl _ 0 = .bool aV := hp 36 (by decide)
 have hS := hS.cons bu
 clear hp bu
 refine bM _ _ ?_
 refine wp_ret ?_
 (try simp only [Exit.then, Exit.inBlock, Exit.jump, Exit.noGoto])
 exact bodyPost_ret (v := .bool true) (by rw [results_tmp rfl]; exact congrArg (Result.ok · _) ((hS.get 0 rfl).trans (congrArg Value.bool hret))) hS.nodef ⟨rfl, bQ.1⟩
def carillonlaw09_FrameLengths.Pure : Prop := ∃ k, carillonlaw09_FrameLengths.f k  = some true
theorem carillonlaw09_FrameLengths.walk (P : carillonlaw09_FrameLengths.Pure)  (w : World)  :
  Calls Try.prog 5 #[] w fun e w' => e = .returned (.bool true) ∧ Below w.heap.size w w' := by
 obtain ⟨k, h⟩ := P  
 refine (carillonlaw09_FrameLengths.calls k  w  h).mono ?_
 rintro e w' ⟨rfl, hd⟩
 exact ⟨rfl, hd⟩
/-! ### carillonlaw00_SameTlvs: function 16 -/
def carillonlaw00_SameTlvs.l0 : Nat → List (S43) → List (S43) → Int → Option (Bool)
  | 0, _, _, _ => none
  | k + 1, x0, x1, x5 => if x5 < (x0.length : Int) then (if 0 ≤ x5 then (if x5 < (x1.length : Int) then (if (!(((rd_T43 x0 x5).f0) == ((rd_T43 x1 x5).f0)) || (!((((rd_T43 x0 x5).f1).toList) == (((rd_T43 x1 x5).f1).toList)))) = true then (some false) else (carillonlaw00_SameTlvs.l0 k x0 x1 (wrap64 (x5 + 1)))) else (none)) else (none)) else (some true)
def carillonlaw00_SameTlvs.f (k : Nat) (l0 : List (S43)) (l1 : List (S43)) : Option (Bool) := if (l0.length : Int) = (l1.length : Int) then (carillonlaw00_SameTlvs.l0 k l0 l1 0) else (some false)
end Go.Proofs.Ytiomlbkakiienaa.P
