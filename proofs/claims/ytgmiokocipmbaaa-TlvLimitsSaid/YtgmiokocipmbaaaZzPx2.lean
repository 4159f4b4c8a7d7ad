/- Functions and loops of the given program as Lean functions, and that the code comes to what they say: written by this session's own program; Lean checks it. -/
import Derived.Test.YtgmiokocipmbaaaZzPx0
import Derived.Test.YtgmiokocipmbaaaZzPx1
namespace Go.Proofs.Ytgmiokocipmbaaa.P
open Go.RowKit Go.Proofs.YtgmiokocipmbaaaW.PrintWords Go.Proofs.YtgmiokocipmbaaaW.PrintLast Go.Proofs.YtgmiokocipmbaaaW.PrintMore
attribute [local go_sem] max2_int min2_int max_two min_two max_three min_three max_four min_four   -- for this text's walks alone
set_option linter.unusedVariables false
set_option linter.unusedSimpArgs false
def tlv_Get.l1 (k : Nat) : Nat → (List Int) → Int → (List (S26)) → Int → Option (List (S26) × Int)
  | 0, _, _, _, _ => none
  | n1 + 1, y1_0, x1_1, y1_6, x1_7 => if x1_1 < (y1_0.length : Int) then ((octets_Get.f k y1_0 (wrap64 (x1_1 + 2)) 2).bind fun t1006 => (if (y1_6.length : Int) = 8 then (some ([], 7)) else (if t1006.2 = true then (if t1006.1 > (wrap64 ((wrap64 ((y1_0.length : Int) - x1_1)) - 4)) then (some ([], 2)) else (if (Int.tmod t1006.1 2) = 0 then (if x1_7 = 0 then ((octets_Get.f k y1_0 x1_1 2).bind fun t1024 => (if 0 ≤ (wrap64 (x1_1 + 4)) then (if (wrap64 (x1_1 + 4)) ≤ (wrap64 ((wrap64 (x1_1 + 4)) + t1006.1)) then (if (wrap64 ((wrap64 (x1_1 + 4)) + t1006.1)) ≤ (y1_0.length : Int) then (if (y1_6.length + [(⟨t1024.1, strOfNums ((y1_0.take (wrap64 ((wrap64 (x1_1 + 4)) + t1006.1) : Int).toNat).drop (wrap64 (x1_1 + 4) : Int).toNat)⟩ : S26)].length) * 24 ≤ 140737488355328 then (tlv_Get.l1 k n1 y1_0 (wrap64 (x1_1 + (wrap64 (4 + t1006.1)))) (y1_6 ++ [(⟨t1024.1, strOfNums ((y1_0.take (wrap64 ((wrap64 (x1_1 + 4)) + t1006.1) : Int).toNat).drop (wrap64 (x1_1 + 4) : Int).toNat)⟩ : S26)] : List S26) x1_7) else (none)) else (none)) else (none)) else (none))) else (some ([], x1_7))) else (some ([], 4)))) else (some ([], 2))))) else (if x1_7 = 0 then (some (y1_6, 0)) else (some ([], x1_7)))
def tlv_Get.f (k : Nat) (l0 : List Int) (a1 : Int) : Option (List (S26) × Int) := if a1 < 0 then (some ([], 1)) else (if a1 > (l0.length : Int) then (some ([], 1)) else (tlv_Get.l1 k k l0 a1 [] 0))
open Go.Proofs.Ytgmiokocipmbaaa.E in
theorem tlv_Get.flat26 : Flat k26 (fun x => [.int .i64 x.f0, .string x.f1]) := ⟨fun w x cs h => k26_open h, fun w base x => k26_mkM w base _ x⟩
open Go.Proofs.Ytgmiokocipmbaaa.E in
set_option maxHeartbeats 60000000 in
set_option maxRecDepth 100000 in
theorem tlv_Get.calls (k : Nat) (A0 : Option Addr) (bW : Nat) (l0 : List Int) (a1 : Int) (r1 : List (S26)) (r2 : Int) (w : World) (HR0 : Kd.C (Kd.int .u8) w A0 l0.length l0) (HC0 : l0.length ≤ bW) (h : tlv_Get.f k l0 a1 = some (r1, r2)) :
    Calls Try.prog 21 #[.slice A0 l0.length bW, .int .i64 a1] w fun e w' => ∃ v0_ : Value, e = .returned (.tuple #[v0_, .int .i64 r2]) ∧ Kd.R k26 26 w' w.heap.size (fun _ => True) v0_ r1 ∧ Below w.heap.size w w' := by
 have H := h
 clear h
 unfold tlv_Get.f at H
 refine calls_of_wp (fn := Try.f21) (by kernel_rfl) rfl ?_
 have hS := St.enter #[.slice A0 l0.length bW, .int .i64 a1] 81 (by simp) [(0, .slice A0 l0.length bW), (1, .int .i64 a1)] (by simp)
 have cB := Below.refl w.heap.size w
 refine wp_seq_k (fun K1 cN => ?_)
 refine reg_seq (I := I1_ w) (ps := [IsV (.slice none 0 0), VI 0]) (by kernel_rfl) ?_ ?_ rfl hS cB ?_ ?_
 ·exact bs1
 ·exact .v (.v (.nil))
 ·refine .on rfl (fun a w hS hI hp => does_val (x_assign rfl (rfl)) rfl) ?_
  refine .on rfl (fun a w hS hI hp => does_val (x_assign rfl (rfl)) rfl) ?_
  exact .nil
 clear hS
 intro dm w3 hS cx hp
 clear hp
 refine cN _ _ ?_
 refine wp_scope_straight ?_
 refine wp_seq_k (fun K4 cR => ?_)
 refine wp_seq_k (fun K5 ct => ?_)
 by_cases c1 : a1 < 0
 ·rw [if_pos c1] at H
  simp only [Option.some.injEq, Prod.mk.injEq] at H
  obtain ⟨rfl, rfl⟩ := H
  refine reg_seq (I := I2_ w w3) (ps := [VI a1, VB (decide (a1 < 0)), VB (decide (a1 < 0)), VU, VU, VU, VU, VB true]) (by kernel_rfl) ?_ ?_ rfl hS ⟨cx, (bR w3)⟩ ?_ ?_
  ·exact bs2
  ·exact .v (.v (.v (.v (.v (.v (.v (.v (.nil))))))))
  ·refine .ms 1 rfl rfl rfl ?_
   refine .on rfl (fun a w hS hI hp => does_val (x_bin rfl (hp.V 0 rfl rfl) (rfl) (b_lss _ _ _ _ _ _)) rfl) ?_
   refine .mv 1 rfl rfl rfl ?_
   iterate 4 refine .sn 2 14 rfl rfl ((decide_eq_true c1)) ?_
   refine .on rfl (fun a w hS hI hp => does_val (x_pickT rfl ((hp.V 2 rfl rfl).trans (bT (decide_eq_true c1))) (rfl)) rfl) ?_
   exact .nil
  clear hS
  intro cM w7 hS bw hp
  have bb : sl _ 19 = .bool true := hp 7 (by decide)
  have hS := hS.cons bb
  clear hp bb
  refine ct _ _ ?_
  refine wp_cond_true ((hS.get 0 rfl).trans (bT rfl)) ?_
  refine wp_seq_k (fun K8 bm => ?_)
  refine reg_seq (I := I2_ w w7) (ps := [IsV (.slice none 0 0), VI 1]) (by kernel_rfl) ?_ ?_ rfl hS ⟨bw.1, (bR w7)⟩ ?_ ?_
  ·exact bs2
  ·exact .v (.v (.nil))
  ·refine .on rfl (fun a w hS hI hp => does_val (x_assign rfl (rfl)) rfl) ?_
   refine .on rfl (fun a w hS hI hp => does_val (x_assign rfl (rfl)) rfl) ?_
   exact .nil
  clear hS
  intro cr bx hS bd hp
  replace hS := hS.nil
  have ai : sl _ 4 = .slice none 0 0 := hp 0 (by decide)
  have aj : sl _ 5 = .int .i64 1 := hp 1 (by decide)
  have hS := hS.cons ai
  have hS := hS.cons aj
  clear hp ai aj
  refine bm _ _ ?_
  refine wp_ret ?_
  (try simp only [Exit.then, Exit.inBlock, Exit.jump, Exit.noGoto])
  exact bodyPost_ret (v := .tuple #[.slice none 0 0, .int .i64 1]) (results_list (rs := [.tmp 4, .tmp 5]) rfl (by simp) (Vals.at (hS.get 1 rfl) (Vals.at (hS.get 0 rfl) .nil))) hS.nodef ⟨.slice none 0 0, rfl, Kd.R_nil _ _ _ _ _, bd.1⟩
 rw [if_neg c1] at H
 refine reg_seq (I := I2_ w w3) (ps := [VI a1, VB (decide (a1 < 0)), VB (decide (a1 < 0)), VI a1, IsV (.slice A0 l0.length bW), VI (l0.length : Int), VB (decide (a1 > (l0.length : Int))), VB (decide (a1 > (l0.length : Int)))]) (by kernel_rfl) ?_ ?_ rfl hS ⟨cx, (bR w3)⟩ ?_ ?_
 ·exact bs2
 ·exact .v (.v (.v (.v (.v (.v (.v (.v (.nil))))))))
 ·refine .ms 1 rfl rfl rfl ?_
  refine .on rfl (fun a w hS hI hp => does_val (x_bin rfl (hp.V 0 rfl rfl) (rfl) (b_lss _ _ _ _ _ _)) rfl) ?_
  refine .mv 1 rfl rfl rfl ?_
  refine .oy 2 14 rfl rfl ((decide_eq_false c1)) (fun a w hS hI hp => does_val (x_move rfl (hS.get 1 rfl)) rfl) ?_
  refine .oy 2 14 rfl rfl ((decide_eq_false c1)) (fun a w hS hI hp => does_val (x_move rfl (hS.get 0 rfl)) rfl) ?_
  refine .oy 2 14 rfl rfl ((decide_eq_false c1)) (fun a w hS hI hp => does_val (x_len (e := 5) rfl (by kernel_rfl) (hp.V 4 rfl rfl)) rfl) ?_
  refine .oy 2 14 rfl rfl ((decide_eq_false c1)) (fun a w hS hI hp => does_val (x_bin rfl (hp.V 3 rfl rfl) (hp.V 5 rfl rfl) (b_gtr _ _ _ _ _ _)) rfl) ?_
  refine .on rfl (fun a w hS hI hp => does_val (x_pickF rfl ((hp.V 2 rfl rfl).trans (bF (decide_eq_false c1))) (hp.V 6 rfl rfl)) rfl) ?_
  exact .nil
 clear hS
 intro cM w7 hS bw hp
 have bb : sl _ 19 = .bool (decide (a1 > (l0.length : Int))) := hp 7 (by decide)
 have hS := hS.cons bb
 clear hp bb
 refine ct _ _ ?_
 by_cases c2 : a1 > (l0.length : Int)
 ·rw [if_pos c2] at H
  simp only [Option.some.injEq, Prod.mk.injEq] at H
  obtain ⟨rfl, rfl⟩ := H
  refine wp_cond_true ((hS.get 0 rfl).trans (bT (decide_eq_true c2))) ?_
  refine wp_seq_k (fun K8 bm => ?_)
  refine reg_seq (I := I2_ w w7) (ps := [IsV (.slice none 0 0), VI 1]) (by kernel_rfl) ?_ ?_ rfl hS ⟨bw.1, (bR w7)⟩ ?_ ?_
  ·exact bs2
  ·exact .v (.v (.nil))
  ·refine .on rfl (fun a w hS hI hp => does_val (x_assign rfl (rfl)) rfl) ?_
   refine .on rfl (fun a w hS hI hp => does_val (x_assign rfl (rfl)) rfl) ?_
   exact .nil
  clear hS
  intro cr bx hS bd hp
  replace hS := hS.nil
  have ai : sl _ 4 = .slice none 0 0 := hp 0 (by decide)
  have aj : sl _ 5 = .int .i64 1 := hp 1 (by decide)
  have hS := hS.cons ai
  have hS := hS.cons aj
  clear hp ai aj
  refine bm _ _ ?_
  refine wp_ret ?_
  (try simp only [Exit.then, Exit.inBlock, Exit.jump, Exit.noGoto])
  exact bodyPost_ret (v := .tuple #[.slice none 0 0, .int .i64 1]) (results_list (rs := [.tmp 4, .tmp 5]) rfl (by simp) (Vals.at (hS.get 1 rfl) (Vals.at (hS.get 0 rfl) .nil))) hS.nodef ⟨.slice none 0 0, rfl, Kd.R_nil _ _ _ _ _, bd.1⟩
 rw [if_neg c2] at H
 refine wp_cond_false ((hS.get 0 rfl).trans (bF (decide_eq_false c2))) ?_
 refine wp_skip ?_
 refine cR _ _ ?_
 refine wp_seq_k (fun K8 bm => ?_)
 refine reg_seq (I := I2_ w w7) (ps := [IsV (.slice none 0 0)]) (by kernel_rfl) ?_ ?_ rfl hS ⟨bw.1, (bR w7)⟩ ?_ ?_
 ·exact bs2
 ·exact .v (.nil)
 ·refine .on rfl (fun a w hS hI hp => does_val (x_assign rfl (rfl)) rfl) ?_
  exact .nil
 clear hS
 intro cr bx hS bd hp
 replace hS := ((hS.nil).cons (hS.get 2 rfl)).cons (hS.get 1 rfl)
 have cu : sl _ 6 = .slice none 0 0 := hp 0 (by decide)
 have hS := hS.cons cu
 clear hp cu
 refine bm _ _ ?_
 refine wp_seq_k (fun di cy => ?_)
 refine reg_seq (I := I2_ w bx) (ps := [VI 0]) (by kernel_rfl) ?_ ?_ rfl hS ⟨bd.1, (bR bx)⟩ ?_ ?_
 ·exact bs2
 ·exact .v (.nil)
 ·refine .on rfl (fun a w hS hI hp => does_val (x_assign rfl (rfl)) rfl) ?_
  exact .nil
 clear hS
 intro dh dn hS cA hp
 have aA : sl _ 7 = .int .i64 0 := hp 0 (by decide)
 have hS := hS.cons aA
 clear hp aA
 refine cy _ _ ?_
 refine wp_seq_k (fun dj cz => ?_)
 refine wp_label ?_
 refine cz _ _ ?_
 refine wp_seq_k (fun dk aX => ?_)
 refine wp_block ?_
 replace hS := ((((hS.nil).cons (hS.get 0 rfl)).cons (hS.get 1 rfl)).cons (hS.get 3 rfl)).cons (hS.get 2 rfl)
 refine wp_loop_ghost (fun n_ a_ af => ∃ (ac : List Int) (aq : Option Addr) (ar : Nat) (ab : Int) (ae : List (S26)) (am : Option Addr) (al : Nat) (ah : Int), tlv_Get.l1 k n_ ac ab ae ah = some (r1, r2) ∧ St 81 [(0, .slice aq ac.length ar), (1, .int .i64 ab), (6, .slice am ae.length al), (7, .int .i64 ah)] a_ ∧ Below w.heap.size w af ∧ ac.length ≤ ar ∧ Kd.C (Kd.int .u8) w aq ac.length ac ∧ ae.length ≤ al ∧ Kd.R k26 26 af w.heap.size (fun _ => True) (.slice am ae.length al) ae) k ⟨l0, A0, bW, a1, [], none, 0, 0, H, hS, cA.1, HC0, (HR0), (Nat.le_refl _), (Kd.R_nil _ _ _ _ _)⟩ ?_
 clear H hS
 rintro n1 dl af ⟨ac, aq, ar, ab, ae, am, al, ah, H, hS, bD, a2, aR, df, bn⟩
 rcases n1 with _ | n1
 ·exact absurd H (by simp [tlv_Get.l1])
 rw [tlv_Get.l1] at H
 (try dsimp only at H)
 refine wp_seq_k (fun cW bX => ?_)
 refine wp_seq_k (fun cX bY => ?_)
 refine reg_seq (I := I2_ w af) (ps := [VI ab, IsV (.slice aq ac.length ar), VI (ac.length : Int), VB (decide (ab < (ac.length : Int)))]) (by kernel_rfl) ?_ ?_ rfl hS ⟨bD, (bR af)⟩ ?_ ?_
 ·exact bs2
 ·exact .v (.v (.v (.v (.nil))))
 ·refine .ms 1 rfl rfl rfl ?_
  refine .ms 0 rfl rfl rfl ?_
  refine .on rfl (fun a w hS hI hp => does_val (x_len (e := 5) rfl (by kernel_rfl) (hp.V 1 rfl rfl)) rfl) ?_
  refine .on rfl (fun a w hS hI hp => does_val (x_bin rfl (hp.V 0 rfl rfl) (hp.V 2 rfl rfl) (b_lss _ _ _ _ _ _)) rfl) ?_
  exact .nil
 clear hS
 intro cC a3 hS aS hp
 have b8 : sl _ 23 = .bool (decide (ab < (ac.length : Int))) := hp 3 (by decide)
 have hS := hS.cons b8
 clear hp b8
 refine bY _ _ ?_
 by_cases c3 : ab < (ac.length : Int)
 rotate_left
 ·rw [if_neg c3] at H
  refine wp_cond_false ((hS.get 0 rfl).trans (bF (decide_eq_false c3))) ?_
  refine wp_exit ?_
  (try simp only [Exit.then, Exit.inBlock, reduceIte])
  refine aX _ _ ?_
  refine wp_seq_k (fun ci a6 => ?_)
  refine wp_seq_k (fun cY bZ => ?_)
  refine reg_seq (I := I3_ w af a3) (ps := [VI ah, VB (!decide (ah = 0))]) (by kernel_rfl) ?_ ?_ rfl hS ⟨aS.1, aS.2, (bR a3)⟩ ?_ ?_
  ·exact bs3
  ·exact .v (.v (.nil))
  ·refine .ms 4 rfl rfl rfl ?_
   refine .on rfl (fun a w hS hI hp => does_val (x_bin rfl (hp.V 0 rfl rfl) (rfl) (b_neq _ _ _ _ _ _)) rfl) ?_
   exact .nil
  clear hS
  intro bI aF hS av hp
  replace hS := ((hS.nil).cons (hS.get 4 rfl)).cons (hS.get 3 rfl)
  have ak : sl _ 78 = .bool (!decide (ah = 0)) := hp 1 (by decide)
  have hS := hS.cons ak
  clear hp ak
  refine bZ _ _ ?_
  by_cases c4 : ah = 0
  rotate_left
  ·rw [if_neg c4] at H
   simp only [Option.some.injEq, Prod.mk.injEq] at H
   obtain ⟨rfl, rfl⟩ := H
   refine wp_cond_true ((hS.get 0 rfl).trans (bT (congrArg (!·) (decide_eq_false c4)))) ?_
   refine wp_seq_k (fun bt an => ?_)
   refine reg_seq (I := I3_ w af aF) (ps := [VI ah, IsV (.slice none 0 0), VI ah]) (by kernel_rfl) ?_ ?_ rfl hS ⟨av.1, av.2.1, (bR aF)⟩ ?_ ?_
   ·exact bs3
   ·exact .v (.v (.v (.nil)))
   ·refine .ms 2 rfl rfl rfl ?_
    refine .on rfl (fun a w hS hI hp => does_val (x_assign rfl (rfl)) rfl) ?_
    refine .asg 0 rfl rfl rfl ?_
    exact .nil
   clear hS
   intro bJ cp hS aT hp
   replace hS := hS.nil
   have ai : sl _ 4 = .slice none 0 0 := hp 1 (by decide)
   have aj : sl _ 5 = .int .i64 ah := hp 2 (by decide)
   have hS := hS.cons ai
   have hS := hS.cons aj
   clear hp ai aj
   refine an _ _ ?_
   refine wp_ret ?_
   (try simp only [Exit.then, Exit.inBlock, Exit.jump, Exit.noGoto])
   exact bodyPost_ret (v := .tuple #[.slice none 0 0, .int .i64 ah]) (results_list (rs := [.tmp 4, .tmp 5]) rfl (by simp) (Vals.at (hS.get 1 rfl) (Vals.at (hS.get 0 rfl) .nil))) hS.nodef ⟨.slice none 0 0, rfl, Kd.R_nil _ _ _ _ _, aT.1⟩
  rw [if_pos c4] at H
  simp only [Option.some.injEq, Prod.mk.injEq] at H
  obtain ⟨rfl, rfl⟩ := H
  refine wp_cond_false ((hS.get 0 rfl).trans (bF (congrArg (!·) (decide_eq_true c4)))) ?_
  refine wp_skip ?_
  refine a6 _ _ ?_
  refine wp_seq_k (fun bt an => ?_)
  refine reg_seq (I := I3_ w af aF) (ps := [IsV (.slice am ae.length al), IsV (.slice am ae.length al), VI 0]) (by kernel_rfl) ?_ ?_ rfl hS ⟨av.1, av.2.1, (bR aF)⟩ ?_ ?_
  ·exact bs3
  ·exact .v (.v (.v (.nil)))
  ·refine .ms 1 rfl rfl rfl ?_
   refine .asg 0 rfl rfl rfl ?_
   refine .on rfl (fun a w hS hI hp => does_val (x_assign rfl (rfl)) rfl) ?_
   exact .nil
  clear hS
  intro bJ cp hS aT hp
  replace hS := hS.nil
  have ai : sl _ 4 = .slice am ae.length al := hp 1 (by decide)
  have aj : sl _ 5 = .int .i64 0 := hp 2 (by decide)
  have hS := hS.cons ai
  have hS := hS.cons aj
  clear hp ai aj
  refine an _ _ ?_
  refine wp_ret ?_
  (try simp only [Exit.then, Exit.inBlock, Exit.jump, Exit.noGoto])
  exact bodyPost_ret (v := .tuple #[.slice am ae.length al, .int .i64 0]) (results_list (rs := [.tmp 4, .tmp 5]) rfl (by simp) (Vals.at (hS.get 1 rfl) (Vals.at (hS.get 0 rfl) .nil))) hS.nodef ⟨.slice am ae.length al, rfl, Kd.R_lower (Kd.R_below bn aT.2.1) (Nat.le_refl _), aT.1⟩
 rw [if_pos c3] at H
 obtain ⟨cn, bG, H⟩ := Option.bind_eq_some_iff.mp H
 obtain ⟨aa, ag⟩ := cn
 (try dsimp only at H)
 refine wp_cond_true ((hS.get 0 rfl).trans (bT (decide_eq_true c3))) ?_
 refine wp_skip ?_
 refine bX _ _ ?_
 refine wp_block ?_
 refine wp_seq_k (fun ci a6 => ?_)
 refine reg_seq (I := I3_ w af a3) (ps := [IsV (.slice aq ac.length ar), VI ab, VI (wrap64 (ab + 2)), IsV (.tuple #[.int .i64 aa, .bool ag]), IsV (.tuple #[.int .i64 aa, .bool ag]), VI aa, VB ag, VI aa, VB ag]) (by kernel_rfl) ?_ ?_ rfl hS ⟨aS.1, aS.2, (bR a3)⟩ ?_ ?_
 ·exact bs3
 ·exact .v (.v (.v (.v (.v (.v (.v (.v (.v (.nil)))))))))
 ·refine .ms 1 rfl rfl rfl ?_
  refine .ms 2 rfl rfl rfl ?_
  refine .on rfl (fun a w hS hI hp => does_val (x_bin rfl (hp.V 1 rfl rfl) (rfl) (b_add _ _ _ _ _)) rfl) ?_
  refine .on rfl (fun a w hS hI hp => does_call (by kernel_rfl) (ar3 (hp.V 0 rfl rfl) (hp.V 2 rfl rfl) (rfl)) ((octets_Get.calls k _ _ ac (wrap64 (ab + 2)) 2 aa ag _ (Kd.C_below aR hI.1) a2 bG).mono fun _ _ h => ⟨_, h.1, h.2.below, rfl⟩)) ?_
  refine .mv 3 rfl rfl rfl ?_
  iterate 2 refine .on rfl (fun a w hS hI hp => does_val (x_extract rfl (hp.V 4 rfl rfl) rfl) rfl) ?_
  refine .asg 5 rfl rfl rfl ?_
  refine .asg 6 rfl rfl rfl ?_
  exact .nil
 clear hS
 intro bI aF hS av hp
 replace hS := ((((hS.nil).cons (hS.get 4 rfl)).cons (hS.get 3 rfl)).cons (hS.get 2 rfl)).cons (hS.get 1 rfl)
 have cv : sl _ 8 = .int .i64 aa := hp 7 (by decide)
 have cw : sl _ 9 = .bool ag := hp 8 (by decide)
 have hS := hS.cons cv
 have hS := hS.cons cw
 clear hp cv cw
 refine a6 _ _ ?_
 refine wp_seq_k (fun bt an => ?_)
 refine wp_block ?_
 refine wp_seq_k (fun cZ b0 => ?_)
 refine reg_seq (I := I3_ w af aF) (ps := [IsV (.slice am ae.length al), VI (ae.length : Int), VB (decide ((ae.length : Int) = 8)), VB (decide ((ae.length : Int) = 8))]) (by kernel_rfl) ?_ ?_ rfl hS ⟨av.1, av.2.1, (bR aF)⟩ ?_ ?_
 ·exact bs3
 ·exact .v (.v (.v (.v (.nil))))
 ·refine .ms 4 rfl rfl rfl ?_
  refine .on rfl (fun a w hS hI hp => does_val (x_len (e := 26) rfl (by kernel_rfl) (hp.V 0 rfl rfl)) rfl) ?_
  refine .on rfl (fun a w hS hI hp => does_val (x_bin rfl (hp.V 1 rfl rfl) (rfl) (b_eql _ _ _ _ _ _)) rfl) ?_
  refine .asg 2 rfl rfl rfl ?_
  exact .nil
 clear hS
 intro cD aN hS aC hp
 have b9 : sl _ 31 = .bool (decide ((ae.length : Int) = 8)) := hp 3 (by decide)
 have hS := hS.cons b9
 clear hp b9
 refine b0 _ _ ?_
 by_cases c4 : (ae.length : Int) = 8
 ·rw [if_pos c4] at H
  simp only [Option.some.injEq, Prod.mk.injEq] at H
  obtain ⟨rfl, rfl⟩ := H
  refine wp_cond_true ((hS.get 0 rfl).trans (bT (decide_eq_true c4))) ?_
  replace hS := ((((((hS.nil).cons (hS.get 5 rfl)).cons (hS.get 4 rfl)).cons (hS.get 3 rfl)).cons (hS.get 2 rfl)).cons (hS.get 1 rfl)).cons (hS.get 0 rfl)
  refine reg_seq (I := I3_ w af aN) (ps := [VI 7]) (by kernel_rfl) ?_ ?_ rfl hS ⟨aC.1, aC.2.1, (bR aN)⟩ ?_ ?_
  ·exact bs3
  ·exact .v (.nil)
  ·refine .on rfl (fun a w hS hI hp => does_val (x_assign rfl (rfl)) rfl) ?_
   exact .nil
  clear hS
  intro cE bz hS bo hp
  replace hS := ((((hS.nil).cons (hS.get 5 rfl)).cons (hS.get 4 rfl)).cons (hS.get 3 rfl)).cons (hS.get 2 rfl)
  have aA : sl _ 7 = .int .i64 7 := hp 0 (by decide)
  have hS := hS.cons aA
  clear hp aA
  refine an _ _ ?_
  refine wp_seq_k (fun da cO => ?_)
  refine wp_seq_k (fun cj a7 => ?_)
  refine reg_seq (I := I3_ w af bz) (ps := [VI 7, VB (!decide (7 = 0))]) (by kernel_rfl) ?_ ?_ rfl hS ⟨bo.1, bo.2.1, (bR bz)⟩ ?_ ?_
  ·exact bs3
  ·exact .v (.v (.nil))
  ·refine .ms 0 rfl rfl rfl ?_
   refine .on rfl (fun a w hS hI hp => does_val (x_bin rfl (hp.V 0 rfl rfl) (rfl) (b_neq _ _ _ _ _ _)) rfl) ?_
   exact .nil
  clear hS
  intro bM aH hS ax hp
  have ao : sl _ 52 = .bool (!decide (7 = 0)) := hp 1 (by decide)
  have hS := hS.cons ao
  clear hp ao
  refine a7 _ _ ?_
  refine wp_cond_true ((hS.get 0 rfl).trans (bT (congrArg (!·) (decide_eq_false (by decide))))) ?_
  refine wp_exit ?_
  (try simp only [Exit.then, Exit.inBlock, reduceIte])
  refine aX _ _ ?_
  refine wp_seq_k (fun be aB => ?_)
  refine wp_seq_k (fun cl a8 => ?_)
  refine reg_seq (I := I3_ w af aH) (ps := [VI 7, VB (!decide (7 = 0))]) (by kernel_rfl) ?_ ?_ rfl hS ⟨ax.1, ax.2.1, (bR aH)⟩ ?_ ?_
  ·exact bs3
  ·exact .v (.v (.nil))
  ·refine .ms 1 rfl rfl rfl ?_
   refine .on rfl (fun a w hS hI hp => does_val (x_bin rfl (hp.V 0 rfl rfl) (rfl) (b_neq _ _ _ _ _ _)) rfl) ?_
   exact .nil
  clear hS
  intro bO aI hS ay hp
  replace hS := ((hS.nil).cons (hS.get 5 rfl)).cons (hS.get 1 rfl)
  have ak : sl _ 78 = .bool (!decide (7 = 0)) := hp 1 (by decide)
  have hS := hS.cons ak
  clear hp ak
  refine a8 _ _ ?_
  refine wp_cond_true ((hS.get 0 rfl).trans (bT (congrArg (!·) (decide_eq_false (by decide))))) ?_
  refine wp_seq_k (fun a0 ap => ?_)
  refine reg_seq (I := I3_ w af aI) (ps := [VI 7, IsV (.slice none 0 0), VI 7]) (by kernel_rfl) ?_ ?_ rfl hS ⟨ay.1, ay.2.1, (bR aI)⟩ ?_ ?_
  ·exact bs3
  ·exact .v (.v (.v (.nil)))
  ·refine .ms 1 rfl rfl rfl ?_
   refine .on rfl (fun a w hS hI hp => does_val (x_assign rfl (rfl)) rfl) ?_
   refine .asg 0 rfl rfl rfl ?_
   exact .nil
  clear hS
  intro bg aO hS az hp
  replace hS := hS.nil
  have ai : sl _ 4 = .slice none 0 0 := hp 1 (by decide)
  have aj : sl _ 5 = .int .i64 7 := hp 2 (by decide)
  have hS := hS.cons ai
  have hS := hS.cons aj
  clear hp ai aj
  refine ap _ _ ?_
  refine wp_ret ?_
  (try simp only [Exit.then, Exit.inBlock, Exit.jump, Exit.noGoto])
  exact bodyPost_ret (v := .tuple #[.slice none 0 0, .int .i64 7]) (results_list (rs := [.tmp 4, .tmp 5]) rfl (by simp) (Vals.at (hS.get 1 rfl) (Vals.at (hS.get 0 rfl) .nil))) hS.nodef ⟨.slice none 0 0, rfl, Kd.R_nil _ _ _ _ _, az.1⟩
 rw [if_neg c4] at H
 refine wp_cond_false ((hS.get 0 rfl).trans (bF (decide_eq_false c4))) ?_
 refine wp_seq_k (fun c0 bl => ?_)
 by_cases c5 : ag = true
 rotate_left
 ·rw [if_neg c5] at H
  simp only [Option.some.injEq, Prod.mk.injEq] at H
  obtain ⟨rfl, rfl⟩ := H
  refine reg_seq (I := I3_ w af aN) (ps := [VB ag, VB (!ag), VB (!ag), VU, VU, VU, VU, VU, VU, VU, VB true, VB true]) (by kernel_rfl) ?_ ?_ rfl hS ⟨aC.1, aC.2.1, (bR aN)⟩ ?_ ?_
  ·exact bs3
  ·exact .v (.v (.v (.v (.v (.v (.v (.v (.v (.v (.v (.v (.nil))))))))))))
  ·refine .ms 1 rfl rfl rfl ?_
   refine .on rfl (fun a w hS hI hp => does_val (x_not rfl (hp.V 0 rfl rfl)) rfl) ?_
   refine .mv 1 rfl rfl rfl ?_
   iterate 7 refine .sn 2 38 rfl rfl ((congrArg (!·) (Bool.eq_false_iff.2 c5))) ?_
   refine .on rfl (fun a w hS hI hp => does_val (x_pickT rfl ((hp.V 2 rfl rfl).trans (bT (congrArg (!·) (Bool.eq_false_iff.2 c5)))) (rfl)) rfl) ?_
   refine .asg 10 rfl rfl rfl ?_
   exact .nil
  clear hS
  intro bK aG hS aw hp
  replace hS := (((((hS.nil).cons (hS.get 6 rfl)).cons (hS.get 5 rfl)).cons (hS.get 4 rfl)).cons (hS.get 3 rfl)).cons (hS.get 2 rfl)
  have bc : sl _ 35 = .bool true := hp 11 (by decide)
  have hS := hS.cons bc
  clear hp bc
  refine bl _ _ ?_
  refine wp_cond_true ((hS.get 0 rfl).trans (bT rfl)) ?_
  replace hS := (((((hS.nil).cons (hS.get 4 rfl)).cons (hS.get 3 rfl)).cons (hS.get 2 rfl)).cons (hS.get 1 rfl)).cons (hS.get 0 rfl)
  refine reg_seq (I := I3_ w af aG) (ps := [VI 2]) (by kernel_rfl) ?_ ?_ rfl hS ⟨aw.1, aw.2.1, (bR aG)⟩ ?_ ?_
  ·exact bs3
  ·exact .v (.nil)
  ·refine .on rfl (fun a w hS hI hp => does_val (x_assign rfl (rfl)) rfl) ?_
   exact .nil
  clear hS
  intro bL aV hS aK hp
  replace hS := ((((hS.nil).cons (hS.get 4 rfl)).cons (hS.get 3 rfl)).cons (hS.get 2 rfl)).cons (hS.get 1 rfl)
  have aA : sl _ 7 = .int .i64 2 := hp 0 (by decide)
  have hS := hS.cons aA
  clear hp aA
  refine an _ _ ?_
  refine wp_seq_k (fun ck b1 => ?_)
  refine wp_seq_k (fun be aB => ?_)
  refine reg_seq (I := I3_ w af aV) (ps := [VI 2, VB (!decide (2 = 0))]) (by kernel_rfl) ?_ ?_ rfl hS ⟨aK.1, aK.2.1, (bR aV)⟩ ?_ ?_
  ·exact bs3
  ·exact .v (.v (.nil))
  ·refine .ms 0 rfl rfl rfl ?_
   refine .on rfl (fun a w hS hI hp => does_val (x_bin rfl (hp.V 0 rfl rfl) (rfl) (b_neq _ _ _ _ _ _)) rfl) ?_
   exact .nil
  clear hS
  intro bN aW hS aL hp
  have ao : sl _ 52 = .bool (!decide (2 = 0)) := hp 1 (by decide)
  have hS := hS.cons ao
  clear hp ao
  refine aB _ _ ?_
  refine wp_cond_true ((hS.get 0 rfl).trans (bT (congrArg (!·) (decide_eq_false (by decide))))) ?_
  refine wp_exit ?_
  (try simp only [Exit.then, Exit.inBlock, reduceIte])
  refine aX _ _ ?_
  refine wp_seq_k (fun bu a9 => ?_)
  refine wp_seq_k (fun a0 ap => ?_)
  refine reg_seq (I := I3_ w af aW) (ps := [VI 2, VB (!decide (2 = 0))]) (by kernel_rfl) ?_ ?_ rfl hS ⟨aL.1, aL.2.1, (bR aW)⟩ ?_ ?_
  ·exact bs3
  ·exact .v (.v (.nil))
  ·refine .ms 1 rfl rfl rfl ?_
   refine .on rfl (fun a w hS hI hp => does_val (x_bin rfl (hp.V 0 rfl rfl) (rfl) (b_neq _ _ _ _ _ _)) rfl) ?_
   exact .nil
  clear hS
  intro bg aO hS az hp
  replace hS := ((hS.nil).cons (hS.get 5 rfl)).cons (hS.get 1 rfl)
  have ak : sl _ 78 = .bool (!decide (2 = 0)) := hp 1 (by decide)
  have hS := hS.cons ak
  clear hp ak
  refine ap _ _ ?_
  refine wp_cond_true ((hS.get 0 rfl).trans (bT (congrArg (!·) (decide_eq_false (by decide))))) ?_
  refine wp_seq_k (fun bv aJ => ?_)
  refine reg_seq (I := I3_ w af aO) (ps := [VI 2, IsV (.slice none 0 0), VI 2]) (by kernel_rfl) ?_ ?_ rfl hS ⟨az.1, az.2.1, (bR aO)⟩ ?_ ?_
  ·exact bs3
  ·exact .v (.v (.v (.nil)))
  ·refine .ms 1 rfl rfl rfl ?_
   refine .on rfl (fun a w hS hI hp => does_val (x_assign rfl (rfl)) rfl) ?_
   refine .asg 0 rfl rfl rfl ?_
   exact .nil
  clear hS
  intro bh a4 hS aD hp
  replace hS := hS.nil
  have ai : sl _ 4 = .slice none 0 0 := hp 1 (by decide)
  have aj : sl _ 5 = .int .i64 2 := hp 2 (by decide)
  have hS := hS.cons ai
  have hS := hS.cons aj
  clear hp ai aj
  refine aJ _ _ ?_
  refine wp_ret ?_
  (try simp only [Exit.then, Exit.inBlock, Exit.jump, Exit.noGoto])
  exact bodyPost_ret (v := .tuple #[.slice none 0 0, .int .i64 2]) (results_list (rs := [.tmp 4, .tmp 5]) rfl (by simp) (Vals.at (hS.get 1 rfl) (Vals.at (hS.get 0 rfl) .nil))) hS.nodef ⟨.slice none 0 0, rfl, Kd.R_nil _ _ _ _ _, aD.1⟩
 rw [if_pos c5] at H
 refine reg_seq (I := I3_ w af aN) (ps := [VB ag, VB (!ag), VB (!ag), VI aa, IsV (.slice aq ac.length ar), VI (ac.length : Int), VI ab, VI (wrap64 ((ac.length : Int) - ab)), VI (wrap64 ((wrap64 ((ac.length : Int) - ab)) - 4)), VB (decide (aa > (wrap64 ((wrap64 ((ac.length : Int) - ab)) - 4)))), VB (decide (aa > (wrap64 ((wrap64 ((ac.length : Int) - ab)) - 4)))), VB (decide (aa > (wrap64 ((wrap64 ((ac.length : Int) - ab)) - 4))))]) (by kernel_rfl) ?_ ?_ rfl hS ⟨aC.1, aC.2.1, (bR aN)⟩ ?_ ?_
 ·exact bs3
 ·exact .v (.v (.v (.v (.v (.v (.v (.v (.v (.v (.v (.v (.nil))))))))))))
 ·refine .ms 1 rfl rfl rfl ?_
  refine .on rfl (fun a w hS hI hp => does_val (x_not rfl (hp.V 0 rfl rfl)) rfl) ?_
  refine .mv 1 rfl rfl rfl ?_
  refine .oy 2 38 rfl rfl ((congrArg (!·) c5)) (fun a w hS hI hp => does_val (x_move rfl (hS.get 2 rfl)) rfl) ?_
  refine .oy 2 38 rfl rfl ((congrArg (!·) c5)) (fun a w hS hI hp => does_val (x_move rfl (hS.get 3 rfl)) rfl) ?_
  refine .oy 2 38 rfl rfl ((congrArg (!·) c5)) (fun a w hS hI hp => does_val (x_len (e := 5) rfl (by kernel_rfl) (hp.V 4 rfl rfl)) rfl) ?_
  refine .oy 2 38 rfl rfl ((congrArg (!·) c5)) (fun a w hS hI hp => does_val (x_move rfl (hS.get 4 rfl)) rfl) ?_
  refine .oy 2 38 rfl rfl ((congrArg (!·) c5)) (fun a w hS hI hp => does_val (x_bin rfl (hp.V 5 rfl rfl) (hp.V 6 rfl rfl) (b_sub _ _ _ _ _)) rfl) ?_
  refine .oy 2 38 rfl rfl ((congrArg (!·) c5)) (fun a w hS hI hp => does_val (x_bin rfl (hp.V 7 rfl rfl) (rfl) (b_sub _ _ _ _ _)) rfl) ?_
  refine .oy 2 38 rfl rfl ((congrArg (!·) c5)) (fun a w hS hI hp => does_val (x_bin rfl (hp.V 3 rfl rfl) (hp.V 8 rfl rfl) (b_gtr _ _ _ _ _ _)) rfl) ?_
  refine .on rfl (fun a w hS hI hp => does_val (x_pickF rfl ((hp.V 2 rfl rfl).trans (bF (congrArg (!·) c5))) (hp.V 9 rfl rfl)) rfl) ?_
  refine .asg 10 rfl rfl rfl ?_
  exact .nil
 clear hS
 intro bK aG hS aw hp
 replace hS := (((((hS.nil).cons (hS.get 6 rfl)).cons (hS.get 5 rfl)).cons (hS.get 4 rfl)).cons (hS.get 3 rfl)).cons (hS.get 2 rfl)
 have bc : sl _ 35 = .bool (decide (aa > (wrap64 ((wrap64 ((ac.length : Int) - ab)) - 4)))) := hp 11 (by decide)
 have hS := hS.cons bc
 clear hp bc
 refine bl _ _ ?_
 by_cases c6 : aa > (wrap64 ((wrap64 ((ac.length : Int) - ab)) - 4))
 ·rw [if_pos c6] at H
  simp only [Option.some.injEq, Prod.mk.injEq] at H
  obtain ⟨rfl, rfl⟩ := H
  refine wp_cond_true ((hS.get 0 rfl).trans (bT (decide_eq_true c6))) ?_
  replace hS := (((((hS.nil).cons (hS.get 4 rfl)).cons (hS.get 3 rfl)).cons (hS.get 2 rfl)).cons (hS.get 1 rfl)).cons (hS.get 0 rfl)
  refine reg_seq (I := I3_ w af aG) (ps := [VI 2]) (by kernel_rfl) ?_ ?_ rfl hS ⟨aw.1, aw.2.1, (bR aG)⟩ ?_ ?_
  ·exact bs3
  ·exact .v (.nil)
  ·refine .on rfl (fun a w hS hI hp => does_val (x_assign rfl (rfl)) rfl) ?_
   exact .nil
  clear hS
  intro bL aV hS aK hp
  replace hS := ((((hS.nil).cons (hS.get 4 rfl)).cons (hS.get 3 rfl)).cons (hS.get 2 rfl)).cons (hS.get 1 rfl)
  have aA : sl _ 7 = .int .i64 2 := hp 0 (by decide)
  have hS := hS.cons aA
  clear hp aA
  refine an _ _ ?_
  refine wp_seq_k (fun ck b1 => ?_)
  refine wp_seq_k (fun be aB => ?_)
  refine reg_seq (I := I3_ w af aV) (ps := [VI 2, VB (!decide (2 = 0))]) (by kernel_rfl) ?_ ?_ rfl hS ⟨aK.1, aK.2.1, (bR aV)⟩ ?_ ?_
  ·exact bs3
  ·exact .v (.v (.nil))
  ·refine .ms 0 rfl rfl rfl ?_
   refine .on rfl (fun a w hS hI hp => does_val (x_bin rfl (hp.V 0 rfl rfl) (rfl) (b_neq _ _ _ _ _ _)) rfl) ?_
   exact .nil
  clear hS
  intro bN aW hS aL hp
  have ao : sl _ 52 = .bool (!decide (2 = 0)) := hp 1 (by decide)
  have hS := hS.cons ao
  clear hp ao
  refine aB _ _ ?_
  refine wp_cond_true ((hS.get 0 rfl).trans (bT (congrArg (!·) (decide_eq_false (by decide))))) ?_
  refine wp_exit ?_
  (try simp only [Exit.then, Exit.inBlock, reduceIte])
  refine aX _ _ ?_
  refine wp_seq_k (fun bu a9 => ?_)
  refine wp_seq_k (fun a0 ap => ?_)
  refine reg_seq (I := I3_ w af aW) (ps := [VI 2, VB (!decide (2 = 0))]) (by kernel_rfl) ?_ ?_ rfl hS ⟨aL.1, aL.2.1, (bR aW)⟩ ?_ ?_
  ·exact bs3
  ·exact .v (.v (.nil))
  ·refine .ms 1 rfl rfl rfl ?_
   refine .on rfl (fun a w hS hI hp => does_val (x_bin rfl (hp.V 0 rfl rfl) (rfl) (b_neq _ _ _ _ _ _)) rfl) ?_
   exact .nil
  clear hS
  intro bg aO hS az hp
  replace hS := ((hS.nil).cons (hS.get 5 rfl)).cons (hS.get 1 rfl)
  have ak : sl _ 78 = .bool (!decide (2 = 0)) := hp 1 (by decide)
  have hS := hS.cons ak
  clear hp ak
  refine ap _ _ ?_
  refine wp_cond_true ((hS.get 0 rfl).trans (bT (congrArg (!·) (decide_eq_false (by decide))))) ?_
  refine wp_seq_k (fun bv aJ => ?_)
  refine reg_seq (I := I3_ w af aO) (ps := [VI 2, IsV (.slice none 0 0), VI 2]) (by kernel_rfl) ?_ ?_ rfl hS ⟨az.1, az.2.1, (bR aO)⟩ ?_ ?_
  ·exact bs3
  ·exact .v (.v (.v (.nil)))
  ·refine .ms 1 rfl rfl rfl ?_
   refine .on rfl (fun a w hS hI hp => does_val (x_assign rfl (rfl)) rfl) ?_
   refine .asg 0 rfl rfl rfl ?_
   exact .nil
  clear hS
  intro bh a4 hS aD hp
  replace hS := hS.nil
  have ai : sl _ 4 = .slice none 0 0 := hp 1 (by decide)
  have aj : sl _ 5 = .int .i64 2 := hp 2 (by decide)
  have hS := hS.cons ai
  have hS := hS.cons aj
  clear hp ai aj
  refine aJ _ _ ?_
  refine wp_ret ?_
  (try simp only [Exit.then, Exit.inBlock, Exit.jump, Exit.noGoto])
  exact bodyPost_ret (v := .tuple #[.slice none 0 0, .int .i64 2]) (results_list (rs := [.tmp 4, .tmp 5]) rfl (by simp) (Vals.at (hS.get 1 rfl) (Vals.at (hS.get 0 rfl) .nil))) hS.nodef ⟨.slice none 0 0, rfl, Kd.R_nil _ _ _ _ _, aD.1⟩
 rw [if_neg c6] at H
 refine wp_cond_false ((hS.get 0 rfl).trans (bF (decide_eq_false c6))) ?_
 refine wp_seq_k (fun cj a7 => ?_)
 refine reg_seq (I := I3_ w af aG) (ps := [VI aa, VI (Int.tmod aa 2), VB (!decide ((Int.tmod aa 2) = 0)), VB (!decide ((Int.tmod aa 2) = 0))]) (by kernel_rfl) ?_ ?_ rfl hS ⟨aw.1, aw.2.1, (bR aG)⟩ ?_ ?_
 ·exact bs3
 ·exact .v (.v (.v (.v (.nil))))
 ·refine .ms 1 rfl rfl rfl ?_
  refine .on rfl (fun a w hS hI hp => does_val (x_bin rfl (hp.V 0 rfl rfl) (rfl) (b_rem _ _ _ _ _ _ (by decide))) rfl) ?_
  refine .on rfl (fun a w hS hI hp => does_val (x_bin rfl (hp.V 1 rfl rfl) (rfl) (b_neq _ _ _ _ _ _)) rfl) ?_
  refine .asg 2 rfl rfl rfl ?_
  exact .nil
 clear hS
 intro bM aH hS ax hp
 replace hS := (((((hS.nil).cons (hS.get 5 rfl)).cons (hS.get 4 rfl)).cons (hS.get 3 rfl)).cons (hS.get 2 rfl)).cons (hS.get 1 rfl)
 have ca : sl _ 47 = .bool (!decide ((Int.tmod aa 2) = 0)) := hp 3 (by decide)
 have hS := hS.cons ca
 clear hp ca
 refine a7 _ _ ?_
 by_cases c7 : (Int.tmod aa 2) = 0
 rotate_left
 ·rw [if_neg c7] at H
  simp only [Option.some.injEq, Prod.mk.injEq] at H
  obtain ⟨rfl, rfl⟩ := H
  refine wp_cond_true ((hS.get 0 rfl).trans (bT (congrArg (!·) (decide_eq_false c7)))) ?_
  replace hS := (((((hS.nil).cons (hS.get 4 rfl)).cons (hS.get 3 rfl)).cons (hS.get 2 rfl)).cons (hS.get 1 rfl)).cons (hS.get 0 rfl)
  refine reg_seq (I := I3_ w af aH) (ps := [VI 4]) (by kernel_rfl) ?_ ?_ rfl hS ⟨ax.1, ax.2.1, (bR aH)⟩ ?_ ?_
  ·exact bs3
  ·exact .v (.nil)
  ·refine .on rfl (fun a w hS hI hp => does_val (x_assign rfl (rfl)) rfl) ?_
   exact .nil
  clear hS
  intro cF bA hS bp hp
  replace hS := ((((hS.nil).cons (hS.get 4 rfl)).cons (hS.get 3 rfl)).cons (hS.get 2 rfl)).cons (hS.get 1 rfl)
  have aA : sl _ 7 = .int .i64 4 := hp 0 (by decide)
  have hS := hS.cons aA
  clear hp aA
  refine an _ _ ?_
  refine wp_seq_k (fun db cP => ?_)
  refine wp_seq_k (fun bu a9 => ?_)
  refine reg_seq (I := I3_ w af bA) (ps := [VI 4, VB (!decide (4 = 0))]) (by kernel_rfl) ?_ ?_ rfl hS ⟨bp.1, bp.2.1, (bR bA)⟩ ?_ ?_
  ·exact bs3
  ·exact .v (.v (.nil))
  ·refine .ms 0 rfl rfl rfl ?_
   refine .on rfl (fun a w hS hI hp => does_val (x_bin rfl (hp.V 0 rfl rfl) (rfl) (b_neq _ _ _ _ _ _)) rfl) ?_
   exact .nil
  clear hS
  intro cG bB hS bq hp
  have ao : sl _ 52 = .bool (!decide (4 = 0)) := hp 1 (by decide)
  have hS := hS.cons ao
  clear hp ao
  refine a9 _ _ ?_
  refine wp_cond_true ((hS.get 0 rfl).trans (bT (congrArg (!·) (decide_eq_false (by decide))))) ?_
  refine wp_exit ?_
  (try simp only [Exit.then, Exit.inBlock, reduceIte])
  refine aX _ _ ?_
  refine wp_seq_k (fun dd cQ => ?_)
  refine wp_seq_k (fun bv aJ => ?_)
  refine reg_seq (I := I3_ w af bB) (ps := [VI 4, VB (!decide (4 = 0))]) (by kernel_rfl) ?_ ?_ rfl hS ⟨bq.1, bq.2.1, (bR bB)⟩ ?_ ?_
  ·exact bs3
  ·exact .v (.v (.nil))
  ·refine .ms 1 rfl rfl rfl ?_
   refine .on rfl (fun a w hS hI hp => does_val (x_bin rfl (hp.V 0 rfl rfl) (rfl) (b_neq _ _ _ _ _ _)) rfl) ?_
   exact .nil
  clear hS
  intro bh a4 hS aD hp
  replace hS := ((hS.nil).cons (hS.get 5 rfl)).cons (hS.get 1 rfl)
  have ak : sl _ 78 = .bool (!decide (4 = 0)) := hp 1 (by decide)
  have hS := hS.cons ak
  clear hp ak
  refine aJ _ _ ?_
  refine wp_cond_true ((hS.get 0 rfl).trans (bT (congrArg (!·) (decide_eq_false (by decide))))) ?_
  refine wp_seq_k (fun de b3 => ?_)
  refine reg_seq (I := I3_ w af a4) (ps := [VI 4, IsV (.slice none 0 0), VI 4]) (by kernel_rfl) ?_ ?_ rfl hS ⟨aD.1, aD.2.1, (bR a4)⟩ ?_ ?_
  ·exact bs3
  ·exact .v (.v (.v (.nil)))
  ·refine .ms 1 rfl rfl rfl ?_
   refine .on rfl (fun a w hS hI hp => does_val (x_assign rfl (rfl)) rfl) ?_
   refine .asg 0 rfl rfl rfl ?_
   exact .nil
  clear hS
  intro cH bf hS cd hp
  replace hS := hS.nil
  have ai : sl _ 4 = .slice none 0 0 := hp 1 (by decide)
  have aj : sl _ 5 = .int .i64 4 := hp 2 (by decide)
  have hS := hS.cons ai
  have hS := hS.cons aj
  clear hp ai aj
  refine b3 _ _ ?_
  refine wp_ret ?_
  (try simp only [Exit.then, Exit.inBlock, Exit.jump, Exit.noGoto])
  exact bodyPost_ret (v := .tuple #[.slice none 0 0, .int .i64 4]) (results_list (rs := [.tmp 4, .tmp 5]) rfl (by simp) (Vals.at (hS.get 1 rfl) (Vals.at (hS.get 0 rfl) .nil))) hS.nodef ⟨.slice none 0 0, rfl, Kd.R_nil _ _ _ _ _, cd.1⟩
 rw [if_pos c7] at H
 refine wp_cond_false ((hS.get 0 rfl).trans (bF (congrArg (!·) (decide_eq_true c7)))) ?_
 refine wp_skip ?_
 refine an _ _ ?_
 refine wp_seq_k (fun be aB => ?_)
 refine wp_seq_k (fun cl a8 => ?_)
 refine reg_seq (I := I3_ w af aH) (ps := [VI ah, VB (!decide (ah = 0))]) (by kernel_rfl) ?_ ?_ rfl hS ⟨ax.1, ax.2.1, (bR aH)⟩ ?_ ?_
 ·exact bs3
 ·exact .v (.v (.nil))
 ·refine .ms 5 rfl rfl rfl ?_
  refine .on rfl (fun a w hS hI hp => does_val (x_bin rfl (hp.V 0 rfl rfl) (rfl) (b_neq _ _ _ _ _ _)) rfl) ?_
  exact .nil
 clear hS
 intro bO aI hS ay hp
 replace hS := (((((hS.nil).cons (hS.get 5 rfl)).cons (hS.get 4 rfl)).cons (hS.get 3 rfl)).cons (hS.get 2 rfl)).cons (hS.get 1 rfl)
 have ao : sl _ 52 = .bool (!decide (ah = 0)) := hp 1 (by decide)
 have hS := hS.cons ao
 clear hp ao
 refine a8 _ _ ?_
 by_cases c8 : ah = 0
 rotate_left
 ·rw [if_neg c8] at H
  simp only [Option.some.injEq, Prod.mk.injEq] at H
  obtain ⟨rfl, rfl⟩ := H
  refine wp_cond_true ((hS.get 0 rfl).trans (bT (congrArg (!·) (decide_eq_false c8)))) ?_
  refine wp_exit ?_
  (try simp only [Exit.then, Exit.inBlock, reduceIte])
  refine aX _ _ ?_
  refine wp_seq_k (fun a0 ap => ?_)
  refine wp_seq_k (fun dc b2 => ?_)
  refine reg_seq (I := I3_ w af aI) (ps := [VI ah, VB (!decide (ah = 0))]) (by kernel_rfl) ?_ ?_ rfl hS ⟨ay.1, ay.2.1, (bR aI)⟩ ?_ ?_
  ·exact bs3
  ·exact .v (.v (.nil))
  ·refine .ms 5 rfl rfl rfl ?_
   refine .on rfl (fun a w hS hI hp => does_val (x_bin rfl (hp.V 0 rfl rfl) (rfl) (b_neq _ _ _ _ _ _)) rfl) ?_
   exact .nil
  clear hS
  intro bP au hS aM hp
  replace hS := ((hS.nil).cons (hS.get 5 rfl)).cons (hS.get 4 rfl)
  have ak : sl _ 78 = .bool (!decide (ah = 0)) := hp 1 (by decide)
  have hS := hS.cons ak
  clear hp ak
  refine b2 _ _ ?_
  refine wp_cond_true ((hS.get 0 rfl).trans (bT (congrArg (!·) (decide_eq_false c8)))) ?_
  refine wp_seq_k (fun cm ba => ?_)
  refine reg_seq (I := I3_ w af au) (ps := [VI ah, IsV (.slice none 0 0), VI ah]) (by kernel_rfl) ?_ ?_ rfl hS ⟨aM.1, aM.2.1, (bR au)⟩ ?_ ?_
  ·exact bs3
  ·exact .v (.v (.v (.nil)))
  ·refine .ms 2 rfl rfl rfl ?_
   refine .on rfl (fun a w hS hI hp => does_val (x_assign rfl (rfl)) rfl) ?_
   refine .asg 0 rfl rfl rfl ?_
   exact .nil
  clear hS
  intro bQ a5 hS aU hp
  replace hS := hS.nil
  have ai : sl _ 4 = .slice none 0 0 := hp 1 (by decide)
  have aj : sl _ 5 = .int .i64 ah := hp 2 (by decide)
  have hS := hS.cons ai
  have hS := hS.cons aj
  clear hp ai aj
  refine ba _ _ ?_
  refine wp_ret ?_
  (try simp only [Exit.then, Exit.inBlock, Exit.jump, Exit.noGoto])
  exact bodyPost_ret (v := .tuple #[.slice none 0 0, .int .i64 ah]) (results_list (rs := [.tmp 4, .tmp 5]) rfl (by simp) (Vals.at (hS.get 1 rfl) (Vals.at (hS.get 0 rfl) .nil))) hS.nodef ⟨.slice none 0 0, rfl, Kd.R_nil _ _ _ _ _, aU.1⟩
 rw [if_pos c8] at H
 obtain ⟨co, bH, H⟩ := Option.bind_eq_some_iff.mp H
 obtain ⟨ad, aE⟩ := co
 (try dsimp only at H)
 by_cases c9 : 0 ≤ (wrap64 (ab + 4))
 rotate_left
 ·rw [if_neg c9] at H
  exact absurd H (by simp)
 rw [if_pos c9] at H
 by_cases bS : (wrap64 (ab + 4)) ≤ (wrap64 ((wrap64 (ab + 4)) + aa))
 rotate_left
 ·rw [if_neg bS] at H
  exact absurd H (by simp)
 rw [if_pos bS] at H
 by_cases bU : (wrap64 ((wrap64 (ab + 4)) + aa)) ≤ (ac.length : Int)
 rotate_left
 ·rw [if_neg bU] at H
  exact absurd H (by simp)
 rw [if_pos bU] at H
 by_cases bV : (ae.length + [(⟨ad, strOfNums ((ac.take (wrap64 ((wrap64 (ab + 4)) + aa) : Int).toNat).drop (wrap64 (ab + 4) : Int).toNat)⟩ : S26)].length) * 24 ≤ 140737488355328
 rotate_left
 ·rw [if_neg bV] at H
  exact absurd H (by simp)
 rw [if_pos bV] at H
 refine wp_cond_false ((hS.get 0 rfl).trans (bF (congrArg (!·) (decide_eq_true c8)))) ?_
 refine wp_skip ?_
 refine aB _ _ ?_
 refine wp_seq_k (fun a0 ap => ?_)
 refine reg_seq (I := I3_ w af aI) (ps := [IsV (.slice aq ac.length ar), VI ab, IsV (.tuple #[.int .i64 ad, .bool aE]), IsV (.tuple #[.int .i64 ad, .bool aE]), VI ad, VB aE, VI ad, VB aE]) (by kernel_rfl) ?_ ?_ rfl hS ⟨ay.1, ay.2.1, (bR aI)⟩ ?_ ?_
 ·exact bs3
 ·exact .v (.v (.v (.v (.v (.v (.v (.v (.nil))))))))
 ·refine .ms 2 rfl rfl rfl ?_
  refine .ms 3 rfl rfl rfl ?_
  refine .on rfl (fun a w hS hI hp => does_call (by kernel_rfl) (ar3 (hp.V 0 rfl rfl) (hp.V 1 rfl rfl) (rfl)) ((octets_Get.calls k _ _ ac ab 2 ad aE _ (Kd.C_below aR hI.1) a2 bH).mono fun _ _ h => ⟨_, h.1, h.2.below, rfl⟩)) ?_
  refine .mv 2 rfl rfl rfl ?_
  iterate 2 refine .on rfl (fun a w hS hI hp => does_val (x_extract rfl (hp.V 3 rfl rfl) rfl) rfl) ?_
  refine .asg 4 rfl rfl rfl ?_
  refine .asg 5 rfl rfl rfl ?_
  exact .nil
 clear hS
 intro bP au hS aM hp
 replace hS := (((((hS.nil).cons (hS.get 5 rfl)).cons (hS.get 4 rfl)).cons (hS.get 3 rfl)).cons (hS.get 2 rfl)).cons (hS.get 1 rfl)
 have b7 : sl _ 10 = .int .i64 ad := hp 6 (by decide)
 have hS := hS.cons b7
 clear hp b7
 refine ap _ _ ?_
 refine wp_seq_k (fun cm ba => ?_)
 refine reg_seq_tail 13 (I := I3_ w af au) (ps := [IsV (.slice am ae.length al), VI ad, IsV (.slice aq ac.length ar), VI ab, VI (wrap64 (ab + 4)), VI ab, VI (wrap64 (ab + 4)), VI aa, VI (wrap64 ((wrap64 (ab + 4)) + aa)), IsC (Kd.int .u8) ((ac.take (wrap64 ((wrap64 (ab + 4)) + aa) : Int).toNat).drop (wrap64 (ab + 4) : Int).toNat), IsV (.string (strOfNums ((ac.take (wrap64 ((wrap64 (ab + 4)) + aa) : Int).toNat).drop (wrap64 (ab + 4) : Int).toNat))), IsV (.agg #[.int .i64 ad, .string (strOfNums ((ac.take (wrap64 ((wrap64 (ab + 4)) + aa) : Int).toNat).drop (wrap64 (ab + 4) : Int).toNat))]), IsR k26 26 au.heap.size [(⟨ad, strOfNums ((ac.take (wrap64 ((wrap64 (ab + 4)) + aa) : Int).toNat).drop (wrap64 (ab + 4) : Int).toNat)⟩ : S26)]]) (by kernel_rfl) ?_ ?_ rfl hS ⟨aM.1, aM.2.1, (bR au)⟩ ?_ ?_
 ·exact bs3
 ·exact .v (.v (.v (.v (.v (.v (.v (.v (.v (.cons (Stays.c _ _) (.v (.v (.cons (Stays.r _ _ _ _) (.nil)))))))))))))
 ·refine .ms 4 rfl rfl rfl ?_
  refine .ms 0 rfl rfl rfl ?_
  refine .ms 2 rfl rfl rfl ?_
  refine .ms 3 rfl rfl rfl ?_
  refine .on rfl (fun a w hS hI hp => does_val (x_bin rfl (hp.V 3 rfl rfl) (rfl) (b_add _ _ _ _ _)) rfl) ?_
  refine .ms 3 rfl rfl rfl ?_
  refine .on rfl (fun a w hS hI hp => does_val (x_bin rfl (hp.V 5 rfl rfl) (rfl) (b_add _ _ _ _ _)) rfl) ?_
  refine .ms 1 rfl rfl rfl ?_
  refine .on rfl (fun a w hS hI hp => does_val (x_bin rfl (hp.V 6 rfl rfl) (hp.V 7 rfl rfl) (b_add _ _ _ _ _)) rfl) ?_
  refine .on rfl (fun a w hS hI hp => does_cut (i := wrap64 (ab + 4)) (j := wrap64 ((wrap64 (ab + 4)) + aa)) rfl (e := 5) (by kernel_rfl) (by kernel_rfl) (hp.V 2 rfl rfl) (.inr ⟨_, rfl, (hp.V 4 rfl rfl)⟩) (.inr ⟨_, rfl, (hp.V 8 rfl rfl)⟩) c9 bS bU a2 ((Kd.C_below aR hI.1))) ?_
  refine .on rfl (fun a w hS hI hp => (hp.V 9 rfl rfl).elim fun A_ h_ => h_.elim fun c_ h_ => h_.elim fun hv_ h_ => h_.elim fun hl_ hc_ => does_val (x_conv rfl hv_ (Kd.C_string (by kernel_rfl) (e := 5) (by kernel_rfl) (by kernel_rfl) hc_)) rfl) ?_
  refine .on rfl (fun a w hS hI hp => does_val (x_build (vs := [(0, .int .i64 ad), (1, .string (strOfNums ((ac.take (wrap64 ((wrap64 (ab + 4)) + aa) : Int).toNat).drop (wrap64 (ab + 4) : Int).toNat)))]) rfl (by rw [Array.toList_map]; exact (show [(0, a.eval (.tmp 60)), (1, a.eval (.tmp 69))] = _ from (li_cons (hp.V 1 rfl rfl) (li_cons (hp.V 10 rfl rfl) rfl)))) (by kernel_rfl)) rfl) ?_
  refine .on rfl (fun a w hS hI hp => does_litT tlv_Get.flat26 au.heap.size 22 26 _ [(0, .agg #[.int .i64 ad, .string (strOfNums ((ac.take (wrap64 ((wrap64 (ab + 4)) + aa) : Int).toNat).drop (wrap64 (ab + 4) : Int).toNat))])] (⟨ad, strOfNums ((ac.take (wrap64 ((wrap64 (ab + 4)) + aa) : Int).toNat).drop (wrap64 (ab + 4) : Int).toNat)⟩ : S26) rfl (by kernel_rfl) (by rw [Array.toList_map]; exact (show [(0, a.eval (.tmp 70))] = _ from (li_cons (hp.V 11 rfl rfl) rfl))) (by kernel_rfl) (hI.2.2).size) ?_
  exact .nil
 clear hS
 intro bQ a5 hS aU hp
 replace hS := (((((hS.nil).cons (hS.get 5 rfl)).cons (hS.get 4 rfl)).cons (hS.get 3 rfl)).cons (hS.get 2 rfl)).cons (hS.get 1 rfl)
 have cb : sl _ 59 = .slice am ae.length al := hp 0 (by decide)
 obtain ⟨cg, ch, bs, cT, b4⟩ := Kd.R_reads (show Kd.R k26 26 a5 au.heap.size (fun _ => True) (sl _ 71) [(⟨ad, strOfNums ((ac.take (wrap64 ((wrap64 (ab + 4)) + aa) : Int).toNat).drop (wrap64 (ab + 4) : Int).toNat)⟩ : S26)] from hp 12 (by decide))
 have cU : Kd.R k26 26 a5 au.heap.size (fun _ => True) (.slice cg [(⟨ad, strOfNums ((ac.take (wrap64 ((wrap64 (ab + 4)) + aa) : Int).toNat).drop (wrap64 (ab + 4) : Int).toNat)⟩ : S26)].length ch) [(⟨ad, strOfNums ((ac.take (wrap64 ((wrap64 (ab + 4)) + aa) : Int).toNat).drop (wrap64 (ab + 4) : Int).toNat)⟩ : S26)] := bs ▸ (hp 12 (by decide))
 have hS := hS.cons cb
 have hS := hS.cons bs
 clear hp cb bs
 show wpList _ _ _ [_, _] _ _
 refine list_step rfl (does_moreT tlv_Get.flat26 (W := w) (.tmp 59) (.tmp 71) 22 26 (.agg #[(.int .i64 0), (.string ⟨#[]⟩)]) 24 rfl (by kernel_rfl) (by kernel_rfl) rfl (by decide) (by decide) _ ae [(⟨ad, strOfNums ((ac.take (wrap64 ((wrap64 (ab + 4)) + aa) : Int).toNat).drop (wrap64 (ab + 4) : Int).toNat)⟩ : S26)] _ _ _ (hS.get 1 rfl) (hS.get 0 rfl) (Kd.R_below bn aU.2.1) (Kd.C_below b4 (bR a5)) aU.1 bV) ?_
 rintro cV bf ⟨hb, hr, hk⟩
 clear hk
 have bi := hb
 replace hS := ((((hS.nil).cons (hS.get 6 rfl)).cons (hS.get 4 rfl)).cons (hS.get 3 rfl)).cons (hS.get 2 rfl)
 obtain ⟨aP, aQ, rfl, b5, cS⟩ := Kd.R_reads hr
 have b6 := hr
 clear hr
 refine hS.next (v := .slice aP ((ae ++ [(⟨ad, strOfNums ((ac.take (wrap64 ((wrap64 (ab + 4)) + aa) : Int).toNat).drop (wrap64 (ab + 4) : Int).toNat)⟩ : S26)] : List S26).length) aQ) (d := 72) rfl (by decide) (by rfl) ?_
 clear hS
 intro cI hS
 refine list_step rfl (R := fun v w' => Below _ _ w' ∧ (IsV (.slice aP ((ae ++ [(⟨ad, strOfNums ((ac.take (wrap64 ((wrap64 (ab + 4)) + aa) : Int).toNat).drop (wrap64 (ab + 4) : Int).toNat)⟩ : S26)] : List S26).length) aQ)) v w') (does_val (x_assign rfl (hS.get 0 rfl)) rfl) ?_
 rintro ce bC ⟨hb, he⟩
 have bj := below_step bi hb
 have aY := below_step (bR bf) hb
 obtain rfl : ce = .slice aP ((ae ++ [(⟨ad, strOfNums ((ac.take (wrap64 ((wrap64 (ab + 4)) + aa) : Int).toNat).drop (wrap64 (ab + 4) : Int).toNat)⟩ : S26)] : List S26).length) aQ := he
 refine hS.next (v := .slice aP ((ae ++ [(⟨ad, strOfNums ((ac.take (wrap64 ((wrap64 (ab + 4)) + aa) : Int).toNat).drop (wrap64 (ab + 4) : Int).toNat)⟩ : S26)] : List S26).length) aQ) (d := 6) rfl (by decide) (by rfl) ?_
 clear hS
 intro cJ hS
 refine wpList_nil ?_
 refine ba _ _ ?_
 refine reg_seq_tail 4 (I := I3_ w bf bC) (ps := [VI ab, VI aa, VI (wrap64 (4 + aa)), VI (wrap64 (ab + (wrap64 (4 + aa))))]) (by kernel_rfl) ?_ ?_ rfl hS ⟨bj, aY, (bR bC)⟩ ?_ ?_
 ·exact bs3
 ·exact .v (.v (.v (.v (.nil))))
 ·refine .ms 4 rfl rfl rfl ?_
  refine .ms 2 rfl rfl rfl ?_
  refine .on rfl (fun a w hS hI hp => does_val (x_bin rfl (rfl) (hp.V 1 rfl rfl) (b_add _ _ _ _ _)) rfl) ?_
  refine .on rfl (fun a w hS hI hp => does_val (x_bin rfl (hp.V 0 rfl rfl) (hp.V 2 rfl rfl) (b_add _ _ _ _ _)) rfl) ?_
  exact .nil
 clear hS
 intro cK cq hS br hp
 replace hS := ((((hS.nil).cons (hS.get 5 rfl)).cons (hS.get 4 rfl)).cons (hS.get 3 rfl)).cons (hS.get 0 rfl)
 have cc : sl _ 76 = .int .i64 (wrap64 (ab + (wrap64 (4 + aa)))) := hp 3 (by decide)
 have hS := hS.cons cc
 clear hp cc
 show wpList _ _ _ [_] _ _
 refine list_step rfl (R := fun v w' => Below _ _ w' ∧ (VI (wrap64 (ab + (wrap64 (4 + aa))))) v w') (does_val (x_assign rfl (hS.get 0 rfl)) rfl) ?_
 rintro cf dg ⟨hb, he⟩
 have bk := below_step br.1 hb
 have aZ := below_step br.2.1 hb
 have bE := below_step (bR cq) hb
 obtain rfl : cf = .int .i64 (wrap64 (ab + (wrap64 (4 + aa)))) := he
 replace hS := ((((hS.nil).cons (hS.get 4 rfl)).cons (hS.get 2 rfl)).cons (hS.get 1 rfl)).cons (hS.get 0 rfl)
 refine hS.next (v := .int .i64 (wrap64 (ab + (wrap64 (4 + aa))))) (d := 1) rfl (by decide) (by rfl) ?_
 clear hS
 intro cL hS
 refine wpList_nil ?_
 replace hS := ((((hS.nil).cons (hS.get 4 rfl)).cons (hS.get 2 rfl)).cons (hS.get 0 rfl)).cons (hS.get 3 rfl)
 (try simp only [Exit.then, Exit.inBlock])
 exact ⟨n1, Nat.lt_succ_self _, ac, aq, ar, wrap64 (ab + (wrap64 (4 + aa))), (ae ++ [(⟨ad, strOfNums ((ac.take (wrap64 ((wrap64 (ab + 4)) + aa) : Int).toNat).drop (wrap64 (ab + 4) : Int).toNat)⟩ : S26)] : List S26), aP, aQ, ah, H, hS, bk, a2, (aR), b5, (Kd.R_lower (Kd.R_below b6 aZ) (Nat.le_refl _))⟩
def tlv_Manage.f (a0 : Int) (a1 : ByteArray) : Option (Int × ByteArray × Bool) := (tlv_in.f a0 0 65535).bind fun t7 => (if t7 = true then (if (a1.size : Int) > 400 then (some (0, (⟨#[]⟩ : ByteArray), false)) else ((octets_Put.f [] a0 2).bind fun t11 => (if t11.length + a1.size ≤ 140737488355328 then (if (Int.tmod ((t11 ++ bytesOf a1 : List Int).length : Int) 2) = 0 then (if ((t11 ++ bytesOf a1 : List Int).length : Int) > 400 then (some (0, (⟨#[]⟩ : ByteArray), false)) else (some (1, strOfNums (t11 ++ bytesOf a1 : List Int), true))) else (if ((t11 ++ bytesOf a1 : List Int).length + [0].length) * 1 ≤ 140737488355328 then (if (((t11 ++ bytesOf a1 : List Int) ++ [0] : List Int).length : Int) > 400 then (some (0, (⟨#[]⟩ : ByteArray), false)) else (some (1, strOfNums ((t11 ++ bytesOf a1 : List Int) ++ [0] : List Int), true))) else (none))) else (none)))) else (some (0, (⟨#[]⟩ : ByteArray), false)))
open Go.Proofs.Ytgmiokocipmbaaa.E in
set_option maxHeartbeats 60000000 in
set_option maxRecDepth 100000 in
theorem tlv_Manage.calls (a0 : Int) (a1 : ByteArray) (r1 : Int) (r2 : ByteArray) (r3 : Bool) (w : World) (h : tlv_Manage.f a0 a1 = some (r1, r2, r3)) :
    Calls Try.prog 27 #[.int .i64 a0, .string a1] w fun e w' => e = .returned (.tuple #[.agg #[.int .i64 r1, .string r2], .bool r3]) ∧ Below w.heap.size w w' := by
 have H := h
 clear h
 unfold tlv_Manage.f at H
 obtain ⟨t7, bf, H⟩ := Option.bind_eq_some_iff.mp H
 refine calls_of_wp (fn := Try.f27) (by kernel_rfl) rfl ?_
 have hS := St.enter #[.int .i64 a0, .string a1] 39 (by simp) [(0, .int .i64 a0), (1, .string a1)] (by simp)
 have bM := Below.refl w.heap.size w
 refine wp_seq_k (fun K1 bQ => ?_)
 refine reg_seq (I := I1_ w) (ps := [IsB #[.int .i64 0, .string (⟨#[]⟩ : ByteArray)] 26 w.heap.size, VB false]) (by kernel_rfl) ?_ ?_ rfl hS bM ?_ ?_
 ·exact bs1
 ·exact .cons (Stays.b _ _ _) (.v (.nil))
 ·refine .on rfl (fun a w hS hI hp => does_var (x_alloc rfl (by kernel_rfl)) (hI).size) ?_
  refine .on rfl (fun a w hS hI hp => does_val (x_assign rfl (rfl)) rfl) ?_
  exact .nil
 clear hS
 intro cj w3 hS bk hp
 obtain ⟨g4, bj, ao, ab⟩ := (show IsB _ 26 _ (sl _ 4) _ from hp 0 (by decide))
 have hS := hS.cons bj
 clear hp bj
 refine bQ _ _ ?_
 refine wp_seq_k (fun K5 bS => ?_)
 refine wp_seq_k (fun K6 bi => ?_)
 by_cases c1 : t7 = true
 rotate_left
 ·rw [if_neg c1] at H
  simp only [Option.some.injEq, Prod.mk.injEq] at H
  obtain ⟨rfl, rfl, rfl⟩ := H
  refine reg_seq (I := I2_ w w3) (ps := [VI a0, VB t7, VB (!t7), VB (!t7), VU, VU, VU, VB true]) (by kernel_rfl) ?_ ?_ rfl hS ⟨bk, (bR w3)⟩ ?_ ?_
  ·exact bs2
  ·exact .v (.v (.v (.v (.v (.v (.v (.v (.nil))))))))
  ·refine .ms 1 rfl rfl rfl ?_
   refine .on rfl (fun a w hS hI hp => does_call (by kernel_rfl) (ar3 (hp.V 0 rfl rfl) (rfl) (rfl)) ((tlv_in.calls a0 0 65535 t7 _  bf).mono fun _ _ h => ⟨_, h.1, h.2.below, rfl⟩)) ?_
   refine .on rfl (fun a w hS hI hp => does_val (x_not rfl (hp.V 1 rfl rfl)) rfl) ?_
   refine .mv 2 rfl rfl rfl ?_
   iterate 3 refine .sn 3 10 rfl rfl ((congrArg (!·) (Bool.eq_false_iff.2 c1))) ?_
   refine .on rfl (fun a w hS hI hp => does_val (x_pickT rfl ((hp.V 3 rfl rfl).trans (bT (congrArg (!·) (Bool.eq_false_iff.2 c1)))) (rfl)) rfl) ?_
   exact .nil
  clear hS
  intro bP w9 hS au hp
  have aC : sl _ 14 = .bool true := hp 7 (by decide)
  have hS := hS.cons aC
  clear hp aC
  refine bi _ _ ?_
  refine wp_cond_true ((hS.get 0 rfl).trans (bT rfl)) ?_
  refine wp_seq_k (fun bg aB => ?_)
  refine reg_seq_tail 1 (I := I3_ w w3 w9) (ps := [IsV (.agg #[.int .i64 0, .string (⟨#[]⟩ : ByteArray)])]) (by kernel_rfl) ?_ ?_ rfl hS ⟨au.1, au.2, (bR w9)⟩ ?_ ?_
  ·exact bs3
  ·exact .v (.nil)
  ·refine .on rfl (fun a w hS hI hp => does_val (x_build (vs := []) rfl (by rw [Array.toList_map]; exact (show [] = _ from rfl)) (by kernel_rfl)) rfl) ?_
   exact .nil
  clear hS
  intro bn bU hS ap hp
  replace hS := (hS.nil).cons (hS.get 1 rfl)
  have aD : sl _ 15 = .agg #[.int .i64 0, .string (⟨#[]⟩ : ByteArray)] := hp 0 (by decide)
  have hS := hS.cons aD
  clear hp aD
  show wpList _ _ _ [_, _] _ _
  refine list_step rfl (does_storeAll (g := g4) (cs := #[.int .i64 0, .string (⟨#[]⟩ : ByteArray)]) rfl (hS.get 1 rfl) (hS.get 0 rfl) ((ap.2.1.block g4 (blk_lt ab)).trans ab) (by kernel_rfl) (by kernel_rfl) (by kernel_rfl)) ?_
  rintro bE aI ⟨rfl, ai, hT⟩
  have av := hT.below ap.1 ao (ap.1).size
  clear hT
  refine list_step rfl (R := fun v w' => Below _ _ w' ∧ (VB false) v w') (does_val (x_assign rfl (rfl)) rfl) ?_
  rintro a3 bV ⟨hb, he⟩
  have aw := below_step av hb
  have af := below_step (bR aI) hb
  obtain rfl : a3 = .bool false := he
  refine hS.next (v := .bool false) (d := 5) rfl (by decide) (by rfl) ?_
  clear hS
  intro bo hS
  refine wpList_nil ?_
  refine aB _ _ ?_
  refine wp_ret ?_
  (try simp only [Exit.then, Exit.inBlock, Exit.jump, Exit.noGoto])
  exact bodyPost_ret (v := .tuple #[.agg #[.int .i64 0, .string (⟨#[]⟩ : ByteArray)], .bool false]) (results_list (rs := [.cell 4 26, .tmp 5]) rfl (by simp) (Vals.cell g4 26 #[.int .i64 0, .string (⟨#[]⟩ : ByteArray)] (0, 0) _ (hS.get 2 rfl) ((af.block g4 (blk_lt ai)).trans ai) Try.underlying26 rfl (by kernel_rfl) (Vals.at (hS.get 0 rfl) .nil))) hS.nodef ⟨rfl, aw⟩
 rw [if_pos c1] at H
 refine reg_seq (I := I2_ w w3) (ps := [VI a0, VB t7, VB (!t7), VB (!t7), IsV (.string a1), VI (a1.size : Int), VB (decide ((a1.size : Int) > 400)), VB (decide ((a1.size : Int) > 400))]) (by kernel_rfl) ?_ ?_ rfl hS ⟨bk, (bR w3)⟩ ?_ ?_
 ·exact bs2
 ·exact .v (.v (.v (.v (.v (.v (.v (.v (.nil))))))))
 ·refine .ms 1 rfl rfl rfl ?_
  refine .on rfl (fun a w hS hI hp => does_call (by kernel_rfl) (ar3 (hp.V 0 rfl rfl) (rfl) (rfl)) ((tlv_in.calls a0 0 65535 t7 _  bf).mono fun _ _ h => ⟨_, h.1, h.2.below, rfl⟩)) ?_
  refine .on rfl (fun a w hS hI hp => does_val (x_not rfl (hp.V 1 rfl rfl)) rfl) ?_
  refine .mv 2 rfl rfl rfl ?_
  refine .oy 3 10 rfl rfl ((congrArg (!·) c1)) (fun a w hS hI hp => does_val (x_move rfl (hS.get 2 rfl)) rfl) ?_
  refine .oy 3 10 rfl rfl ((congrArg (!·) c1)) (fun a w hS hI hp => does_val (x_lenS rfl (by kernel_rfl) (hp.V 4 rfl rfl)) rfl) ?_
  refine .oy 3 10 rfl rfl ((congrArg (!·) c1)) (fun a w hS hI hp => does_val (x_bin rfl (hp.V 5 rfl rfl) (rfl) (b_gtr _ _ _ _ _ _)) rfl) ?_
  refine .on rfl (fun a w hS hI hp => does_val (x_pickF rfl ((hp.V 3 rfl rfl).trans (bF (congrArg (!·) c1))) (hp.V 6 rfl rfl)) rfl) ?_
  exact .nil
 clear hS
 intro bP w9 hS au hp
 have aC : sl _ 14 = .bool (decide ((a1.size : Int) > 400)) := hp 7 (by decide)
 have hS := hS.cons aC
 clear hp aC
 refine bi _ _ ?_
 by_cases c2 : (a1.size : Int) > 400
 ·rw [if_pos c2] at H
  simp only [Option.some.injEq, Prod.mk.injEq] at H
  obtain ⟨rfl, rfl, rfl⟩ := H
  refine wp_cond_true ((hS.get 0 rfl).trans (bT (decide_eq_true c2))) ?_
  refine wp_seq_k (fun bg aB => ?_)
  refine reg_seq_tail 1 (I := I3_ w w3 w9) (ps := [IsV (.agg #[.int .i64 0, .string (⟨#[]⟩ : ByteArray)])]) (by kernel_rfl) ?_ ?_ rfl hS ⟨au.1, au.2, (bR w9)⟩ ?_ ?_
  ·exact bs3
  ·exact .v (.nil)
  ·refine .on rfl (fun a w hS hI hp => does_val (x_build (vs := []) rfl (by rw [Array.toList_map]; exact (show [] = _ from rfl)) (by kernel_rfl)) rfl) ?_
   exact .nil
  clear hS
  intro bn bU hS ap hp
  replace hS := (hS.nil).cons (hS.get 1 rfl)
  have aD : sl _ 15 = .agg #[.int .i64 0, .string (⟨#[]⟩ : ByteArray)] := hp 0 (by decide)
  have hS := hS.cons aD
  clear hp aD
  show wpList _ _ _ [_, _] _ _
  refine list_step rfl (does_storeAll (g := g4) (cs := #[.int .i64 0, .string (⟨#[]⟩ : ByteArray)]) rfl (hS.get 1 rfl) (hS.get 0 rfl) ((ap.2.1.block g4 (blk_lt ab)).trans ab) (by kernel_rfl) (by kernel_rfl) (by kernel_rfl)) ?_
  rintro bE aI ⟨rfl, ai, hT⟩
  have av := hT.below ap.1 ao (ap.1).size
  clear hT
  refine list_step rfl (R := fun v w' => Below _ _ w' ∧ (VB false) v w') (does_val (x_assign rfl (rfl)) rfl) ?_
  rintro a3 bV ⟨hb, he⟩
  have aw := below_step av hb
  have af := below_step (bR aI) hb
  obtain rfl : a3 = .bool false := he
  refine hS.next (v := .bool false) (d := 5) rfl (by decide) (by rfl) ?_
  clear hS
  intro bo hS
  refine wpList_nil ?_
  refine aB _ _ ?_
  refine wp_ret ?_
  (try simp only [Exit.then, Exit.inBlock, Exit.jump, Exit.noGoto])
  exact bodyPost_ret (v := .tuple #[.agg #[.int .i64 0, .string (⟨#[]⟩ : ByteArray)], .bool false]) (results_list (rs := [.cell 4 26, .tmp 5]) rfl (by simp) (Vals.cell g4 26 #[.int .i64 0, .string (⟨#[]⟩ : ByteArray)] (0, 0) _ (hS.get 2 rfl) ((af.block g4 (blk_lt ai)).trans ai) Try.underlying26 rfl (by kernel_rfl) (Vals.at (hS.get 0 rfl) .nil))) hS.nodef ⟨rfl, aw⟩
 rw [if_neg c2] at H
 obtain ⟨aa, bm, H⟩ := Option.bind_eq_some_iff.mp H
 by_cases c3 : aa.length + a1.size ≤ 140737488355328
 rotate_left
 ·rw [if_neg c3] at H
  exact absurd H (by simp)
 rw [if_pos c3] at H
 refine wp_cond_false ((hS.get 0 rfl).trans (bF (decide_eq_false c2))) ?_
 refine wp_skip ?_
 refine bS _ _ ?_
 refine wp_seq_k (fun bg aB => ?_)
 refine reg_seq_tail 3 (I := I3_ w w3 w9) (ps := [VI a0, IsR (Kd.int .u8) 5 w9.heap.size aa, IsV (.string a1)]) (by kernel_rfl) ?_ ?_ rfl hS ⟨au.1, au.2, (bR w9)⟩ ?_ ?_
 ·exact bs3
 ·exact .v (.cons (Stays.r _ _ _ _) (.v (.nil)))
 ·refine .ms 2 rfl rfl rfl ?_
  refine .on rfl (fun a w hS hI hp => does_call (by kernel_rfl) (ar3 (rfl) (hp.V 0 rfl rfl) (rfl)) ((octets_Put.calls _ _ [] a0 2 aa _ (Kd.C_nil _ _) (Nat.le_refl _) bm).mono fun _ _ h => h.elim fun v0 h => ⟨v0, h.1, h.2.2, Kd.R_lower h.2.1 hI.2.2.size⟩)) ?_
  refine .ms 3 rfl rfl rfl ?_
  exact .nil
 clear hS
 intro bZ aI hS bD hp
 replace hS := (hS.nil).cons (hS.get 1 rfl)
 obtain ⟨bK, bL, aZ, b8, b7⟩ := Kd.R_reads (show Kd.R (Kd.int .u8) 5 aI w9.heap.size (fun _ => True) (sl _ 17) aa from hp 1 (by decide))
 have bC : Kd.R (Kd.int .u8) 5 aI w9.heap.size (fun _ => True) (.slice bK aa.length bL) aa := aZ ▸ (hp 1 (by decide))
 have bb : sl _ 18 = .string a1 := hp 2 (by decide)
 have hS := hS.cons aZ
 have hS := hS.cons bb
 clear hp aZ bb
 show wpList _ _ _ [_, _] _ _
 refine list_step rfl (does_moreS (W := w9) (.tmp 17) (.tmp 18) 31 9 5 rfl (by kernel_rfl) (by kernel_rfl) (by kernel_rfl) _ aa a1 (hS.get 1 rfl) (hS.get 0 rfl) (Kd.R_below bC (bR aI)) (bD.2.2) c3) ?_
 rintro cc aM ⟨hb, hr, hk⟩
 clear hk
 have a6 := below_step au.1 hb
 have aS := below_step au.2 hb
 have aT := hb
 replace hS := ((hS.nil).cons (hS.get 2 rfl)).cons (hS.get 0 rfl)
 obtain ⟨ad, ae, rfl, bB, ba⟩ := Kd.R_reads hr
 have cb := hr
 clear hr
 refine hS.next (v := .slice ad ((aa ++ bytesOf a1 : List Int).length) ae) (d := 19) rfl (by decide) (by rfl) ?_
 clear hS
 intro b0 hS
 refine list_step rfl (R := fun v w' => Below _ _ w' ∧ (IsV (.slice ad ((aa ++ bytesOf a1 : List Int).length) ae)) v w') (does_val (x_assign rfl (hS.get 0 rfl)) rfl) ?_
 rintro bG bl ⟨hb, he⟩
 have a7 := below_step a6 hb
 have aU := below_step aS hb
 have aV := below_step aT hb
 have aP := below_step (bR aM) hb
 obtain rfl : bG = .slice ad ((aa ++ bytesOf a1 : List Int).length) ae := he
 refine hS.next (v := .slice ad ((aa ++ bytesOf a1 : List Int).length) ae) (d := 6) rfl (by decide) (by rfl) ?_
 clear hS
 intro b1 hS
 refine wpList_nil ?_
 refine aB _ _ ?_
 refine wp_seq_k (fun cd a9 => ?_)
 refine wp_seq_k (fun ce bu => ?_)
 refine reg_seq (I := I5_ w w3 w9 aM bl) (ps := [IsV (.slice ad ((aa ++ bytesOf a1 : List Int).length) ae), VI ((aa ++ bytesOf a1 : List Int).length : Int), VI (Int.tmod ((aa ++ bytesOf a1 : List Int).length : Int) 2), VB (!decide ((Int.tmod ((aa ++ bytesOf a1 : List Int).length : Int) 2) = 0))]) (by kernel_rfl) ?_ ?_ rfl hS ⟨a7, aU, aV, aP, (bR bl)⟩ ?_ ?_
 ·exact bs5
 ·exact .v (.v (.v (.v (.nil))))
 ·refine .ms 0 rfl rfl rfl ?_
  refine .on rfl (fun a w hS hI hp => does_val (x_len (e := 5) rfl (by kernel_rfl) (hp.V 0 rfl rfl)) rfl) ?_
  refine .on rfl (fun a w hS hI hp => does_val (x_bin rfl (hp.V 1 rfl rfl) (rfl) (b_rem _ _ _ _ _ _ (by decide))) rfl) ?_
  refine .on rfl (fun a w hS hI hp => does_val (x_bin rfl (hp.V 2 rfl rfl) (rfl) (b_neq _ _ _ _ _ _)) rfl) ?_
  exact .nil
 clear hS
 intro b2 ac hS al hp
 replace hS := ((hS.nil).cons (hS.get 3 rfl)).cons (hS.get 0 rfl)
 have bc : sl _ 23 = .bool (!decide ((Int.tmod ((aa ++ bytesOf a1 : List Int).length : Int) 2) = 0)) := hp 3 (by decide)
 have hS := hS.cons bc
 clear hp bc
 refine bu _ _ ?_
 by_cases c4 : (Int.tmod ((aa ++ bytesOf a1 : List Int).length : Int) 2) = 0
 ·rw [if_pos c4] at H
  refine wp_cond_false ((hS.get 0 rfl).trans (bF (congrArg (!·) (decide_eq_true c4)))) ?_
  refine wp_skip ?_
  refine a9 _ _ ?_
  refine wp_seq_k (fun cf bv => ?_)
  refine wp_seq_k (fun cg bw => ?_)
  refine reg_seq (I := I5_ w w3 w9 aM ac) (ps := [IsV (.slice ad ((aa ++ bytesOf a1 : List Int).length) ae), VI ((aa ++ bytesOf a1 : List Int).length : Int), VB (decide (((aa ++ bytesOf a1 : List Int).length : Int) > 400))]) (by kernel_rfl) ?_ ?_ rfl hS ⟨al.1, al.2.1, al.2.2.1, al.2.2.2.1, (bR ac)⟩ ?_ ?_
  ·exact bs5
  ·exact .v (.v (.v (.nil)))
  ·refine .ms 1 rfl rfl rfl ?_
   refine .on rfl (fun a w hS hI hp => does_val (x_len (e := 5) rfl (by kernel_rfl) (hp.V 0 rfl rfl)) rfl) ?_
   refine .on rfl (fun a w hS hI hp => does_val (x_bin rfl (hp.V 1 rfl rfl) (rfl) (b_gtr _ _ _ _ _ _)) rfl) ?_
   exact .nil
  clear hS
  intro b4 aJ hS am hp
  replace hS := ((hS.nil).cons (hS.get 2 rfl)).cons (hS.get 1 rfl)
  have aE : sl _ 34 = .bool (decide (((aa ++ bytesOf a1 : List Int).length : Int) > 400)) := hp 2 (by decide)
  have hS := hS.cons aE
  clear hp aE
  refine bw _ _ ?_
  by_cases c5 : ((aa ++ bytesOf a1 : List Int).length : Int) > 400
  ·rw [if_pos c5] at H
   simp only [Option.some.injEq, Prod.mk.injEq] at H
   obtain ⟨rfl, rfl, rfl⟩ := H
   refine wp_cond_true ((hS.get 0 rfl).trans (bT (decide_eq_true c5))) ?_
   refine wp_seq_k (fun bN aX => ?_)
   refine reg_seq_tail 1 (I := I5_ w w3 w9 aM aJ) (ps := [IsV (.agg #[.int .i64 0, .string (⟨#[]⟩ : ByteArray)])]) (by kernel_rfl) ?_ ?_ rfl hS ⟨am.1, am.2.1, am.2.2.1, am.2.2.2.1, (bR aJ)⟩ ?_ ?_
   ·exact bs5
   ·exact .v (.nil)
   ·refine .on rfl (fun a w hS hI hp => does_val (x_build (vs := []) rfl (by rw [Array.toList_map]; exact (show [] = _ from rfl)) (by kernel_rfl)) rfl) ?_
    exact .nil
   clear hS
   intro bp bW hS aq hp
   replace hS := (hS.nil).cons (hS.get 2 rfl)
   have aF : sl _ 35 = .agg #[.int .i64 0, .string (⟨#[]⟩ : ByteArray)] := hp 0 (by decide)
   have hS := hS.cons aF
   clear hp aF
   show wpList _ _ _ [_, _] _ _
   refine list_step rfl (does_storeAll (g := g4) (cs := #[.int .i64 0, .string (⟨#[]⟩ : ByteArray)]) rfl (hS.get 1 rfl) (hS.get 0 rfl) ((aq.2.1.block g4 (blk_lt ab)).trans ab) (by kernel_rfl) (by kernel_rfl) (by kernel_rfl)) ?_
   rintro bI bd ⟨rfl, aj, hT⟩
   have ax := hT.below aq.1 ao (aq.1).size
   clear hT
   refine list_step rfl (R := fun v w' => Below _ _ w' ∧ (VB false) v w') (does_val (x_assign rfl (rfl)) rfl) ?_
   rintro a4 aO ⟨hb, he⟩
   have ay := below_step ax hb
   have ag := below_step (bR bd) hb
   obtain rfl : a4 = .bool false := he
   refine hS.next (v := .bool false) (d := 5) rfl (by decide) (by rfl) ?_
   clear hS
   intro bq hS
   refine wpList_nil ?_
   refine aX _ _ ?_
   refine wp_ret ?_
   (try simp only [Exit.then, Exit.inBlock, Exit.jump, Exit.noGoto])
   exact bodyPost_ret (v := .tuple #[.agg #[.int .i64 0, .string (⟨#[]⟩ : ByteArray)], .bool false]) (results_list (rs := [.cell 4 26, .tmp 5]) rfl (by simp) (Vals.cell g4 26 #[.int .i64 0, .string (⟨#[]⟩ : ByteArray)] (0, 0) _ (hS.get 2 rfl) ((ag.block g4 (blk_lt aj)).trans aj) Try.underlying26 rfl (by kernel_rfl) (Vals.at (hS.get 0 rfl) .nil))) hS.nodef ⟨rfl, ay⟩
  rw [if_neg c5] at H
  simp only [Option.some.injEq, Prod.mk.injEq] at H
  obtain ⟨rfl, rfl, rfl⟩ := H
  refine wp_cond_false ((hS.get 0 rfl).trans (bF (decide_eq_false c5))) ?_
  refine wp_skip ?_
  refine bv _ _ ?_
  refine wp_seq_k (fun bN aX => ?_)
  refine reg_seq_tail 3 (I := I5_ w w3 w9 aM aJ) (ps := [IsV (.slice ad ((aa ++ bytesOf a1 : List Int).length) ae), IsV (.string (strOfNums (aa ++ bytesOf a1 : List Int))), IsV (.agg #[.int .i64 1, .string (strOfNums (aa ++ bytesOf a1 : List Int))])]) (by kernel_rfl) ?_ ?_ rfl hS ⟨am.1, am.2.1, am.2.2.1, am.2.2.2.1, (bR aJ)⟩ ?_ ?_
  ·exact bs5
  ·exact .v (.v (.v (.nil)))
  ·refine .ms 1 rfl rfl rfl ?_
   refine .on rfl (fun a w hS hI hp => does_val (x_conv rfl (hp.V 0 rfl rfl) (Kd.C_string (by kernel_rfl) (e := 5) (by kernel_rfl) (by kernel_rfl) (Kd.C_below ba hI.2.2.2.1))) rfl) ?_
   refine .on rfl (fun a w hS hI hp => does_val (x_build (vs := [(0, .int .i64 1), (1, .string (strOfNums (aa ++ bytesOf a1 : List Int)))]) rfl (by rw [Array.toList_map]; exact (show [(0, a.eval (.const (.int .i64 1))), (1, a.eval (.tmp 37))] = _ from (li_cons (rfl) (li_cons (hp.V 1 rfl rfl) rfl)))) (by kernel_rfl)) rfl) ?_
   exact .nil
  clear hS
  intro bp bW hS aq hp
  replace hS := (hS.nil).cons (hS.get 2 rfl)
  have aG : sl _ 38 = .agg #[.int .i64 1, .string (strOfNums (aa ++ bytesOf a1 : List Int))] := hp 2 (by decide)
  have hS := hS.cons aG
  clear hp aG
  show wpList _ _ _ [_, _] _ _
  refine list_step rfl (does_storeAll (g := g4) (cs := #[.int .i64 1, .string (strOfNums (aa ++ bytesOf a1 : List Int))]) rfl (hS.get 1 rfl) (hS.get 0 rfl) ((aq.2.1.block g4 (blk_lt ab)).trans ab) (by kernel_rfl) (by kernel_rfl) (by kernel_rfl)) ?_
  rintro bI bd ⟨rfl, aj, hT⟩
  have ax := hT.below aq.1 ao (aq.1).size
  clear hT
  refine list_step rfl (R := fun v w' => Below _ _ w' ∧ (VB true) v w') (does_val (x_assign rfl (rfl)) rfl) ?_
  rintro a4 aO ⟨hb, he⟩
  have ay := below_step ax hb
  have ag := below_step (bR bd) hb
  obtain rfl : a4 = .bool true := he
  refine hS.next (v := .bool true) (d := 5) rfl (by decide) (by rfl) ?_
  clear hS
  intro bq hS
  refine wpList_nil ?_
  refine aX _ _ ?_
  refine wp_ret ?_
  (try simp only [Exit.then, Exit.inBlock, Exit.jump, Exit.noGoto])
  exact bodyPost_ret (v := .tuple #[.agg #[.int .i64 1, .string (strOfNums (aa ++ bytesOf a1 : List Int))], .bool true]) (results_list (rs := [.cell 4 26, .tmp 5]) rfl (by simp) (Vals.cell g4 26 #[.int .i64 1, .string (strOfNums (aa ++ bytesOf a1 : List Int))] (0, 0) _ (hS.get 2 rfl) ((ag.block g4 (blk_lt aj)).trans aj) Try.underlying26 rfl (by kernel_rfl) (Vals.at (hS.get 0 rfl) .nil))) hS.nodef ⟨rfl, ay⟩
 rw [if_neg c4] at H
 by_cases c5 : ((aa ++ bytesOf a1 : List Int).length + [0].length) * 1 ≤ 140737488355328
 rotate_left
 ·rw [if_neg c5] at H
  exact absurd H (by simp)
 rw [if_pos c5] at H
 refine wp_cond_true ((hS.get 0 rfl).trans (bT (congrArg (!·) (decide_eq_false c4)))) ?_
 refine reg_seq_tail 8 (I := I5_ w w3 w9 aM ac) (ps := [IsV (.slice ad ((aa ++ bytesOf a1 : List Int).length) ae), IsV (.slice ad ((aa ++ bytesOf a1 : List Int).length) ae), VI ((aa ++ bytesOf a1 : List Int).length : Int), IsV (.slice ad ((aa ++ bytesOf a1 : List Int).length) ae), VI ((aa ++ bytesOf a1 : List Int).length : Int), IsV (.slice ad ((aa ++ bytesOf a1 : List Int).length) ((aa ++ bytesOf a1 : List Int).length)), IsR (Kd.int .u8) 5 ac.heap.size [0], IsR (Kd.int .u8) 5 ac.heap.size ((aa ++ bytesOf a1 : List Int) ++ [0] : List Int)]) (by kernel_rfl) ?_ ?_ rfl hS ⟨al.1, al.2.1, al.2.2.1, al.2.2.2.1, (bR ac)⟩ ?_ ?_
 ·exact bs5
 ·exact .v (.v (.v (.v (.v (.v (.cons (Stays.r _ _ _ _) (.cons (Stays.r _ _ _ _) (.nil))))))))
 ·refine .ms 1 rfl rfl rfl ?_
  refine .ms 1 rfl rfl rfl ?_
  refine .on rfl (fun a w hS hI hp => does_val (x_len (e := 5) rfl (by kernel_rfl) (hp.V 1 rfl rfl)) rfl) ?_
  refine .ms 1 rfl rfl rfl ?_
  refine .on rfl (fun a w hS hI hp => does_val (x_len (e := 5) rfl (by kernel_rfl) (hp.V 3 rfl rfl)) rfl) ?_
  refine .on rfl (fun a w hS hI hp => does_val (x_cutcap (e := 5) (n := (aa ++ bytesOf a1 : List Int).length) (c := ae) (j := ((aa ++ bytesOf a1 : List Int).length : Int)) (k := ((aa ++ bytesOf a1 : List Int).length : Int)) rfl (by kernel_rfl) (by kernel_rfl) (hp.V 0 rfl rfl) (hp.V 2 rfl rfl) (hp.V 4 rfl rfl) (Int.natCast_nonneg _) (Int.le_refl _) (Int.ofNat_le.2 bB)) rfl) ?_
  refine .on rfl (fun a w hS hI hp => does_lit ac.heap.size 31 5 1 _ [(0, .int .u8 0)] [0] rfl (by kernel_rfl) (by rw [Array.toList_map]; exact (show [(0, a.eval (.const (.int .u8 0)))] = _ from (li_cons (rfl) rfl))) (by kernel_rfl) rfl (hI.2.2.2.2).size (Nat.le_of_ble_eq_true rfl)) ?_
  refine .on rfl (fun a w hS hI hp => (IsC.of_r (hp.V 6 rfl rfl)).elim fun A_ h_ => h_.elim fun c_ h_ => h_.elim fun hv_ h_ => h_.elim fun hl_ hc_ => does_capped (B := ac.heap.size) (.tmp 29) (.tmp 30) 31 5 (.int .u8 0) 1 rfl (by kernel_rfl) (by kernel_rfl) rfl (by decide) (aa ++ bytesOf a1 : List Int) [0] _ _ _ (hp.V 5 rfl rfl) hv_ (by decide) (Kd.C_below ba hI.2.2.2.1) (hc_) (hI.2.2.2.2).size c5) ?_
  exact .nil
 clear hS
 intro b3 aN hS aH hp
 replace hS := ((hS.nil).cons (hS.get 2 rfl)).cons (hS.get 1 rfl)
 obtain ⟨aK, aL, a2, b9, bA⟩ := Kd.R_reads (show Kd.R (Kd.int .u8) 5 aN ac.heap.size (fun _ => True) (sl _ 31) ((aa ++ bytesOf a1 : List Int) ++ [0] : List Int) from hp 7 (by decide))
 have ca : Kd.R (Kd.int .u8) 5 aN ac.heap.size (fun _ => True) (.slice aK ((aa ++ bytesOf a1 : List Int) ++ [0] : List Int).length aL) ((aa ++ bytesOf a1 : List Int) ++ [0] : List Int) := a2 ▸ (hp 7 (by decide))
 have hS := hS.cons a2
 clear hp a2
 show wpList _ _ _ [_] _ _
 refine list_step rfl (R := fun v w' => Below _ _ w' ∧ (IsV (.slice aK (((aa ++ bytesOf a1 : List Int) ++ [0] : List Int).length) aL)) v w') (does_val (x_assign rfl (hS.get 0 rfl)) rfl) ?_
 rintro bH aJ ⟨hb, he⟩
 have a8 := below_step aH.1 hb
 have aW := below_step aH.2.1 hb
 have bt := below_step aH.2.2.1 hb
 have bh := below_step aH.2.2.2.1 hb
 have aQ := below_step aH.2.2.2.2 hb
 have aR := below_step (bR aN) hb
 obtain rfl : bH = .slice aK (((aa ++ bytesOf a1 : List Int) ++ [0] : List Int).length) aL := he
 replace hS := ((hS.nil).cons (hS.get 2 rfl)).cons (hS.get 0 rfl)
 refine hS.next (v := .slice aK (((aa ++ bytesOf a1 : List Int) ++ [0] : List Int).length) aL) (d := 6) rfl (by decide) (by rfl) ?_
 clear hS
 intro b5 hS
 refine wpList_nil ?_
 refine a9 _ _ ?_
 refine wp_seq_k (fun ch bx => ?_)
 refine wp_seq_k (fun ci bz => ?_)
 refine reg_seq (I := I5_ w w3 ac aN aJ) (ps := [IsV (.slice aK (((aa ++ bytesOf a1 : List Int) ++ [0] : List Int).length) aL), VI (((aa ++ bytesOf a1 : List Int) ++ [0] : List Int).length : Int), VB (decide ((((aa ++ bytesOf a1 : List Int) ++ [0] : List Int).length : Int) > 400))]) (by kernel_rfl) ?_ ?_ rfl hS ⟨a8, aW, aQ, aR, (bR aJ)⟩ ?_ ?_
 ·exact bs5
 ·exact .v (.v (.v (.nil)))
 ·refine .ms 0 rfl rfl rfl ?_
  refine .on rfl (fun a w hS hI hp => does_val (x_len (e := 5) rfl (by kernel_rfl) (hp.V 0 rfl rfl)) rfl) ?_
  refine .on rfl (fun a w hS hI hp => does_val (x_bin rfl (hp.V 1 rfl rfl) (rfl) (b_gtr _ _ _ _ _ _)) rfl) ?_
  exact .nil
 clear hS
 intro b6 aO hS an hp
 replace hS := ((hS.nil).cons (hS.get 2 rfl)).cons (hS.get 0 rfl)
 have aE : sl _ 34 = .bool (decide ((((aa ++ bytesOf a1 : List Int) ++ [0] : List Int).length : Int) > 400)) := hp 2 (by decide)
 have hS := hS.cons aE
 clear hp aE
 refine bz _ _ ?_
 by_cases c6 : (((aa ++ bytesOf a1 : List Int) ++ [0] : List Int).length : Int) > 400
 ·rw [if_pos c6] at H
  simp only [Option.some.injEq, Prod.mk.injEq] at H
  obtain ⟨rfl, rfl, rfl⟩ := H
  refine wp_cond_true ((hS.get 0 rfl).trans (bT (decide_eq_true c6))) ?_
  refine wp_seq_k (fun bO aY => ?_)
  refine reg_seq_tail 1 (I := I5_ w w3 ac aN aO) (ps := [IsV (.agg #[.int .i64 0, .string (⟨#[]⟩ : ByteArray)])]) (by kernel_rfl) ?_ ?_ rfl hS ⟨an.1, an.2.1, an.2.2.1, an.2.2.2.1, (bR aO)⟩ ?_ ?_
  ·exact bs5
  ·exact .v (.nil)
  ·refine .on rfl (fun a w hS hI hp => does_val (x_build (vs := []) rfl (by rw [Array.toList_map]; exact (show [] = _ from rfl)) (by kernel_rfl)) rfl) ?_
   exact .nil
  clear hS
  intro br bX hS ar hp
  replace hS := (hS.nil).cons (hS.get 2 rfl)
  have aF : sl _ 35 = .agg #[.int .i64 0, .string (⟨#[]⟩ : ByteArray)] := hp 0 (by decide)
  have hS := hS.cons aF
  clear hp aF
  show wpList _ _ _ [_, _] _ _
  refine list_step rfl (does_storeAll (g := g4) (cs := #[.int .i64 0, .string (⟨#[]⟩ : ByteArray)]) rfl (hS.get 1 rfl) (hS.get 0 rfl) ((ar.2.1.block g4 (blk_lt ab)).trans ab) (by kernel_rfl) (by kernel_rfl) (by kernel_rfl)) ?_
  rintro bJ be ⟨rfl, ak, hT⟩
  have az := hT.below ar.1 ao (ar.1).size
  clear hT
  refine list_step rfl (R := fun v w' => Below _ _ w' ∧ (VB false) v w') (does_val (x_assign rfl (rfl)) rfl) ?_
  rintro a5 bY ⟨hb, he⟩
  have aA := below_step az hb
  have ah := below_step (bR be) hb
  obtain rfl : a5 = .bool false := he
  refine hS.next (v := .bool false) (d := 5) rfl (by decide) (by rfl) ?_
  clear hS
  intro bs hS
  refine wpList_nil ?_
  refine aY _ _ ?_
  refine wp_ret ?_
  (try simp only [Exit.then, Exit.inBlock, Exit.jump, Exit.noGoto])
  exact bodyPost_ret (v := .tuple #[.agg #[.int .i64 0, .string (⟨#[]⟩ : ByteArray)], .bool false]) (results_list (rs := [.cell 4 26, .tmp 5]) rfl (by simp) (Vals.cell g4 26 #[.int .i64 0, .string (⟨#[]⟩ : ByteArray)] (0, 0) _ (hS.get 2 rfl) ((ah.block g4 (blk_lt ak)).trans ak) Try.underlying26 rfl (by kernel_rfl) (Vals.at (hS.get 0 rfl) .nil))) hS.nodef ⟨rfl, aA⟩
 rw [if_neg c6] at H
 simp only [Option.some.injEq, Prod.mk.injEq] at H
 obtain ⟨rfl, rfl, rfl⟩ := H
 refine wp_cond_false ((hS.get 0 rfl).trans (bF (decide_eq_false c6))) ?_
 refine wp_skip ?_
 refine bx _ _ ?_
 refine wp_seq_k (fun bO aY => ?_)
 refine reg_seq_tail 3 (I := I5_ w w3 ac aN aO) (ps := [IsV (.slice aK (((aa ++ bytesOf a1 : List Int) ++ [0] : List Int).length) aL), IsV (.string (strOfNums ((aa ++ bytesOf a1 : List Int) ++ [0] : List Int))), IsV (.agg #[.int .i64 1, .string (strOfNums ((aa ++ bytesOf a1 : List Int) ++ [0] : List Int))])]) (by kernel_rfl) ?_ ?_ rfl hS ⟨an.1, an.2.1, an.2.2.1, an.2.2.2.1, (bR aO)⟩ ?_ ?_
 ·exact bs5
 ·exact .v (.v (.v (.nil)))
 ·refine .ms 1 rfl rfl rfl ?_
  refine .on rfl (fun a w hS hI hp => does_val (x_conv rfl (hp.V 0 rfl rfl) (Kd.C_string (by kernel_rfl) (e := 5) (by kernel_rfl) (by kernel_rfl) (Kd.C_below bA hI.2.2.2.1))) rfl) ?_
  refine .on rfl (fun a w hS hI hp => does_val (x_build (vs := [(0, .int .i64 1), (1, .string (strOfNums ((aa ++ bytesOf a1 : List Int) ++ [0] : List Int)))]) rfl (by rw [Array.toList_map]; exact (show [(0, a.eval (.const (.int .i64 1))), (1, a.eval (.tmp 37))] = _ from (li_cons (rfl) (li_cons (hp.V 1 rfl rfl) rfl)))) (by kernel_rfl)) rfl) ?_
  exact .nil
 clear hS
 intro br bX hS ar hp
 replace hS := (hS.nil).cons (hS.get 2 rfl)
 have aG : sl _ 38 = .agg #[.int .i64 1, .string (strOfNums ((aa ++ bytesOf a1 : List Int) ++ [0] : List Int))] := hp 2 (by decide)
 have hS := hS.cons aG
 clear hp aG
 show wpList _ _ _ [_, _] _ _
 refine list_step rfl (does_storeAll (g := g4) (cs := #[.int .i64 1, .string (strOfNums ((aa ++ bytesOf a1 : List Int) ++ [0] : List Int))]) rfl (hS.get 1 rfl) (hS.get 0 rfl) ((ar.2.1.block g4 (blk_lt ab)).trans ab) (by kernel_rfl) (by kernel_rfl) (by kernel_rfl)) ?_
 rintro bJ be ⟨rfl, ak, hT⟩
 have az := hT.below ar.1 ao (ar.1).size
 clear hT
 refine list_step rfl (R := fun v w' => Below _ _ w' ∧ (VB true) v w') (does_val (x_assign rfl (rfl)) rfl) ?_
 rintro a5 bY ⟨hb, he⟩
 have aA := below_step az hb
 have ah := below_step (bR be) hb
 obtain rfl : a5 = .bool true := he
 refine hS.next (v := .bool true) (d := 5) rfl (by decide) (by rfl) ?_
 clear hS
 intro bs hS
 refine wpList_nil ?_
 refine aY _ _ ?_
 refine wp_ret ?_
 (try simp only [Exit.then, Exit.inBlock, Exit.jump, Exit.noGoto])
 exact bodyPost_ret (v := .tuple #[.agg #[.int .i64 1, .string (strOfNums ((aa ++ bytesOf a1 : List Int) ++ [0] : List Int))], .bool true]) (results_list (rs := [.cell 4 26, .tmp 5]) rfl (by simp) (Vals.cell g4 26 #[.int .i64 1, .string (strOfNums ((aa ++ bytesOf a1 : List Int) ++ [0] : List Int))] (0, 0) _ (hS.get 2 rfl) ((ah.block g4 (blk_lt ak)).trans ak) Try.underlying26 rfl (by kernel_rfl) (Vals.at (hS.get 0 rfl) .nil))) hS.nodef ⟨rfl, aA⟩
end Go.Proofs.Ytgmiokocipmbaaa.P
