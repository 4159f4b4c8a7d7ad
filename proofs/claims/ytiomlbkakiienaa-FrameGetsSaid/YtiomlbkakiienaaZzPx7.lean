/- Functions and loops of the given program as Lean functions, and that the code comes to what they say: written by this session's own program; Lean checks it. -/
import Derived.Test.YtiomlbkakiienaaZzPx0
import Derived.Test.YtiomlbkakiienaaZzPx3
import Derived.Test.YtiomlbkakiienaaZzPx4
import Derived.Test.YtiomlbkakiienaaZzPx6
namespace Go.Proofs.Ytiomlbkakiienaa.P
open Go.RowKit Go.Proofs.YtiomlbkakiienaaW.PrintWords Go.Proofs.YtiomlbkakiienaaW.PrintLast Go.Proofs.YtiomlbkakiienaaW.PrintMore
attribute [local go_sem] max2_int min2_int max_two min_two max_three min_three max_four min_four   -- for this text's walks alone
set_option linter.unusedVariables false
set_option linter.unusedSimpArgs false
def tlv_Get.l1 (k : Nat) : Nat → (List Int) → Int → (List (S43)) → Int → Option (List (S43) × Int)
  | 0, _, _, _, _ => none
  | n1 + 1, y1_0, x1_1, y1_6, x1_7 => if x1_1 < (y1_0.length : Int) then ((octets_Get.f k y1_0 (wrap64 (x1_1 + 2)) 2).bind fun t1006 => (if (y1_6.length : Int) = 8 then (some ([], 7)) else (if t1006.2 = true then (if t1006.1 > (wrap64 ((wrap64 ((y1_0.length : Int) - x1_1)) - 4)) then (some ([], 2)) else (if (Int.tmod t1006.1 2) = 0 then (if x1_7 = 0 then ((octets_Get.f k y1_0 x1_1 2).bind fun t1024 => (if 0 ≤ (wrap64 (x1_1 + 4)) then (if (wrap64 (x1_1 + 4)) ≤ (wrap64 ((wrap64 (x1_1 + 4)) + t1006.1)) then (if (wrap64 ((wrap64 (x1_1 + 4)) + t1006.1)) ≤ (y1_0.length : Int) then (if (y1_6.length + [(⟨t1024.1, strOfNums ((y1_0.take (wrap64 ((wrap64 (x1_1 + 4)) + t1006.1) : Int).toNat).drop (wrap64 (x1_1 + 4) : Int).toNat)⟩ : S43)].length) * 24 ≤ 140737488355328 then (tlv_Get.l1 k n1 y1_0 (wrap64 (x1_1 + (wrap64 (4 + t1006.1)))) (y1_6 ++ [(⟨t1024.1, strOfNums ((y1_0.take (wrap64 ((wrap64 (x1_1 + 4)) + t1006.1) : Int).toNat).drop (wrap64 (x1_1 + 4) : Int).toNat)⟩ : S43)] : List S43) x1_7) else (none)) else (none)) else (none)) else (none))) else (some ([], x1_7))) else (some ([], 4)))) else (some ([], 2))))) else (if x1_7 = 0 then (some (y1_6, 0)) else (some ([], x1_7)))
def tlv_Get.f (k : Nat) (l0 : List Int) (a1 : Int) : Option (List (S43) × Int) := if a1 < 0 then (some ([], 1)) else (if a1 > (l0.length : Int) then (some ([], 1)) else (tlv_Get.l1 k k l0 a1 [] 0))
open Go.Proofs.Ytiomlbkakiienaa.E in
theorem tlv_Get.flat43 : Flat k43 (fun x => [.int .i64 x.f0, .string x.f1]) := ⟨fun w x cs h => k43_open h, fun w base x => k43_mkM w base _ x⟩
open Go.Proofs.Ytiomlbkakiienaa.E in
set_option maxHeartbeats 60000000 in
set_option maxRecDepth 100000 in
theorem tlv_Get.calls (k : Nat) (A0 : Option Addr) (bW : Nat) (l0 : List Int) (a1 : Int) (r1 : List (S43)) (r2 : Int) (w : World) (HR0 : Kd.C (Kd.int .u8) w A0 l0.length l0) (HC0 : l0.length ≤ bW) (h : tlv_Get.f k l0 a1 = some (r1, r2)) :
    Calls Try.prog 30 #[.slice A0 l0.length bW, .int .i64 a1] w fun e w' => ∃ v0_ : Value, e = .returned (.tuple #[v0_, .int .i64 r2]) ∧ Kd.R k43 43 w' w.heap.size (fun _ => True) v0_ r1 ∧ Below w.heap.size w w' := by
 have H := h
 clear h
 unfold tlv_Get.f at H
 refine calls_of_wp (fn := Try.f30) (by kernel_rfl) rfl ?_
 have hS := St.enter #[.slice A0 l0.length bW, .int .i64 a1] 81 (by simp) [(0, .slice A0 l0.length bW), (1, .int .i64 a1)] (by simp)
 have cB := Below.refl w.heap.size w
 refine wp_seq_k (fun K1 cN => ?_)
 refine reg_seq (I := I1_ w) (ps := [IsV (.slice none 0 0), VI 0]) (by kernel_rfl) ?_ ?_ rfl hS cB ?_ ?_
 ·exact bs1
 ·exact .v (.v (.nil))
 ·refine .on rfl (fun a w hS hI hp => does_val (x_assign rfl (rfl)) rfl) ?_
  refine .on rfl (fun a w hS hI hp => does_val (x_assign rfl (rfl)) rfl) ?_
  exact .nil
 clear hS
 intro dm w3 hS cx hp
 clear hp
 refine cN _ _ ?_
 refine wp_scope_straight ?_
 refine wp_seq_k (fun K4 cR => ?_)
 refine wp_seq_k (fun K5 ct => ?_)
 by_cases c1 : a1 < 0
 ·rw [if_pos c1] at H
  simp only [Option.some.injEq, Prod.mk.injEq] at H
  obtain ⟨rfl, rfl⟩ := H
  refine reg_seq (I := I2_ w w3) (ps := [VI a1, VB (decide (a1 < 0)), VB (decide (a1 < 0)), VU, VU, VU, VU, VB true]) (by kernel_rfl) ?_ ?_ rfl hS ⟨cx, (bR w3)⟩ ?_ ?_
  ·exact bs2
  ·exact .v (.v (.v (.v (.v (.v (.v (.v (.nil))))))))
  ·refine .ms 1 rfl rfl rfl ?_
   refine .on rfl (fun a w hS hI hp => does_val (x_bin rfl (hp.V 0 rfl rfl) (rfl) (b_lss _ _ _ _ _ _)) rfl) ?_
   refine .mv 1 rfl rfl rfl ?_
   iterate 4 refine .sn 2 14 rfl rfl ((decide_eq_true c1)) ?_
   refine .on rfl (fun a w hS hI hp => does_val (x_pickT rfl ((hp.V 2 rfl rfl).trans (bT (decide_eq_true c1))) (rfl)) rfl) ?_
   exact .nil
  clear hS
  intro cM w7 hS bw hp
  have bb : sl _ 19 = .bool true := hp 7 (by decide)
  have hS := hS.cons bb
  clear hp bb
  refine ct _ _ ?_
  refine wp_cond_true ((hS.get 0 rfl).trans (bT rfl)) ?_
  refine wp_seq_k (fun K8 bm => ?_)
  refine reg_seq (I := I2_ w w7) (ps := [IsV (.slice none 0 0), VI 1]) (by kernel_rfl) ?_ ?_ rfl hS ⟨bw.1, (bR w7)⟩ ?_ ?_
  ·exact bs2
  ·exact .v (.v (.nil))
  ·refine .on rfl (fun a w hS hI hp => does_val (x_assign rfl (rfl)) rfl) ?_
   refine .on rfl (fun a w hS hI hp => does_val (x_assign rfl (rfl)) rfl) ?_
   exact .nil
  clear hS
  intro cr bx hS bd hp
  replace hS := hS.nil
  have ai : sl _ 4 = .slice none 0 0 := hp 0 (by decide)
  have aj : sl _ 5 = .int .i64 1 := hp 1 (by decide)
  have hS := hS.cons ai
  have hS := hS.cons aj
  clear hp ai aj
  refine bm _ _ ?_
  refine wp_ret ?_
  (try simp only [Exit.then, Exit.inBlock, Exit.jump, Exit.noGoto])
  exact bodyPost_ret (v := .tuple #[.slice none 0 0, .int .i64 1]) (results_list (rs := [.tmp 4, .tmp 5]) rfl (by simp) (Vals.at (hS.get 1 rfl) (Vals.at (hS.get 0 rfl) .nil))) hS.nodef ⟨.slice none 0 0, rfl, Kd.R_nil _ _ _ _ _, bd.1⟩
 rw [if_neg c1] at H
 refine reg_seq (I := I2_ w w3) (ps := [VI a1, VB (decide (a1 < 0)), VB (decide (a1 < 0)), VI a1, IsV (.slice A0 l0.length bW), VI (l0.length : Int), VB (decide (a1 > (l0.length : Int))), VB (decide (a1 > (l0.length : Int)))]) (by kernel_rfl) ?_ ?_ rfl hS ⟨cx, (bR w3)⟩ ?_ ?_
 ·exact bs2
 ·exact .v (.v (.v (.v (.v (.v (.v (.v (.nil))))))))
 ·refine .ms 1 rfl rfl rfl ?_
  refine .on rfl (fun a w hS hI hp => does_val (x_bin rfl (hp.V 0 rfl rfl) (rfl) (b_lss _ _ _ _ _ _)) rfl) ?_
  refine .mv 1 rfl rfl rfl ?_
  refine .oy 2 14 rfl rfl ((decide_eq_false c1)) (fun a w hS hI hp => does_val (x_move rfl (hS.get 1 rfl)) rfl) ?_
  refine .oy 2 14 rfl rfl ((decide_eq_false c1)) (fun a w hS hI hp => does_val (x_move rfl (hS.get 0 rfl)) rfl) ?_
  refine .oy 2 14 rfl rfl ((decide_eq_false c1)) (fun a w hS hI hp => does_val (x_len (e := 5) rfl (by kernel_rfl) (hp.V 4 rfl rfl)) rfl) ?_
  refine .oy 2 14 rfl rfl ((decide_eq_false c1)) (fun a w hS hI hp => does_val (x_bin rfl (hp.V 3 rfl rfl) (hp.V 5 rfl rfl) (b_gtr _ _ _ _ _ _)) rfl) ?_
  refine .on rfl (fun a w hS hI hp => does_val (x_pickF rfl ((hp.V 2 rfl rfl).trans (bF (decide_eq_false c1))) (hp.V 6 rfl rfl)) rfl) ?_
  exact .nil
 clear hS
 intro cM w7 hS bw hp
 have bb : sl _ 19 = .bool (decide (a1 > (l0.length : Int))) := hp 7 (by decide)
 have hS := hS.cons bb
 clear hp bb
 refine ct _ _ ?_
 by_cases c2 : a1 > (l0.length : Int)
 ·rw [if_pos c2] at H
  simp only [Option.some.injEq, Prod.mk.injEq] at H
  obtain ⟨rfl, rfl⟩ := H
  refine wp_cond_true ((hS.get 0 rfl).trans (bT (decide_eq_true c2))) ?_
  refine wp_seq_k (fun K8 bm => ?_)
  refine reg_seq (I := I2_ w w7) (ps := [IsV (.slice none 0 0), VI 1]) (by kernel_rfl) ?_ ?_ rfl hS ⟨bw.1, (bR w7)⟩ ?_ ?_
  ·exact bs2
  ·exact .v (.v (.nil))
  ·refine .on rfl (fun a w hS hI hp => does_val (x_assign rfl (rfl)) rfl) ?_
   refine .on rfl (fun a w hS hI hp => does_val (x_assign rfl (rfl)) rfl) ?_
   exact .nil
  clear hS
  intro cr bx hS bd hp
  replace hS := hS.nil
  have ai : sl _ 4 = .slice none 0 0 := hp 0 (by decide)
  have aj : sl _ 5 = .int .i64 1 := hp 1 (by decide)
  have hS := hS.cons ai
  have hS := hS.cons aj
  clear hp ai aj
  refine bm _ _ ?_
  refine wp_ret ?_
  (try simp only [Exit.then, Exit.inBlock, Exit.jump, Exit.noGoto])
  exact bodyPost_ret (v := .tuple #[.slice none 0 0, .int .i64 1]) (results_list (rs := [.tmp 4, .tmp 5]) rfl (by simp) (Vals.at (hS.get 1 rfl) (Vals.at (hS.get 0 rfl) .nil))) hS.nodef ⟨.slice none 0 0, rfl, Kd.R_nil _ _ _ _ _, bd.1⟩
 rw [if_neg c2] at H
 refine wp_cond_false ((hS.get 0 rfl).trans (bF (decide_eq_false c2))) ?_
 refine wp_skip ?_
 refine cR _ _ ?_
 refine wp_seq_k (fun K8 bm => ?_)
 refine reg_seq (I := I2_ w w7) (ps := [IsV (.slice none 0 0)]) (by kernel_rfl) ?_ ?_ rfl hS ⟨bw.1, (bR w7)⟩ ?_ ?_
 ·exact bs2
 ·exact .v (.nil)
 ·refine .on rfl (fun a w hS hI hp => does_val (x_assign rfl (rfl)) rfl) ?_
  exact .nil
 clear hS
 intro cr bx hS bd hp
 replace hS := ((hS.nil).cons (hS.get 2 rfl)).cons (hS.get 1 rfl)
 have cu : sl _ 6 = .slice none 0 0 := hp 0 (by decide)
 have hS := hS.cons cu
 clear hp cu
 refine bm _ _ ?_
 refine wp_seq_k (fun di cy => ?_)
 refine reg_seq (I := I2_ w bx) (ps := [VI 0]) (by kernel_rfl) ?_ ?_ rfl hS ⟨bd.1, (bR bx)⟩ ?_ ?_
 ·exact bs2
 ·exact .v (.nil)
 ·refine .on rfl (fun a w hS hI hp => does_val (x_assign rfl (rfl)) rfl) ?_
  exact .nil
 clear hS
 intro dh dn hS cA hp
 have aA : sl _ 7 = .int .i64 0 := hp 0 (by decide)
 have hS := hS.cons aA
 clear hp aA
 refine cy _ _ ?_
 refine wp_seq_k (fun dj cz => ?_)
 refine wp_label ?_
 refine cz _ _ ?_
 refine wp_seq_k (fun dk aX => ?_)
 refine wp_block ?_
 replace hS := ((((hS.nil).cons (hS.get 0 rfl)).cons (hS.get 1 rfl)).cons (hS.get 3 rfl)).cons (hS.get 2 rfl)
 refine wp_loop_ghost (fun n_ a_ af => ∃ (ac : List Int) (aq : Option Addr) (ar : Nat) (ab : Int) (ae : List (S43)) (am : Option Addr) (al : Nat) (ah : Int), tlv_Get.l1 k n_ ac ab ae ah = some (r1, r2) ∧ St 81 [(0, .slice aq ac.length ar), (1, .int .i64 ab), (6, .slice am ae.length al), (7, .int .i64 ah)] a_ ∧ Below w.heap.size w af ∧ ac.length ≤ ar ∧ Kd.C (Kd.int .u8) w aq ac.length ac ∧ ae.length ≤ al ∧ Kd.R k43 43 af w.heap.size (fun _ => True) (.slice am ae.length al) ae) k ⟨l0, A0, bW, a1, [], none, 0, 0, H, hS, cA.1, HC0, (HR0), (Nat.le_refl _), (Kd.R_nil _ _ _ _ _)⟩ ?_
 clear H hS
 rintro n1 dl af ⟨ac, aq, ar, ab, ae, am, al, ah, H, hS, bD, a2, aR, df, bn⟩
 rcases n1 with _ | n1
 ·exact absurd H (by simp [tlv_Get.l1])
 rw [tlv_Get.l1] at H
 (try dsimp only at H)
 refine wp_seq_k (fun cW bX => ?_)
 refine wp_seq_k (fun cX bY => ?_)
 refine reg_seq (I := I2_ w af) (ps := [VI ab, IsV (.slice aq ac.length ar), VI (ac.length : Int), VB (decide (ab < (ac.length : Int)))]) (by kernel_rfl) ?_ ?_ rfl hS ⟨bD, (bR af)⟩ ?_ ?_
 ·exact bs2
 ·exact .v (.v (.v (.v (.nil))))
 ·refine .ms 1 rfl rfl rfl ?_
  refine .ms 0 rfl rfl rfl ?_
  refine .on rfl (fun a w hS hI hp => does_val (x_len (e := 5) rfl (by kernel_rfl) (hp.V 1 rfl rfl)) rfl) ?_
  refine .on rfl (fun a w hS hI hp => does_val (x_bin rfl (hp.V 0 rfl rfl) (hp.V 2 rfl rfl) (b_lss _ _ _ _ _ _)) rfl) ?_
  exact .nil
 clear hS
 intro cC a3 hS aS hp
 have b8 : sl _ 23 = .bool (decide (ab < (ac.length : Int))) := hp 3 (by decide)
 have hS := hS.cons b8
 clear hp b8
 refine bY _ _ ?_
 by_cases c3 : ab < (ac.length : Int)
 rotate_left
 ·rw [if_neg c3] at H
  refine wp_cond_false ((hS.get 0 rfl).trans (bF (decide_eq_false c3))) ?_
  refine wp_exit ?_
  (try simp only [Exit.then, Exit.inBlock, reduceIte])
  refine aX _ _ ?_
  refine wp_seq_k (fun ci a6 => ?_)
  refine wp_seq_k (fun cY bZ => ?_)
  refine reg_seq (I := I3_ w af a3) (ps := [VI ah, VB (!decide (ah = 0))]) (by kernel_rfl) ?_ ?_ rfl hS ⟨aS.1, aS.2, (bR a3)⟩ ?_ ?_
  ·exact bs3
  ·exact .v (.v (.nil))
  ·refine .ms 4 rfl rfl rfl ?_
   refine .on rfl (fun a w hS hI hp => does_val (x_bin rfl (hp.V 0 rfl rfl) (rfl) (b_neq _ _ _ _ _ _)) rfl) ?_
   exact .nil
  clear hS
  intro bI aF hS av hp
  replace hS := ((hS.nil).cons (hS.get 4 rfl)).cons (hS.get 3 rfl)
  have ak : sl _ 78 = .bool (!decide (ah = 0)) := hp 1 (by decide)
  have hS := hS.cons ak
  clear hp ak
  refine bZ _ _ ?_
  by_cases c4 : ah = 0
  rotate_left
  ·rw [if_neg c4] at H
   simp only [Option.some.injEq, Prod.mk.injEq] at H
   obtain ⟨rfl, rfl⟩ := H
   refine wp_cond_true ((hS.get 0 rfl).trans (bT (congrArg (!·) (decide_eq_false c4)))) ?_
   refine wp_seq_k (fun bt an => ?_)
   refine reg_seq (I := I3_ w af aF) (ps := [VI ah, IsV (.slice none 0 0), VI ah]) (by kernel_rfl) ?_ ?_ rfl hS ⟨av.1, av.2.1, (bR aF)⟩ ?_ ?_
   ·exact bs3
   ·exact .v (.v (.v (.nil)))
   ·refine .ms 2 rfl rfl rfl ?_
    refine .on rfl (fun a w hS hI hp => does_val (x_assign rfl (rfl)) rfl) ?_
    refine .asg 0 rfl rfl rfl ?_
    exact .nil
   clear hS
   intro bJ cp hS aT hp
   replace hS := hS.nil
   have ai : sl _ 4 = .slice none 0 0 := hp 1 (by decide)
   have aj : sl _ 5 = .int .i64 ah := hp 2 (by decide)
   have hS := hS.cons ai
   have hS := hS.cons aj
   clear hp ai aj
   refine an _ _ ?_
   refine wp_ret ?_
   (try simp only [Exit.then, Exit.inBlock, Exit.jump, Exit.noGoto])
   exact bodyPost_ret (v := .tuple #[.slice none 0 0, .int .i64 ah]) (results_list (rs := [.tmp 4, .tmp 5]) rfl (by simp) (Vals.at (hS.get 1 rfl) (Vals.at (hS.get 0 rfl) .nil))) hS.nodef ⟨.slice none 0 0, rfl, Kd.R_nil _ _ _ _ _, aT.1⟩
  rw [if_pos c4] at H
  simp only [Option.some.injEq, Prod.mk.injEq] at H
  obtain ⟨rfl, rfl⟩ := H
  refine wp_cond_false ((hS.get 0 rfl).trans (bF (congrArg (!·) (decide_eq_true c4)))) ?_
  refine wp_skip ?_
  refine a6 _ _ ?_
  refine wp_seq_k (fun bt an => ?_)
  refine reg_seq (I := I3_ w af aF) (ps := [IsV (.slice am ae.length al), IsV (.slice am ae.length al), VI 0]) (by kernel_rfl) ?_ ?_ rfl hS ⟨av.1, av.2.1, (bR aF)⟩ ?_ ?_
  ·exact bs3
  ·exact .v (.v (.v (.nil)))
  ·refine .ms 1 rfl rfl rfl ?_
   refine .asg 0 rfl rfl rfl ?_
   refine .on rfl (fun a w hS hI hp => does_val (x_assign rfl (rfl)) rfl) ?_
   exact .nil
  clear hS
  intro bJ cp hS aT hp
  replace hS := hS.nil
  have ai : sl _ 4 = .slice am ae.length al := hp 1 (by decide)
  have aj : sl _ 5 = .int .i64 0 := hp 2 (by decide)
  have hS := hS.cons ai
  have hS := hS.cons aj
  clear hp ai aj
  refine an _ _ ?_
  refine wp_ret ?_
  (try simp only [Exit.then, Exit.inBlock, Exit.jump, Exit.noGoto])
  exact bodyPost_ret (v := .tuple #[.slice am ae.length al, .int .i64 0]) (results_list (rs := [.tmp 4, .tmp 5]) rfl (by simp) (Vals.at (hS.get 1 rfl) (Vals.at (hS.get 0 rfl) .nil))) hS.nodef ⟨.slice am ae.length al, rfl, Kd.R_lower (Kd.R_below bn aT.2.1) (Nat.le_refl _), aT.1⟩
 rw [if_pos c3] at H
 obtain ⟨cn, bG, H⟩ := Option.bind_eq_some_iff.mp H
 obtain ⟨aa, ag⟩ := cn
 (try dsimp only at H)
 refine wp_cond_true ((hS.get 0 rfl).trans (bT (decide_eq_true c3))) ?_
 refine wp_skip ?_
 refine bX _ _ ?_
 refine wp_block ?_
 refine wp_seq_k (fun ci a6 => ?_)
 refine reg_seq (I := I3_ w af a3) (ps := [IsV (.slice aq ac.length ar), VI ab, VI (wrap64 (ab + 2)), IsV (.tuple #[.int .i64 aa, .bool ag]), IsV (.tuple #[.int .i64 aa, .bool ag]), VI aa, VB ag, VI aa, VB ag]) (by kernel_rfl) ?_ ?_ rfl hS ⟨aS.1, aS.2, (bR a3)⟩ ?_ ?_
 ·exact bs3
 ·exact .v (.v (.v (.v (.v (.v (.v (.v (.v (.nil)))))))))
 ·refine .ms 1 rfl rfl rfl ?_
  refine .ms 2 rfl rfl rfl ?_
  refine .on rfl (fun a w hS hI hp => does_val (x_bin rfl (hp.V 1 rfl rfl) (rfl) (b_add _ _ _ _ _)) rfl) ?_
  refine .on rfl (fun a w hS hI hp => does_call (by kernel_rfl) (ar3 (hp.V 0 rfl rfl) (hp.V 2 rfl rfl) (rfl)) ((octets_Get.calls k _ _ ac (wrap64 (ab + 2)) 2 aa ag _ (Kd.C_below aR hI.1) a2 bG).mono fun _ _ h => ⟨_, h.1, h.2.below, rfl⟩)) ?_
  refine .mv 3 rfl rfl rfl ?_
  iterate 2 refine .on rfl (fun a w hS hI hp => does_val (x_extract rfl (hp.V 4 rfl rfl) rfl) rfl) ?_
  refine .asg 5 rfl rfl rfl ?_
  refine .asg 6 rfl rfl rfl ?_
  exact .nil
 clear hS
 intro bI aF hS av hp
 replace hS := ((((hS.nil).cons (hS.get 4 rfl)).cons (hS.get 3 rfl)).cons (hS.get 2 rfl)).cons (hS.get 1 rfl)
 have cv : sl _ 8 = .int .i64 aa := hp 7 (by decide)
 have cw : sl _ 9 = .bool ag := hp 8 (by decide)
 have hS := hS.cons cv
 have hS := hS.cons cw
 clear hp cv cw
 refine a6 _ _ ?_
 refine wp_seq_k (fun bt an => ?_)
 refine wp_block ?_
 refine wp_seq_k (fun cZ b0 => ?_)
 refine reg_seq (I := I3_ w af aF) (ps := [IsV (.slice am ae.length al), VI (ae.length : Int), VB (decide ((ae.length : Int) = 8)), VB (decide ((ae.length : Int) = 8))]) (by kernel_rfl) ?_ ?_ rfl hS ⟨av.1, av.2.1, (bR aF)⟩ ?_ ?_
 ·exact bs3
 ·exact .v (.v (.v (.v (.nil))))
 ·refine .ms 4 rfl rfl rfl ?_
  refine .on rfl (fun a w hS hI hp => does_val (x_len (e := 43) rfl (by kernel_rfl) (hp.V 0 rfl rfl)) rfl) ?_
  refine .on rfl (fun a w hS hI hp => does_val (x_bin rfl (hp.V 1 rfl rfl) (rfl) (b_eql _ _ _ _ _ _)) rfl) ?_
  refine .asg 2 rfl rfl rfl ?_
  exact .nil
 clear hS
 intro cD aN hS aC hp
 have b9 : sl _ 31 = .bool (decide ((ae.length : Int) = 8)) := hp 3 (by decide)
 have hS := hS.cons b9
 clear hp b9
 refine b0 _ _ ?_
 by_cases c4 : (ae.length : Int) = 8
 ·rw [if_pos c4] at H
  simp only [Option.some.injEq, Prod.mk.injEq] at H
  obtain ⟨rfl, rfl⟩ := H
  refine wp_cond_true ((hS.get 0 rfl).trans (bT (decide_eq_true c4))) ?_
  replace hS := ((((((hS.nil).cons (hS.get 5 rfl)).cons (hS.get 4 rfl)).cons (hS.get 3 rfl)).cons (hS.get 2 rfl)).cons (hS.get 1 rfl)).cons (hS.get 0 rfl)
  refine reg_seq (I := I3_ w af aN) (ps := [VI 7]) (by kernel_rfl) ?_ ?_ rfl hS ⟨aC.1, aC.2.1, (bR aN)⟩ ?_ ?_
  ·exact bs3
  ·exact .v (.nil)
  ·refine .on rfl (fun a w hS hI hp => does_val (x_assign rfl (rfl)) rfl) ?_
   exact .nil
  clear hS
  intro cE bz hS bo hp
  replace hS := ((((hS.nil).cons (hS.get 5 rfl)).cons (hS.get 4 rfl)).cons (hS.get 3 rfl)).cons (hS.get 2 rfl)
  have aA : sl _ 7 = .int .i64 7 := hp 0 (by decide)
  have hS := hS.cons aA
  clear hp aA
  refine an _ _ ?_
  refine wp_seq_k (fun da cO => ?_)
  refine wp_seq_k (fun cj a7 => ?_)
  refine reg_seq (I := I3_ w af bz) (ps := [VI 7, VB (!decide (7 = 0))]) (by kernel_rfl) ?_ ?_ rfl hS ⟨bo.1, bo.2.1, (bR bz)⟩ ?_ ?_
  ·exact bs3
  ·exact .v (.v (.nil))
  ·refine .ms 0 rfl rfl rfl ?_
   refine .on rfl (fun a w hS hI hp => does_val (x_bin rfl (hp.V 0 rfl rfl) (rfl) (b_neq _ _ _ _ _ _)) rfl) ?_
   exact .nil
  clear hS
  intro bM aH hS ax hp
  have ao : sl _ 52 = .bool (!decide (7 = 0)) := hp 1 (by decide)
  have hS := hS.cons ao
  clear hp ao
  refine a7 _ _ ?_
  refine wp_cond_true ((hS.get 0 rfl).trans (bT (congrArg (!·) (decide_eq_false (by decide))))) ?_
  refine wp_exit ?_
  (try simp only [Exit.then, Exit.inBlock, reduceIte])
  refine aX _ _ ?_
  refine wp_seq_k (fun be aB => ?_)
  refine wp_seq_k (fun cl a8 => ?_)
  refine reg_seq (I := I3_ w af aH) (ps := [VI 7, VB (!decide (7 = 0))]) (by kernel_rfl) ?_ ?_ rfl hS ⟨ax.1, ax.2.1, (bR aH)⟩ ?_ ?_
  ·exact bs3
  ·exact .v (.v (.nil))
  ·refine .ms 1 rfl rfl rfl ?_
   refine .on rfl (fun a w hS hI hp => does_val (x_bin rfl (hp.V 0 rfl rfl) (rfl) (b_neq _ _ _ _ _ _)) rfl) ?_
   exact .nil
  clear hS
  intro bO aI hS ay hp
  replace hS := ((hS.nil).cons (hS.get 5 rfl)).cons (hS.get 1 rfl)
  have ak : sl _ 78 = .bool (!decide (7 = 0)) := hp 1 (by decide)
  have hS := hS.cons ak
  clear hp ak
  refine a8 _ _ ?_
  refine wp_cond_true ((hS.get 0 rfl).trans (bT (congrArg (!·) (decide_eq_false (by decide))))) ?_
  refine wp_seq_k (fun a0 ap => ?_)
  refine reg_seq (I := I3_ w af aI) (ps := [VI 7, IsV (.slice none 0 0), VI 7]) (by kernel_rfl) ?_ ?_ rfl hS ⟨ay.1, ay.2.1, (bR aI)⟩ ?_ ?_
  ·exact bs3
  ·exact .v (.v (.v (.nil)))
  ·refine .ms 1 rfl rfl rfl ?_
   refine .on rfl (fun a w hS hI hp => does_val (x_assign rfl (rfl)) rfl) ?_
   refine .asg 0 rfl rfl rfl ?_
   exact .nil
  clear hS
  intro bg aO hS az hp
  replace hS := hS.nil
  have ai : sl _ 4 = .slice none 0 0 := hp 1 (by decide)
  have aj : sl _ 5 = .int .i64 7 := hp 2 (by decide)
  have hS := hS.cons ai
  have hS := hS.cons aj
  clear hp ai aj
  refine ap _ _ ?_
  refine wp_ret ?_
  (try simp only [Exit.then, Exit.inBlock, Exit.jump, Exit.noGoto])
  exact bodyPost_ret (v := .tuple #[.slice none 0 0, .int .i64 7]) (results_list (rs := [.tmp 4, .tmp 5]) rfl (by simp) (Vals.at (hS.get 1 rfl) (Vals.at (hS.get 0 rfl) .nil))) hS.nodef ⟨.slice none 0 0, rfl, Kd.R_nil _ _ _ _ _, az.1⟩
 rw [if_neg c4] at H
 refine wp_cond_false ((hS.get 0 rfl).trans (bF (decide_eq_false c4))) ?_
 refine wp_seq_k (fun c0 bl => ?_)
 by_cases c5 : ag = true
 rotate_left
 ·rw [if_neg c5] at H
  simp only [Option.some.injEq, Prod.mk.injEq] at H
  obtain ⟨rfl, rfl⟩ := H
  refine reg_seq (I := I3_ w af aN) (ps := [VB ag, VB (!ag), VB (!ag), VU, VU, VU, VU, VU, VU, VU, VB true, VB true]) (by kernel_rfl) ?_ ?_ rfl hS ⟨aC.1, aC.2.1, (bR aN)⟩ ?_ ?_
  ·exact bs3
  ·exact .v (.v (.v (.v (.v (.v (.v (.v (.v (.v (.v (.v (.nil))))))))))))
  ·refine .ms 1 rfl rfl rfl ?_
   refine .on rfl (fun a w hS hI hp => does_val (x_not rfl (hp.V 0 rfl rfl)) rfl) ?_
   refine .mv 1 rfl rfl rfl ?_
   iterate 7 refine .sn 2 38 rfl rfl ((congrArg (!·) (Bool.eq_false_iff.2 c5))) ?_
   refine .on rfl (fun a w hS hI hp => does_val (x_pickT rfl ((hp.V 2 rfl rfl).trans (bT (congrArg (!·) (Bool.eq_false_iff.2 c5)))) (rfl)) rfl) ?_
   refine .asg 10 rfl rfl rfl ?_
   exact .nil
  clear hS
  intro bK aG hS aw hp
  replace hS := (((((hS.nil).cons (hS.get 6 rfl)).cons (hS.get 5 rfl)).cons (hS.get 4 rfl)).cons (hS.get 3 rfl)).cons (hS.get 2 rfl)
  have bc : sl _ 35 = .bool true := hp 11 (by decide)
  have hS := hS.cons bc
  clear hp bc
  refine bl _ _ ?_
  refine wp_cond_true ((hS.get 0 rfl).trans (bT rfl)) ?_
  replace hS := (((((hS.nil).cons (hS.get 4 rfl)).cons (hS.get 3 rfl)).cons (hS.get 2 rfl)).cons (hS.get 1 rfl)).cons (hS.get 0 rfl)
  refine reg_seq (I := I3_ w af aG) (ps := [VI 2]) (by kernel_rfl) ?_ ?_ rfl hS ⟨aw.1, aw.2.1, (bR aG)⟩ ?_ ?_
  ·exact bs3
  ·exact .v (.nil)
  ·refine .on rfl (fun a w hS hI hp => does_val (x_assign rfl (rfl)) rfl) ?_
   exact .nil
  clear hS
  intro bL aV hS aK hp
  replace hS := ((((hS.nil).cons (hS.get 4 rfl)).cons (hS.get 3 rfl)).cons (hS.get 2 rfl)).cons (hS.get 1 rfl)
  have aA : sl _ 7 = .int .i64 2 := hp 0 (by decide)
  have hS := hS.cons aA
  clear hp aA
  refine an _ _ ?_
  refine wp_seq_k (fun ck b1 => ?_)
  refine wp_seq_k (fun be aB => ?_)
  refine reg_seq (I := I3_ w af aV) (ps := [VI 2, VB (!decide (2 = 0))]) (by kernel_rfl) ?_ ?_ rfl hS ⟨aK.1, aK.2.1, (bR aV)⟩ ?_ ?_
  ·exact bs3
  ·exact .v (.v (.nil))
  ·refine .ms 0 rfl rfl rfl ?_
   refine .on rfl (fun a w hS hI hp => does_val (x_bin rfl (hp.V 0 rfl rfl) (rfl) (b_neq _ _ _ _ _ _)) rfl) ?_
   exact .nil
  clear hS
  intro bN aW hS aL hp
  have ao : sl _ 52 = .bool (!decide (2 = 0)) := hp 1 (by decide)
  have hS := hS.cons ao
  clear hp ao
  refine aB _ _ ?_
  refine wp_cond_true ((hS.get 0 rfl).trans (bT (congrArg (!·) (decide_eq_false (by decide))))) ?_
  refine wp_exit ?_
  (try simp only [Exit.then, Exit.inBlock, reduceIte])
  refine aX _ _ ?_
  refine wp_seq_k (fun bu a9 => ?_)
  refine wp_seq_k (fun a0 ap => ?_)
  refine reg_seq (I := I3_ w af aW) (ps := [VI 2, VB (!decide (2 = 0))]) (by kernel_rfl) ?_ ?_ rfl hS ⟨aL.1, aL.2.1, (bR aW)⟩ ?_ ?_
  ·exact bs3
  ·exact .v (.v (.nil))
  ·refine .ms 1 rfl rfl rfl ?_
   refine .on rfl (fun a w hS hI hp => does_val (x_bin rfl (hp.V 0 rfl rfl) (rfl) (b_neq _ _ _ _ _ _)) rfl) ?_
   exact .nil
  clear hS
  intro bg aO hS az hp
  replace hS := ((hS.nil).cons (hS.get 5 rfl)).cons (hS.get 1 rfl)
  have ak : sl _ 78 = .bool (!decide (2 = 0)) := hp 1 (by decide)
  have hS := hS.cons ak
  clear hp ak
  refine ap _ _ ?_
  refine wp_cond_true ((hS.get 0 rfl).trans (bT (congrArg (!·) (decide_eq_false (by decide))))) ?_
  refine wp_seq_k (fun bv aJ => ?_)
  refine reg_seq (I := I3_ w af aO) (ps := [VI 2, IsV (.slice none 0 0), VI 2]) (by kernel_rfl) ?_ ?_ rfl hS ⟨az.1, az.2.1, (bR aO)⟩ ?_ ?_
  ·exact bs3
  ·exact .v (.v (.v (.nil)))
  ·refine .ms 1 rfl rfl rfl ?_
   refine .on rfl (fun a w hS hI hp => does_val (x_assign rfl (rfl)) rfl) ?_
   refine .asg 0 rfl rfl rfl ?_
   exact .nil
  clear hS
  intro bh a4 hS aD hp
  replace hS := hS.nil
  have ai : sl _ 4 = .slice none 0 0 := hp 1 (by decide)
  have aj : sl _ 5 = .int .i64 2 := hp 2 (by decide)
  have hS := hS.cons ai
  have hS := hS.cons aj
  clear hp ai aj
  refine aJ _ _ ?_
  refine wp_ret ?_
  (try simp only [Exit.then, Exit.inBlock, Exit.jump, Exit.noGoto])
  exact bodyPost_ret (v := .tuple #[.slice none 0 0, .int .i64 2]) (results_list (rs := [.tmp 4, .tmp 5]) rfl (by simp) (Vals.at (hS.get 1 rfl) (Vals.at (hS.get 0 rfl) .nil))) hS.nodef ⟨.slice none 0 0, rfl, Kd.R_nil _ _ _ _ _, aD.1⟩
 rw [if_pos c5] at H
 refine reg_seq (I := I3_ w af aN) (ps := [VB ag, VB (!ag), VB (!ag), VI aa, IsV (.slice aq ac.length ar), VI (ac.length : Int), VI ab, VI (wrap64 ((ac.length : Int) - ab)), VI (wrap64 ((wrap64 ((ac.length : Int) - ab)) - 4)), VB (decide (aa > (wrap64 ((wrap64 ((ac.length : Int) - ab)) - 4)))), VB (decide (aa > (wrap64 ((wrap64 ((ac.length : Int) - ab)) - 4)))), VB (decide (aa > (wrap64 ((wrap64 ((ac.length : Int) - ab)) - 4))))]) (by kernel_rfl) ?_ ?_ rfl hS ⟨aC.1, aC.2.1, (bR aN)⟩ ?_ ?_
 ·exact bs3
 ·exact .v (.v (.v (.v (.v (.v (.v (.v (.v (.v (.v (.v (.nil))))))))))))
 ·refine .ms 1 rfl rfl rfl ?_
  refine .on rfl (fun a w hS hI hp => does_val (x_not rfl (hp.V 0 rfl rfl)) rfl) ?_
  refine .mv 1 rfl rfl rfl ?_
  refine .oy 2 38 rfl rfl ((congrArg (!·) c5)) (fun a w hS hI hp => does_val (x_move rfl (hS.get 2 rfl)) rfl) ?_
  refine .oy 2 38 rfl rfl ((congrArg (!·) c5)) (fun a w hS hI hp => does_val (x_move rfl (hS.get 3 rfl)) rfl) ?_
  refine .oy 2 38 rfl rfl ((congrArg (!·) c5)) (fun a w hS hI hp => does_val (x_len (e := 5) rfl (by kernel_rfl) (hp.V 4 rfl rfl)) rfl) ?_
  refine .oy 2 38 rfl rfl ((congrArg (!·) c5)) (fun a w hS hI hp => does_val (x_move rfl (hS.get 4 rfl)) rfl) ?_
  refine .oy 2 38 rfl rfl ((congrArg (!·) c5)) (fun a w hS hI hp => does_val (x_bin rfl (hp.V 5 rfl rfl) (hp.V 6 rfl rfl) (b_sub _ _ _ _ _)) rfl) ?_
  refine .oy 2 38 rfl rfl ((congrArg (!·) c5)) (fun a w hS hI hp => does_val (x_bin rfl (hp.V 7 rfl rfl) (rfl) (b_sub _ _ _ _ _)) rfl) ?_
  refine .oy 2 38 rfl rfl ((congrArg (!·) c5)) (fun a w hS hI hp => does_val (x_bin rfl (hp.V 3 rfl rfl) (hp.V 8 rfl rfl) (b_gtr _ _ _ _ _ _)) rfl) ?_
  refine .on rfl (fun a w hS hI hp => does_val (x_pickF rfl ((hp.V 2 rfl rfl).trans (bF (congrArg (!·) c5))) (hp.V 9 rfl rfl)) rfl) ?_
  refine .asg 10 rfl rfl rfl ?_
  exact .nil
 clear hS
 intro bK aG hS aw hp
 replace hS := (((((hS.nil).cons (hS.get 6 rfl)).cons (hS.get 5 rfl)).cons (hS.get 4 rfl)).cons (hS.get 3 rfl)).cons (hS.get 2 rfl)
 have bc : sl _ 35 = .bool (decide (aa > (wrap64 ((wrap64 ((ac.length : Int) - ab)) - 4)))) := hp 11 (by decide)
 have hS := hS.cons bc
 clear hp bc
 refine bl _ _ ?_
 by_cases c6 : aa > (wrap64 ((wrap64 ((ac.length : Int) - ab)) - 4))
 ·rw [if_pos c6] at H
  simp only [Option.some.injEq, Prod.mk.injEq] at H
  obtain ⟨rfl, rfl⟩ := H
  refine wp_cond_true ((hS.get 0 rfl).trans (bT (decide_eq_true c6))) ?_
  replace hS := (((((hS.nil).cons (hS.get 4 rfl)).cons (hS.get 3 rfl)).cons (hS.get 2 rfl)).cons (hS.get 1 rfl)).cons (hS.get 0 rfl)
  refine reg_seq (I := I3_ w af aG) (ps := [VI 2]) (by kernel_rfl) ?_ ?_ rfl hS ⟨aw.1, aw.2.1, (bR aG)⟩ ?_ ?_
  ·exact bs3
  ·exact .v (.nil)
  ·refine .on rfl (fun a w hS hI hp => does_val (x_assign rfl (rfl)) rfl) ?_
   exact .nil
  clear hS
  intro bL aV hS aK hp
  replace hS := ((((hS.nil).cons (hS.get 4 rfl)).cons (hS.get 3 rfl)).cons (hS.get 2 rfl)).cons (hS.get 1 rfl)
  have aA : sl _ 7 = .int .i64 2 := hp 0 (by decide)
  have hS := hS.cons aA
  clear hp aA
  refine an _ _ ?_
  refine wp_seq_k (fun ck b1 => ?_)
  refine wp_seq_k (fun be aB => ?_)
  refine reg_seq (I := I3_ w af aV) (ps := [VI 2, VB (!decide (2 = 0))]) (by kernel_rfl) ?_ ?_ rfl hS ⟨aK.1, aK.2.1, (bR aV)⟩ ?_ ?_
  ·exact bs3
  ·exact .v (.v (.nil))
  ·refine .ms 0 rfl rfl rfl ?_
   refine .on rfl (fun a w hS hI hp => does_val (x_bin rfl (hp.V 0 rfl rfl) (rfl) (b_neq _ _ _ _ _ _)) rfl) ?_
   exact .nil
  clear hS
  intro bN aW hS aL hp
  have ao : sl _ 52 = .bool (!decide (2 = 0)) := hp 1 (by decide)
  have hS := hS.cons ao
  clear hp ao
  refine aB _ _ ?_
  refine wp_cond_true ((hS.get 0 rfl).trans (bT (congrArg (!·) (decide_eq_false (by decide))))) ?_
  refine wp_exit ?_
  (try simp only [Exit.then, Exit.inBlock, reduceIte])
  refine aX _ _ ?_
  refine wp_seq_k (fun bu a9 => ?_)
  refine wp_seq_k (fun a0 ap => ?_)
  refine reg_seq (I := I3_ w af aW) (ps := [VI 2, VB (!decide (2 = 0))]) (by kernel_rfl) ?_ ?_ rfl hS ⟨aL.1, aL.2.1, (bR aW)⟩ ?_ ?_
  ·exact bs3
  ·exact .v (.v (.nil))
  ·refine .ms 1 rfl rfl rfl ?_
   refine .on rfl (fun a w hS hI hp => does_val (x_bin rfl (hp.V 0 rfl rfl) (rfl) (b_neq _ _ _ _ _ _)) rfl) ?_
   exact .nil
  clear hS
  intro bg aO hS az hp
  replace hS := ((hS.nil).cons (hS.get 5 rfl)).cons (hS.get 1 rfl)
  have ak : sl _ 78 = .bool (!decide (2 = 0)) := hp 1 (by decide)
  have hS := hS.cons ak
  clear hp ak
  refine ap _ _ ?_
  refine wp_cond_true ((hS.get 0 rfl).trans (bT (congrArg (!·) (decide_eq_false (by decide))))) ?_
  refine wp_seq_k (fun bv aJ => ?_)
  refine reg_seq (I := I3_ w af aO) (ps := [VI 2, IsV (.slice none 0 0), VI 2]) (by kernel_rfl) ?_ ?_ rfl hS ⟨az.1, az.2.1, (bR aO)⟩ ?_ ?_
  ·exact bs3
  ·exact .v (.v (.v (.nil)))
  ·refine .ms 1 rfl rfl rfl ?_
   refine .on rfl (fun a w hS hI hp => does_val (x_assign rfl (rfl)) rfl) ?_
   refine .asg 0 rfl rfl rfl ?_
   exact .nil
  clear hS
  intro bh a4 hS aD hp
  replace hS := hS.nil
  have ai : sl _ 4 = .slice none 0 0 := hp 1 (by decide)
  have aj : sl _ 5 = .int .i64 2 := hp 2 (by decide)
  have hS := hS.cons ai
  have hS := hS.cons aj
  clear hp ai aj
  refine aJ _ _ ?_
  refine wp_ret ?_
  (try simp only [Exit.then, Exit.inBlock, Exit.jump, Exit.noGoto])
  exact bodyPost_ret (v := .tuple #[.slice none 0 0, .int .i64 2]) (results_list (rs := [.tmp 4, .tmp 5]) rfl (by simp) (Vals.at (hS.get 1 rfl) (Vals.at (hS.get 0 rfl) .nil))) hS.nodef ⟨.slice none 0 0, rfl, Kd.R_nil _ _ _ _ _, aD.1⟩
 rw [if_neg c6] at H
 refine wp_cond_false ((hS.get 0 rfl).trans (bF (decide_eq_false c6))) ?_
 refine wp_seq_k (fun cj a7 => ?_)
 refine reg_seq (I := I3_ w af aG) (ps := [VI aa, VI (Int.tmod aa 2), VB (!decide ((Int.tmod aa 2) = 0)), VB (!decide ((Int.tmod aa 2) = 0))]) (by kernel_rfl) ?_ ?_ rfl hS ⟨aw.1, aw.2.1, (bR aG)⟩ ?_ ?_
 ·exact bs3
 ·exact .v (.v (.v (.v (.nil))))
 ·refine .ms 1 rfl rfl rfl ?_
  refine .on rfl (fun a w hS hI hp => does_val (x_bin rfl (hp.V 0 rfl rfl) (rfl) (b_rem _ _ _ _ _ _ (by decide))) rfl) ?_
  refine .on rfl (fun a w hS hI hp => does_val (x_bin rfl (hp.V 1 rfl rfl) (rfl) (b_neq _ _ _ _ _ _)) rfl) ?_
  refine .asg 2 rfl rfl rfl ?_
  exact .nil
 clear hS
 intro bM aH hS ax hp
 replace hS := (((((hS.nil).cons (hS.get 5 rfl)).cons (hS.get 4 rfl)).cons (hS.get 3 rfl)).cons (hS.get 2 rfl)).cons (hS.get 1 rfl)
 have ca : sl _ 47 = .bool (!decide ((Int.tmod aa 2) = 0)) := hp 3 (by decide)
 have hS := hS.cons ca
 clear hp ca
 refine a7 _ _ ?_
 by_cases c7 : (Int.tmod aa 2) = 0
 rotate_left
 ·rw [if_neg c7] at H
  simp only [Option.some.injEq, Prod.mk.injEq] at H
  obtain ⟨rfl, rfl⟩ := H
  refine wp_cond_true ((hS.get 0 rfl).trans (bT (congrArg (!·) (decide_eq_false c7)))) ?_
  replace hS := (((((hS.nil).cons (hS.get 4 rfl)).cons (hS.get 3 rfl)).cons (hS.get 2 rfl)).cons (hS.get 1 rfl)).cons (hS.get 0 rfl)
  refine reg_seq (I := I3_ w af aH) (ps := [VI 4]) (by kernel_rfl) ?_ ?_ rfl hS ⟨ax.1, ax.2.1, (bR aH)⟩ ?_ ?_
  ·exact bs3
  ·exact .v (.nil)
  ·refine .on rfl (fun a w hS hI hp => does_val (x_assign rfl (rfl)) rfl) ?_
   exact .nil
  clear hS
  intro cF bA hS bp hp
  replace hS := ((((hS.nil).cons (hS.get 4 rfl)).cons (hS.get 3 rfl)).cons (hS.get 2 rfl)).cons (hS.get 1 rfl)
  have aA : sl _ 7 = .int .i64 4 := hp 0 (by decide)
  have hS := hS.cons aA
  clear hp aA
  refine an _ _ ?_
  refine wp_seq_k (fun db cP => ?_)
  refine wp_seq_k (fun bu a9 => ?_)
  refine reg_seq (I := I3_ w af bA) (ps := [VI 4, VB (!decide (4 = 0))]) (by kernel_rfl) ?_ ?_ rfl hS ⟨bp.1, bp.2.1, (bR bA)⟩ ?_ ?_
  ·exact bs3
  ·exact .v (.v (.nil))
  ·refine .ms 0 rfl rfl rfl ?_
   refine .on rfl (fun a w hS hI hp => does_val (x_bin rfl (hp.V 0 rfl rfl) (rfl) (b_neq _ _ _ _ _ _)) rfl) ?_
   exact .nil
  clear hS
  intro cG bB hS bq hp
  have ao : sl _ 52 = .bool (!decide (4 = 0)) := hp 1 (by decide)
  have hS := hS.cons ao
  clear hp ao
  refine a9 _ _ ?_
  refine wp_cond_true ((hS.get 0 rfl).trans (bT (congrArg (!·) (decide_eq_false (by decide))))) ?_
  refine wp_exit ?_
  (try simp only [Exit.then, Exit.inBlock, reduceIte])
  refine aX _ _ ?_
  refine wp_seq_k (fun dd cQ => ?_)
  refine wp_seq_k (fun bv aJ => ?_)
  refine reg_seq (I := I3_ w af bB) (ps := [VI 4, VB (!decide (4 = 0))]) (by kernel_rfl) ?_ ?_ rfl hS ⟨bq.1, bq.2.1, (bR bB)⟩ ?_ ?_
  ·exact bs3
  ·exact .v (.v (.nil))
  ·refine .ms 1 rfl rfl rfl ?_
   refine .on rfl (fun a w hS hI hp => does_val (x_bin rfl (hp.V 0 rfl rfl) (rfl) (b_neq _ _ _ _ _ _)) rfl) ?_
   exact .nil
  clear hS
  intro bh a4 hS aD hp
  replace hS := ((hS.nil).cons (hS.get 5 rfl)).cons (hS.get 1 rfl)
  have ak : sl _ 78 = .bool (!decide (4 = 0)) := hp 1 (by decide)
  have hS := hS.cons ak
  clear hp ak
  refine aJ _ _ ?_
  refine wp_cond_true ((hS.get 0 rfl).trans (bT (congrArg (!·) (decide_eq_false (by decide))))) ?_
  refine wp_seq_k (fun de b3 => ?_)
  refine reg_seq (I := I3_ w af a4) (ps := [VI 4, IsV (.slice none 0 0), VI 4]) (by kernel_rfl) ?_ ?_ rfl hS ⟨aD.1, aD.2.1, (bR a4)⟩ ?_ ?_
  ·exact bs3
  ·exact .v (.v (.v (.nil)))
  ·refine .ms 1 rfl rfl rfl ?_
   refine .on rfl (fun a w hS hI hp => does_val (x_assign rfl (rfl)) rfl) ?_
   refine .asg 0 rfl rfl rfl ?_
   exact .nil
  clear hS
  intro cH bf hS cd hp
  replace hS := hS.nil
  have ai : sl _ 4 = .slice none 0 0 := hp 1 (by decide)
  have aj : sl _ 5 = .int .i64 4 := hp 2 (by decide)
  have hS := hS.cons ai
  have hS := hS.cons aj
  clear hp ai aj
  refine b3 _ _ ?_
  refine wp_ret ?_
  (try simp only [Exit.then, Exit.inBlock, Exit.jump, Exit.noGoto])
  exact bodyPost_ret (v := .tuple #[.slice none 0 0, .int .i64 4]) (results_list (rs := [.tmp 4, .tmp 5]) rfl (by simp) (Vals.at (hS.get 1 rfl) (Vals.at (hS.get 0 rfl) .nil))) hS.nodef ⟨.slice none 0 0, rfl, Kd.R_nil _ _ _ _ _, cd.1⟩
 rw [if_pos c7] at H
 refine wp_cond_false ((hS.get 0 rfl).trans (bF (congrArg (!·) (decide_eq_true c7)))) ?_
 refine wp_skip ?_
 refine an _ _ ?_
 refine wp_seq_k (fun be aB => ?_)
 refine wp_seq_k (fun cl a8 => ?_)
 refine reg_seq (I := I3_ w af aH) (ps := [VI ah, VB (!decide (ah = 0))]) (by kernel_rfl) ?_ ?_ rfl hS ⟨ax.1, ax.2.1, (bR aH)⟩ ?_ ?_
 ·exact bs3
 ·exact .v (.v (.nil))
 ·refine .ms 5 rfl rfl rfl ?_
  refine .on rfl (fun a w hS hI hp => does_val (x_bin rfl (hp.V 0 rfl rfl) (rfl) (b_neq _ _ _ _ _ _)) rfl) ?_
  exact .nil
 clear hS
 intro bO aI hS ay hp
 replace hS := (((((hS.nil).cons (hS.get 5 rfl)).cons (hS.get 4 rfl)).cons (hS.get 3 rfl)).cons (hS.get 2 rfl)).cons (hS.get 1 rfl)
 have ao : sl _ 52 = .bool (!decide (ah = 0)) := hp 1 (by decide)
 have hS := hS.cons ao
 clear hp ao
 refine a8 _ _ ?_
 by_cases c8 : ah = 0
 rotate_left
 ·rw [if_neg c8] at H
  simp only [Option.some.injEq, Prod.mk.injEq] at H
  obtain ⟨rfl, rfl⟩ := H
  refine wp_cond_true ((hS.get 0 rfl).trans (bT (congrArg (!·) (decide_eq_false c8)))) ?_
  refine wp_exit ?_
  (try simp only [Exit.then, Exit.inBlock, reduceIte])
  refine aX _ _ ?_
  refine wp_seq_k (fun a0 ap => ?_)
  refine wp_seq_k (fun dc b2 => ?_)
  refine reg_seq (I := I3_ w af aI) (ps := [VI ah, VB (!decide (ah = 0))]) (by kernel_rfl) ?_ ?_ rfl hS ⟨ay.1, ay.2.1, (bR aI)⟩ ?_ ?_
  ·exact bs3
  ·exact .v (.v (.nil))
  ·refine .ms 5 rfl rfl rfl ?_
   refine .on rfl (fun a w hS hI hp => does_val (x_bin rfl (hp.V 0 rfl rfl) (rfl) (b_neq _ _ _ _ _ _)) rfl) ?_
   exact .nil
  clear hS
  intro bP au hS aM hp
  replace hS := ((hS.nil).cons (hS.get 5 rfl)).cons (hS.get 4 rfl)
  have ak : sl _ 78 = .bool (!decide (ah = 0)) := hp 1 (by decide)
  have hS := hS.cons ak
  clear hp ak
  refine b2 _ _ ?_
  refine wp_cond_true ((hS.get 0 rfl).trans (bT (congrArg (!·) (decide_eq_false c8)))) ?_
  refine wp_seq_k (fun cm ba => ?_)
  refine reg_seq (I := I3_ w af au) (ps := [VI ah, IsV (.slice none 0 0), VI ah]) (by kernel_rfl) ?_ ?_ rfl hS ⟨aM.1, aM.2.1, (bR au)⟩ ?_ ?_
  ·exact bs3
  ·exact .v (.v (.v (.nil)))
  ·refine .ms 2 rfl rfl rfl ?_
   refine .on rfl (fun a w hS hI hp => does_val (x_assign rfl (rfl)) rfl) ?_
   refine .asg 0 rfl rfl rfl ?_
   exact .nil
  clear hS
  intro bQ a5 hS aU hp
  replace hS := hS.nil
  have ai : sl _ 4 = .slice none 0 0 := hp 1 (by decide)
  have aj : sl _ 5 = .int .i64 ah := hp 2 (by decide)
  have hS := hS.cons ai
  have hS := hS.cons aj
  clear hp ai aj
  refine ba _ _ ?_
  refine wp_ret ?_
  (try simp only [Exit.then, Exit.inBlock, Exit.jump, Exit.noGoto])
  exact bodyPost_ret (v := .tuple #[.slice none 0 0, .int .i64 ah]) (results_list (rs := [.tmp 4, .tmp 5]) rfl (by simp) (Vals.at (hS.get 1 rfl) (Vals.at (hS.get 0 rfl) .nil))) hS.nodef ⟨.slice none 0 0, rfl, Kd.R_nil _ _ _ _ _, aU.1⟩
 rw [if_pos c8] at H
 obtain ⟨co, bH, H⟩ := Option.bind_eq_some_iff.mp H
 obtain ⟨ad, aE⟩ := co
 (try dsimp only at H)
 by_cases c9 : 0 ≤ (wrap64 (ab + 4))
 rotate_left
 ·rw [if_neg c9] at H
  exact absurd H (by simp)
 rw [if_pos c9] at H
 by_cases bS : (wrap64 (ab + 4)) ≤ (wrap64 ((wrap64 (ab + 4)) + aa))
 rotate_left
 ·rw [if_neg bS] at H
  exact absurd H (by simp)
 rw [if_pos bS] at H
 by_cases bU : (wrap64 ((wrap64 (ab + 4)) + aa)) ≤ (ac.length : Int)
 rotate_left
 ·rw [if_neg bU] at H
  exact absurd H (by simp)
 rw [if_pos bU] at H
 by_cases bV : (ae.length + [(⟨ad, strOfNums ((ac.take (wrap64 ((wrap64 (ab + 4)) + aa) : Int).toNat).drop (wrap64 (ab + 4) : Int).toNat)⟩ : S43)].length) * 24 ≤ 140737488355328
 rotate_left
 ·rw [if_neg bV] at H
  exact absurd H (by simp)
 rw [if_pos bV] at H
 refine wp_cond_false ((hS.get 0 rfl).trans (bF (congrArg (!·) (decide_eq_true c8)))) ?_
 refine wp_skip ?_
 refine aB _ _ ?_
 refine wp_seq_k (fun a0 ap => ?_)
 refine reg_seq (I := I3_ w af aI) (ps := [IsV (.slice aq ac.length ar), VI ab, IsV (.tuple #[.int .i64 ad, .bool aE]), IsV (.tuple #[.int .i64 ad, .bool aE]), VI ad, VB aE, VI ad, VB aE]) (by kernel_rfl) ?_ ?_ rfl hS ⟨ay.1, ay.2.1, (bR aI)⟩ ?_ ?_
 ·exact bs3
 ·exact .v (.v (.v (.v (.v (.v (.v (.v (.nil))))))))
 ·refine .ms 2 rfl rfl rfl ?_
  refine .ms 3 rfl rfl rfl ?_
  refine .on rfl (fun a w hS hI hp => does_call (by kernel_rfl) (ar3 (hp.V 0 rfl rfl) (hp.V 1 rfl rfl) (rfl)) ((octets_Get.calls k _ _ ac ab 2 ad aE _ (Kd.C_below aR hI.1) a2 bH).mono fun _ _ h => ⟨_, h.1, h.2.below, rfl⟩)) ?_
  refine .mv 2 rfl rfl rfl ?_
  iterate 2 refine .on rfl (fun a w hS hI hp => does_val (x_extract rfl (hp.V 3 rfl rfl) rfl) rfl) ?_
  refine .asg 4 rfl rfl rfl ?_
  refine .asg 5 rfl rfl rfl ?_
  exact .nil
 clear hS
 intro bP au hS aM hp
 replace hS := (((((hS.nil).cons (hS.get 5 rfl)).cons (hS.get 4 rfl)).cons (hS.get 3 rfl)).cons (hS.get 2 rfl)).cons (hS.get 1 rfl)
 have b7 : sl _ 10 = .int .i64 ad := hp 6 (by decide)
 have hS := hS.cons b7
 clear hp b7
 refine ap _ _ ?_
 refine wp_seq_k (fun cm ba => ?_)
 refine reg_seq_tail 13 (I := I3_ w af au) (ps := [IsV (.slice am ae.length al), VI ad, IsV (.slice aq ac.length ar), VI ab, VI (wrap64 (ab + 4)), VI ab, VI (wrap64 (ab + 4)), VI aa, VI (wrap64 ((wrap64 (ab + 4)) + aa)), IsC (Kd.int .u8) ((ac.take (wrap64 ((wrap64 (ab + 4)) + aa) : Int).toNat).drop (wrap64 (ab + 4) : Int).toNat), IsV (.string (strOfNums ((ac.take (wrap64 ((wrap64 (ab + 4)) + aa) : Int).toNat).drop (wrap64 (ab + 4) : Int).toNat))), IsV (.agg #[.int .i64 ad, .string (strOfNums ((ac.take (wrap64 ((wrap64 (ab + 4)) + aa) : Int).toNat).drop (wrap64 (ab + 4) : Int).toNat))]), IsR k43 43 au.heap.size [(⟨ad, strOfNums ((ac.take (wrap64 ((wrap64 (ab + 4)) + aa) : Int).toNat).drop (wrap64 (ab + 4) : Int).toNat)⟩ : S43)]]) (by kernel_rfl) ?_ ?_ rfl hS ⟨aM.1, aM.2.1, (bR au)⟩ ?_ ?_
 ·exact bs3
 ·exact .v (.v (.v (.v (.v (.v (.v (.v (.v (.cons (Stays.c _ _) (.v (.v (.cons (Stays.r _ _ _ _) (.nil)))))))))))))
 ·refine .ms 4 rfl rfl rfl ?_
  refine .ms 0 rfl rfl rfl ?_
  refine .ms 2 rfl rfl rfl ?_
  refine .ms 3 rfl rfl rfl ?_
  refine .on rfl (fun a w hS hI hp => does_val (x_bin rfl (hp.V 3 rfl rfl) (rfl) (b_add _ _ _ _ _)) rfl) ?_
  refine .ms 3 rfl rfl rfl ?_
  refine .on rfl (fun a w hS hI hp => does_val (x_bin rfl (hp.V 5 rfl rfl) (rfl) (b_add _ _ _ _ _)) rfl) ?_
  refine .ms 1 rfl rfl rfl ?_
  refine .on rfl (fun a w hS hI hp => does_val (x_bin rfl (hp.V 6 rfl rfl) (hp.V 7 rfl rfl) (b_add _ _ _ _ _)) rfl) ?_
  refine .on rfl (fun a w hS hI hp => does_cut (i := wrap64 (ab + 4)) (j := wrap64 ((wrap64 (ab + 4)) + aa)) rfl (e := 5) (by kernel_rfl) (by kernel_rfl) (hp.V 2 rfl rfl) (.inr ⟨_, rfl, (hp.V 4 rfl rfl)⟩) (.inr ⟨_, rfl, (hp.V 8 rfl rfl)⟩) c9 bS bU a2 ((Kd.C_below aR hI.1))) ?_
  refine .on rfl (fun a w hS hI hp => (hp.V 9 rfl rfl).elim fun A_ h_ => h_.elim fun c_ h_ => h_.elim fun hv_ h_ => h_.elim fun hl_ hc_ => does_val (x_conv rfl hv_ (Kd.C_string (by kernel_rfl) (e := 5) (by kernel_rfl) (by kernel_rfl) hc_)) rfl) ?_
  refine .on rfl (fun a w hS hI hp => does_val (x_build (vs := [(0, .int .i64 ad), (1, .string (strOfNums ((ac.take (wrap64 ((wrap64 (ab + 4)) + aa) : Int).toNat).drop (wrap64 (ab + 4) : Int).toNat)))]) rfl (by rw [Array.toList_map]; exact (show [(0, a.eval (.tmp 60)), (1, a.eval (.tmp 69))] = _ from (li_cons (hp.V 1 rfl rfl) (li_cons (hp.V 10 rfl rfl) rfl)))) (by kernel_rfl)) rfl) ?_
  refine .on rfl (fun a w hS hI hp => does_litT tlv_Get.flat43 au.heap.size 29 43 _ [(0, .agg #[.int .i64 ad, .string (strOfNums ((ac.take (wrap64 ((wrap64 (ab + 4)) + aa) : Int).toNat).drop (wrap64 (ab + 4) : Int).toNat))])] (⟨ad, strOfNums ((ac.take (wrap64 ((wrap64 (ab + 4)) + aa) : Int).toNat).drop (wrap64 (ab + 4) : Int).toNat)⟩ : S43) rfl (by kernel_rfl) (by rw [Array.toList_map]; exact (show [(0, a.eval (.tmp 70))] = _ from (li_cons (hp.V 11 rfl rfl) rfl))) (by kernel_rfl) (hI.2.2).size) ?_
  exact .nil
 clear hS
 intro bQ a5 hS aU hp
 replace hS := (((((hS.nil).cons (hS.get 5 rfl)).cons (hS.get 4 rfl)).cons (hS.get 3 rfl)).cons (hS.get 2 rfl)).cons (hS.get 1 rfl)
 have cb : sl _ 59 = .slice am ae.length al := hp 0 (by decide)
 obtain ⟨cg, ch, bs, cT, b4⟩ := Kd.R_reads (show Kd.R k43 43 a5 au.heap.size (fun _ => True) (sl _ 71) [(⟨ad, strOfNums ((ac.take (wrap64 ((wrap64 (ab + 4)) + aa) : Int).toNat).drop (wrap64 (ab + 4) : Int).toNat)⟩ : S43)] from hp 12 (by decide))
 have cU : Kd.R k43 43 a5 au.heap.size (fun _ => True) (.slice cg [(⟨ad, strOfNums ((ac.take (wrap64 ((wrap64 (ab + 4)) + aa) : Int).toNat).drop (wrap64 (ab + 4) : Int).toNat)⟩ : S43)].length ch) [(⟨ad, strOfNums ((ac.take (wrap64 ((wrap64 (ab + 4)) + aa) : Int).toNat).drop (wrap64 (ab + 4) : Int).toNat)⟩ : S43)] := bs ▸ (hp 12 (by decide))
 have hS := hS.cons cb
 have hS := hS.cons bs
 clear hp cb bs
 show wpList _ _ _ [_, _] _ _
 refine list_step rfl (does_moreT tlv_Get.flat43 (W := w) (.tmp 59) (.tmp 71) 29 43 (.agg #[(.int .i64 0), (.string ⟨#[]⟩)]) 24 rfl (by kernel_rfl) (by kernel_rfl) rfl (by decide) (by decide) _ ae [(⟨ad, strOfNums ((ac.take (wrap64 ((wrap64 (ab + 4)) + aa) : Int).toNat).drop (wrap64 (ab + 4) : Int).toNat)⟩ : S43)] _ _ _ (hS.get 1 rfl) (hS.get 0 rfl) (Kd.R_below bn aU.2.1) (Kd.C_below b4 (bR a5)) aU.1 bV) ?_
 rintro cV bf ⟨hb, hr, hk⟩
 clear hk
 have bi := hb
 replace hS := ((((hS.nil).cons (hS.get 6 rfl)).cons (hS.get 4 rfl)).cons (hS.get 3 rfl)).cons (hS.get 2 rfl)
 obtain ⟨aP, aQ, rfl, b5, cS⟩ := Kd.R_reads hr
 have b6 := hr
 clear hr
 refine hS.next (v := .slice aP ((ae ++ [(⟨ad, strOfNums ((ac.take (wrap64 ((wrap64 (ab + 4)) + aa) : Int).toNat).drop (wrap64 (ab + 4) : Int).toNat)⟩ : S43)] : List S43).length) aQ) (d := 72) rfl (by decide) (by rfl) ?_
 clear hS
 intro cI hS
 refine list_step rfl (R := fun v w' => Below _ _ w' ∧ (IsV (.slice aP ((ae ++ [(⟨ad, strOfNums ((ac.take (wrap64 ((wrap64 (ab + 4)) + aa) : Int).toNat).drop (wrap64 (ab + 4) : Int).toNat)⟩ : S43)] : List S43).length) aQ)) v w') (does_val (x_assign rfl (hS.get 0 rfl)) rfl) ?_
 rintro ce bC ⟨hb, he⟩
 have bj := below_step bi hb
 have aY := below_step (bR bf) hb
 obtain rfl : ce = .slice aP ((ae ++ [(⟨ad, strOfNums ((ac.take (wrap64 ((wrap64 (ab + 4)) + aa) : Int).toNat).drop (wrap64 (ab + 4) : Int).toNat)⟩ : S43)] : List S43).length) aQ := he
 refine hS.next (v := .slice aP ((ae ++ [(⟨ad, strOfNums ((ac.take (wrap64 ((wrap64 (ab + 4)) + aa) : Int).toNat).drop (wrap64 (ab + 4) : Int).toNat)⟩ : S43)] : List S43).length) aQ) (d := 6) rfl (by decide) (by rfl) ?_
 clear hS
 intro cJ hS
 refine wpList_nil ?_
 refine ba _ _ ?_
 refine reg_seq_tail 4 (I := I3_ w bf bC) (ps := [VI ab, VI aa, VI (wrap64 (4 + aa)), VI (wrap64 (ab + (wrap64 (4 + aa))))]) (by kernel_rfl) ?_ ?_ rfl hS ⟨bj, aY, (bR bC)⟩ ?_ ?_
 ·exact bs3
 ·exact .v (.v (.v (.v (.nil))))
 ·refine .ms 4 rfl rfl rfl ?_
  refine .ms 2 rfl rfl rfl ?_
  refine .on rfl (fun a w hS hI hp => does_val (x_bin rfl (rfl) (hp.V 1 rfl rfl) (b_add _ _ _ _ _)) rfl) ?_
  refine .on rfl (fun a w hS hI hp => does_val (x_bin rfl (hp.V 0 rfl rfl) (hp.V 2 rfl rfl) (b_add _ _ _ _ _)) rfl) ?_
  exact .nil
 clear hS
 intro cK cq hS br hp
 replace hS := ((((hS.nil).cons (hS.get 5 rfl)).cons (hS.get 4 rfl)).cons (hS.get 3 rfl)).cons (hS.get 0 rfl)
 have cc : sl _ 76 = .int .i64 (wrap64 (ab + (wrap64 (4 + aa)))) := hp 3 (by decide)
 have hS := hS.cons cc
 clear hp cc
 show wpList _ _ _ [_] _ _
 refine list_step rfl (R := fun v w' => Below _ _ w' ∧ (VI (wrap64 (ab + (wrap64 (4 + aa))))) v w') (does_val (x_assign rfl (hS.get 0 rfl)) rfl) ?_
 rintro cf dg ⟨hb, he⟩
 have bk := below_step br.1 hb
 have aZ := below_step br.2.1 hb
 have bE := below_step (bR cq) hb
 obtain rfl : cf = .int .i64 (wrap64 (ab + (wrap64 (4 + aa)))) := he
 replace hS := ((((hS.nil).cons (hS.get 4 rfl)).cons (hS.get 2 rfl)).cons (hS.get 1 rfl)).cons (hS.get 0 rfl)
 refine hS.next (v := .int .i64 (wrap64 (ab + (wrap64 (4 + aa))))) (d := 1) rfl (by decide) (by rfl) ?_
 clear hS
 intro cL hS
 refine wpList_nil ?_
 replace hS := ((((hS.nil).cons (hS.get 4 rfl)).cons (hS.get 2 rfl)).cons (hS.get 0 rfl)).cons (hS.get 3 rfl)
 (try simp only [Exit.then, Exit.inBlock])
 exact ⟨n1, Nat.lt_succ_self _, ac, aq, ar, wrap64 (ab + (wrap64 (4 + aa))), (ae ++ [(⟨ad, strOfNums ((ac.take (wrap64 ((wrap64 (ab + 4)) + aa) : Int).toNat).drop (wrap64 (ab + 4) : Int).toNat)⟩ : S43)] : List S43), aP, aQ, ah, H, hS, bk, a2, (aR), b5, (Kd.R_lower (Kd.R_below b6 aZ) (Nat.le_refl _))⟩
def frame_Get.j1 (k : Nat) (x1_2_0 x1_2_1 x1_2_2 x1_2_3 x1_2_4 x1_2_5 x1_2_6 x1_2_7 x1_2_8 x1_2_9 x1_2_10 x1_2_11 x1_2_12 x1_2_13 x1_2_14 x1_2_15 x1_2_16 x1_2_17 x1_2_18 x1_2_19 x1_2_20 x1_2_21 x1_2_22 x1_9 : Int) : Option (Int × Int × Int × Int × Int × Int × Int × Int × Int × Int × Int × Int × Int × Int × Int × Int × Int × Int × Int × Int × Int × Int × Int × List (S43) × Int) := some (0, 0, 0, 0, 0, 0, 0, 0, 0, 0, 0, 0, 0, 0, 0, 0, 0, 0, 0, 0, 0, 0, 0, [], x1_9)
def frame_Get.f (k : Nat) (a0 : ByteArray) : Option (Int × Int × Int × Int × Int × Int × Int × Int × Int × Int × Int × Int × Int × Int × Int × Int × Int × Int × Int × Int × Int × Int × Int × List (S43) × Int) := if a0.size ≤ 9223372036854775807 then ((header_Get.f k (bytesOf a0)).bind fun t12 => (if t12.2.2.2.2.2.2.2.2.2.2.2.2.2.2.2.2.2.2.2.2.2.2.2.2 = 0 then ((body_Get.f k t12.1 t12.2.1 t12.2.2.1 t12.2.2.2.1 t12.2.2.2.2.1 t12.2.2.2.2.2.1 t12.2.2.2.2.2.2.1 t12.2.2.2.2.2.2.2.1 t12.2.2.2.2.2.2.2.2.1 t12.2.2.2.2.2.2.2.2.2.1 t12.2.2.2.2.2.2.2.2.2.2.1 t12.2.2.2.2.2.2.2.2.2.2.2.1 t12.2.2.2.2.2.2.2.2.2.2.2.2.1 t12.2.2.2.2.2.2.2.2.2.2.2.2.2.1 t12.2.2.2.2.2.2.2.2.2.2.2.2.2.2.1 t12.2.2.2.2.2.2.2.2.2.2.2.2.2.2.2.1 t12.2.2.2.2.2.2.2.2.2.2.2.2.2.2.2.2.1 t12.2.2.2.2.2.2.2.2.2.2.2.2.2.2.2.2.2.1 t12.2.2.2.2.2.2.2.2.2.2.2.2.2.2.2.2.2.2.1 t12.2.2.2.2.2.2.2.2.2.2.2.2.2.2.2.2.2.2.2.1 t12.2.2.2.2.2.2.2.2.2.2.2.2.2.2.2.2.2.2.2.2.1 t12.2.2.2.2.2.2.2.2.2.2.2.2.2.2.2.2.2.2.2.2.2.1 t12.2.2.2.2.2.2.2.2.2.2.2.2.2.2.2.2.2.2.2.2.2.2.1 (bytesOf a0) 34).bind fun t27 => (if t27.2.2.2.2.2.2.2.2.2.2.2.2.2.2.2.2.2.2.2.2.2.2.2.2 = 0 then ((tlv_Get.f k (bytesOf a0) t27.2.2.2.2.2.2.2.2.2.2.2.2.2.2.2.2.2.2.2.2.2.2.2.1).bind fun t40 => (if t40.2 = 0 then (some (t27.1, t27.2.1, t27.2.2.1, t27.2.2.2.1, t27.2.2.2.2.1, t27.2.2.2.2.2.1, t27.2.2.2.2.2.2.1, t27.2.2.2.2.2.2.2.1, t27.2.2.2.2.2.2.2.2.1, t27.2.2.2.2.2.2.2.2.2.1, t27.2.2.2.2.2.2.2.2.2.2.1, t27.2.2.2.2.2.2.2.2.2.2.2.1, t27.2.2.2.2.2.2.2.2.2.2.2.2.1, t27.2.2.2.2.2.2.2.2.2.2.2.2.2.1, t27.2.2.2.2.2.2.2.2.2.2.2.2.2.2.1, t27.2.2.2.2.2.2.2.2.2.2.2.2.2.2.2.1, t27.2.2.2.2.2.2.2.2.2.2.2.2.2.2.2.2.1, t27.2.2.2.2.2.2.2.2.2.2.2.2.2.2.2.2.2.1, t27.2.2.2.2.2.2.2.2.2.2.2.2.2.2.2.2.2.2.1, t27.2.2.2.2.2.2.2.2.2.2.2.2.2.2.2.2.2.2.2.1, t27.2.2.2.2.2.2.2.2.2.2.2.2.2.2.2.2.2.2.2.2.1, t27.2.2.2.2.2.2.2.2.2.2.2.2.2.2.2.2.2.2.2.2.2.1, t27.2.2.2.2.2.2.2.2.2.2.2.2.2.2.2.2.2.2.2.2.2.2.1, t40.1, 0)) else (frame_Get.j1 k 0 0 0 0 0 0 0 0 0 0 0 0 0 0 0 0 0 0 0 0 0 0 0 t40.2))) else (frame_Get.j1 k 0 0 0 0 0 0 0 0 0 0 0 0 0 0 0 0 0 0 0 0 0 0 0 t27.2.2.2.2.2.2.2.2.2.2.2.2.2.2.2.2.2.2.2.2.2.2.2.2))) else (frame_Get.j1 k 0 0 0 0 0 0 0 0 0 0 0 0 0 0 0 0 0 0 0 0 0 0 0 t12.2.2.2.2.2.2.2.2.2.2.2.2.2.2.2.2.2.2.2.2.2.2.2.2))) else (none)
abbrev frame_Get.c0 (x0 x1 x2 x3 x4 x5 x6 x7 x8 x9 x10 x11 x12 x13 x14 x15 x16 x17 x18 x19 x20 x21 x22 : Int) : Array Value := #[.int .i64 x0, .int .i64 x1, .int .i64 x2, .int .i64 x3, .int .u64 x4, .int .i64 x5, .int .i64 x6, .int .i64 x7, .int .i64 x8, .int .u64 x9, .int .i64 x10, .int .i64 x11, .int .i64 x12, .int .i64 x13, .int .i64 x14, .int .i64 x15, .int .i64 x16, .int .u64 x17, .int .i64 x18, .int .i64 x19, .int .i64 x20, .int .i64 x21, .int .i64 x22]
abbrev frame_Get.v1 (x0 x1 x2 x3 x4 x5 x6 x7 x8 x9 x10 x11 x12 x13 x14 x15 x16 x17 x18 x19 x20 x21 x22 : Int) : Value := .agg #[.int .i64 x0, .int .i64 x1, .int .i64 x2, .int .i64 x3, .int .u64 x4, .int .i64 x5, .int .i64 x6, .int .i64 x7, .int .i64 x8, .int .u64 x9, .int .i64 x10, .int .i64 x11, .int .i64 x12, .int .i64 x13, .int .i64 x14, .int .i64 x15, .int .i64 x16, .int .u64 x17, .int .i64 x18, .int .i64 x19, .int .i64 x20, .int .i64 x21, .int .i64 x22]
open Go.Proofs.Ytiomlbkakiienaa.E in
set_option maxHeartbeats 60000000 in
set_option maxRecDepth 100000 in
theorem frame_Get.calls (k : Nat) (a0 : ByteArray) (r1 r2 r3 r4 r5 r6 r7 r8 r9 em en eo ep eq er es et eu ev ew ex ey ez : Int) (eA : List (S43)) (eB : Int) (w : World) (h : frame_Get.f k a0 = some (r1, r2, r3, r4, r5, r6, r7, r8, r9, em, en, eo, ep, eq, er, es, et, eu, ev, ew, ex, ey, ez, eA, eB)) :
    Calls Try.prog 14 #[.string a0] w fun e w' => ∃ v0_ : Value, e = .returned (.tuple #[.agg #[.int .i64 r1, .int .i64 r2, .int .i64 r3, .int .i64 r4, .int .u64 r5, .int .i64 r6, .int .i64 r7, .int .i64 r8, .int .i64 r9, .int .u64 em, .int .i64 en, .int .i64 eo, .int .i64 ep, .int .i64 eq, .int .i64 er, .int .i64 es, .int .i64 et, .int .u64 eu, .int .i64 ev, .int .i64 ew, .int .i64 ex, .int .i64 ey, .int .i64 ez], v0_, .int .i64 eB]) ∧ Kd.R k43 43 w' w.heap.size (fun _ => True) v0_ eA ∧ Below w.heap.size w w' := by
 have H := h
 clear h
 unfold frame_Get.f at H
 refine calls_of_wp (fn := Try.f14) (by kernel_rfl) rfl ?_
 have hS := St.enter #[.string a0] 42 (by simp) [(0, .string a0)] (by simp)
 have dt := Below.refl w.heap.size w
 refine wp_seq_k (fun K1 dx => ?_)
 refine reg_seq (I := I1_ w) (ps := [IsB (frame_Get.c0 0 0 0 0 0 0 0 0 0 0 0 0 0 0 0 0 0 0 0 0 0 0 0) 28 w.heap.size, IsV (.slice none 0 0), VI 0]) (by kernel_rfl) ?_ ?_ rfl hS dt ?_ ?_
 ·exact bs1
 ·exact .cons (Stays.b _ _ _) (.v (.v (.nil)))
 ·refine .on rfl (fun a w hS hI hp => does_var (x_alloc rfl (by kernel_rfl)) (hI).size) ?_
  iterate 2 refine .on rfl (fun a w hS hI hp => does_val (x_assign rfl (rfl)) rfl) ?_
  exact .nil
 clear hS
 intro ej w3 hS dA hp
 obtain ⟨g4, cV, bB, aE⟩ := (show IsB _ 28 _ (sl _ 2) _ from hp 0 (by decide))
 have hS := hS.cons cV
 clear hp cV
 refine dx _ _ ?_
 refine wp_scope_fwd 0 (fun cR cd => ∃ (bI bJ bK bL bM bN bO bP bQ bS bh bi bj bk bl bm bn bo bp bq br bs bt : Int) (aV : Nat) (a6 : Int) , frame_Get.j1 k bI bJ bK bL bM bN bO bP bQ bS bh bi bj bk bl bm bn bo bp bq br bs bt a6 = some (r1, r2, r3, r4, r5, r6, r7, r8, r9, em, en, eo, ep, eq, er, es, et, eu, ev, ew, ex, ey, ez, eA, eB) ∧ St 42 [(2, .pointer (some ⟨aV, 0, none⟩)), (9, .int .i64 a6)] cR ∧ Below w.heap.size w cd ∧ w.heap.size ≤ aV ∧ cd.heap[aV]? = some (.cells (frame_Get.c0 bI bJ bK bL bM bN bO bP bQ bS bh bi bj bk bl bm bn bo bp bq br bs bt) 28 (0, 0))) rfl ?_ (fun J1 => ?_)
 ·clear H hS
  rintro cR cd ⟨bI, bJ, bK, bL, bM, bN, bO, bP, bQ, bS, bh, bi, bj, bk, bl, bm, bn, bo, bp, bq, br, bs, bt, aV, a6, H, hS, cu, ca, bx⟩
  unfold frame_Get.j1 at H
  (try dsimp only at H)
  simp only [Option.some.injEq, Prod.mk.injEq] at H
  obtain ⟨rfl, rfl, rfl, rfl, rfl, rfl, rfl, rfl, rfl, rfl, rfl, rfl, rfl, rfl, rfl, rfl, rfl, rfl, rfl, rfl, rfl, rfl, rfl, rfl, rfl⟩ := H
  refine wp_seq_k (fun dK cw => ?_)
  refine reg_seq_tail 2 (I := I2_ w cd) (ps := [IsV ((frame_Get.v1 0 0 0 0 0 0 0 0 0 0 0 0 0 0 0 0 0 0 0 0 0 0 0)), VI a6]) (by kernel_rfl) ?_ ?_ rfl hS ⟨cu, (bR cd)⟩ ?_ ?_
  ·exact bs2
  ·exact .v (.v (.nil))
  ·refine .on rfl (fun a w hS hI hp => does_val (x_build (vs := []) rfl (by rw [Array.toList_map]; exact (show [] = _ from rfl)) (by kernel_rfl)) rfl) ?_
   refine .ms 1 rfl rfl rfl ?_
   exact .nil
  clear hS
  intro du dL hS bE hp
  replace hS := (hS.nil).cons (hS.get 0 rfl)
  have cJ : sl _ 40 = (frame_Get.v1 0 0 0 0 0 0 0 0 0 0 0 0 0 0 0 0 0 0 0 0 0 0 0) := hp 0 (by decide)
  have cK : sl _ 41 = .int .i64 a6 := hp 1 (by decide)
  have hS := hS.cons cJ
  have hS := hS.cons cK
  clear hp cJ cK
  show wpList _ _ _ [_, _, _] _ _
  refine list_step rfl (does_storeAll (g := aV) (cs := (frame_Get.c0 0 0 0 0 0 0 0 0 0 0 0 0 0 0 0 0 0 0 0 0 0 0 0)) rfl (hS.get 2 rfl) (hS.get 1 rfl) ((bE.2.block aV (blk_lt bx)).trans bx) (by kernel_rfl) (by kernel_rfl) (by kernel_rfl)) ?_
  rintro dE cP ⟨rfl, bD, hT⟩
  have bU := hT.below bE.1 ca (bE.1).size
  clear hT
  refine list_step rfl (R := fun v w' => Below _ _ w' ∧ (IsV (.slice none 0 0)) v w') (does_val (x_assign rfl (rfl)) rfl) ?_
  rintro cM cQ ⟨hb, he⟩
  have bV := below_step bU hb
  have bz := below_step (bR cP) hb
  obtain rfl : cM = .slice none 0 0 := he
  refine hS.next (v := .slice none 0 0) (d := 3) rfl (by decide) (by rfl) ?_
  clear hS
  intro dv hS
  refine list_step rfl (R := fun v w' => Below _ _ w' ∧ (VI a6) v w') (does_val (x_assign rfl (hS.get 1 rfl)) rfl) ?_
  rintro cN dM ⟨hb, he⟩
  have bW := below_step bV hb
  have bA := below_step bz hb
  have cv := below_step (bR cQ) hb
  obtain rfl : cN = .int .i64 a6 := he
  refine hS.next (v := .int .i64 a6) (d := 4) rfl (by decide) (by rfl) ?_
  clear hS
  intro dw hS
  refine wpList_nil ?_
  refine cw _ _ ?_
  refine wp_ret ?_
  (try simp only [Exit.then, Exit.inBlock, Exit.jump, Exit.noGoto])
  exact bodyPost_ret (v := .tuple #[(frame_Get.v1 0 0 0 0 0 0 0 0 0 0 0 0 0 0 0 0 0 0 0 0 0 0 0), .slice none 0 0, .int .i64 a6]) (results_list (rs := [.cell 2 28, .tmp 3, .tmp 4]) rfl (by simp) (Vals.cell aV 28 (frame_Get.c0 0 0 0 0 0 0 0 0 0 0 0 0 0 0 0 0 0 0 0 0 0 0 0) (0, 0) _ (hS.get 4 rfl) ((bA.block aV (blk_lt bD)).trans bD) Try.underlying28 rfl (by kernel_rfl) (Vals.at (hS.get 1 rfl) (Vals.at (hS.get 0 rfl) .nil)))) hS.nodef ⟨.slice none 0 0, rfl, Kd.R_nil _ _ _ _ _, bW⟩
 by_cases c1 : a0.size ≤ 9223372036854775807
 rotate_left
 ·rw [if_neg c1] at H
  exact absurd H (by simp)
 rw [if_pos c1] at H
 obtain ⟨dB, c8, H⟩ := Option.bind_eq_some_iff.mp H
 obtain ⟨aW, aX, aY, aZ, a1, a2, a3, a4, a5, aF, aG, aH, aI, aJ, aK, aL, aM, aN, aO, aP, aQ, aR, aS, aT, aa⟩ := dB
 (try dsimp only at H)
 refine wp_seq_k (fun K5 dy => ?_)
 refine reg_seq (I := I2_ w w3) (ps := [IsV (.slice none 0 0)]) (by kernel_rfl) ?_ ?_ rfl hS ⟨dA, (bR w3)⟩ ?_ ?_
 ·exact bs2
 ·exact .v (.nil)
 ·refine .on rfl (fun a w hS hI hp => does_val (x_assign rfl (rfl)) rfl) ?_
  exact .nil
 clear hS
 intro ek w7 hS cY hp
 clear hp
 refine dy _ _ ?_
 refine wp_seq_k (fun K8 dz => ?_)
 refine reg_seq (I := I3_ w w3 w7) (ps := [VI 0]) (by kernel_rfl) ?_ ?_ rfl hS ⟨cY.1, cY.2, (bR w7)⟩ ?_ ?_
 ·exact bs3
 ·exact .v (.nil)
 ·refine .on rfl (fun a w hS hI hp => does_val (x_assign rfl (rfl)) rfl) ?_
  exact .nil
 clear hS
 intro el be hS ba hp
 clear hp
 refine dz _ _ ?_
 refine wp_seq_k (fun d8 db => ?_)
 refine reg_seq_tail 8 (I := I3_ w w3 be) (ps := [IsV (.string a0), IsC (Kd.int .u8) (bytesOf a0), IsV (.tuple #[(frame_Get.v1 aW aX aY aZ a1 a2 a3 a4 a5 aF aG aH aI aJ aK aL aM aN aO aP aQ aR aS), .int .i64 aT, .int .i64 aa]), IsV (.tuple #[(frame_Get.v1 aW aX aY aZ a1 a2 a3 a4 a5 aF aG aH aI aJ aK aL aM aN aO aP aQ aR aS), .int .i64 aT, .int .i64 aa]), IsV ((frame_Get.v1 aW aX aY aZ a1 a2 a3 a4 a5 aF aG aH aI aJ aK aL aM aN aO aP aQ aR aS)), VI aT, VI aa, IsB (frame_Get.c0 0 0 0 0 0 0 0 0 0 0 0 0 0 0 0 0 0 0 0 0 0 0 0) 28 be.heap.size]) (by kernel_rfl) ?_ ?_ rfl hS ⟨ba.1, ba.2.1, (bR be)⟩ ?_ ?_
 ·exact bs3
 ·exact .v (.cons (Stays.c _ _) (.v (.v (.v (.v (.v (.cons (Stays.b _ _ _) (.nil))))))))
 ·refine .ms 1 rfl rfl rfl ?_
  refine .on rfl (fun a w hS hI hp => does_bytes (e := 5) rfl (by kernel_rfl) (by kernel_rfl) (by kernel_rfl) (hp.V 0 rfl rfl) c1) ?_
  refine .on rfl (fun a w hS hI hp => (hp.V 1 rfl rfl).elim fun A_ h_ => h_.elim fun c_ h_ => h_.elim fun hv_ h_ => h_.elim fun hl_ hc_ => does_call (by kernel_rfl) (ar1 (hv_)) ((header_Get.calls k _ _ (bytesOf a0) aW aX aY aZ a1 a2 a3 a4 a5 aF aG aH aI aJ aK aL aM aN aO aP aQ aR aS aT aa _ hc_ hl_ c8).mono fun _ _ h => ⟨_, h.1, h.2, rfl⟩)) ?_
  refine .mv 2 rfl rfl rfl ?_
  iterate 3 refine .on rfl (fun a w hS hI hp => does_val (x_extract rfl (hp.V 3 rfl rfl) rfl) rfl) ?_
  refine .on rfl (fun a w hS hI hp => does_var (x_alloc rfl (by kernel_rfl)) (hI.2.2).size) ?_
  exact .nil
 clear hS
 intro dN dF hS bf hp
 have cy : sl _ 14 = (frame_Get.v1 aW aX aY aZ a1 a2 a3 a4 a5 aF aG aH aI aJ aK aL aM aN aO aP aQ aR aS) := hp 4 (by decide)
 have cz : sl _ 15 = .int .i64 aT := hp 5 (by decide)
 have cA : sl _ 16 = .int .i64 aa := hp 6 (by decide)
 obtain ⟨bC, cW, aU, b8⟩ := (show IsB _ 28 _ (sl _ 7) _ from hp 7 (by decide))
 have hS := hS.cons cy
 have hS := hS.cons cz
 have hS := hS.cons cA
 have hS := hS.cons cW
 clear hp cy cz cA cW
 show wpList _ _ _ [_, _, _] _ _
 refine list_step rfl (does_storeAll (g := bC) (cs := (frame_Get.c0 aW aX aY aZ a1 a2 a3 a4 a5 aF aG aH aI aJ aK aL aM aN aO aP aQ aR aS)) rfl (hS.get 0 rfl) (hS.get 3 rfl) (((bR dF).block bC (blk_lt b8)).trans b8) (by kernel_rfl) (by kernel_rfl) (by kernel_rfl)) ?_
 rintro d5 cO ⟨rfl, bc, hT⟩
 have ck := hT.below bf.1 (Nat.le_trans (ba.1).size aU) (bf.1).size
 have ce := hT.below bf.2.1 (Nat.le_trans (ba.2.1).size aU) (bf.2.1).size
 have bX := hT.below bf.2.2 aU (bf.2.2).size
 clear hT
 refine list_step rfl (R := fun v w' => Below _ _ w' ∧ (VI aT) v w') (does_val (x_assign rfl (hS.get 2 rfl)) rfl) ?_
 rintro dm dG ⟨hb, he⟩
 have cl := below_step ck hb
 have cf := below_step ce hb
 have bY := below_step bX hb
 have bZ := below_step (bR cO) hb
 obtain rfl : dm = .int .i64 aT := he
 refine hS.next (v := .int .i64 aT) (d := 8) rfl (by decide) (by rfl) ?_
 clear hS
 intro dO hS
 refine list_step rfl (R := fun v w' => Below _ _ w' ∧ (VI aa) v w') (does_val (x_assign rfl (hS.get 2 rfl)) rfl) ?_
 rintro dn cZ ⟨hb, he⟩
 have cm := below_step cl hb
 have cg := below_step cf hb
 have b0 := below_step bY hb
 have b1 := below_step bZ hb
 have cS := below_step (bR dG) hb
 obtain rfl : dn = .int .i64 aa := he
 refine hS.next (v := .int .i64 aa) (d := 9) rfl (by decide) (by rfl) ?_
 clear hS
 intro dP hS
 refine wpList_nil ?_
 refine db _ _ ?_
 refine wp_seq_k (fun d9 dc => ?_)
 refine wp_seq_k (fun ea dd => ?_)
 refine reg_seq (I := I5_ w w3 be cO cZ) (ps := [VI aa, VB (!decide (aa = 0))]) (by kernel_rfl) ?_ ?_ rfl hS ⟨cm, cg, b0, b1, (bR cZ)⟩ ?_ ?_
 ·exact bs5
 ·exact .v (.v (.nil))
 ·refine .ms 0 rfl rfl rfl ?_
  refine .on rfl (fun a w hS hI hp => does_val (x_bin rfl (hp.V 0 rfl rfl) (rfl) (b_neq _ _ _ _ _ _)) rfl) ?_
  exact .nil
 clear hS
 intro dQ c5 hS bg hp
 replace hS := ((((hS.nil).cons (hS.get 7 rfl)).cons (hS.get 6 rfl)).cons (hS.get 2 rfl)).cons (hS.get 0 rfl)
 have cB : sl _ 18 = .bool (!decide (aa = 0)) := hp 1 (by decide)
 have hS := hS.cons cB
 clear hp cB
 refine dd _ _ ?_
 by_cases c2 : aa = 0
 rotate_left
 ·rw [if_neg c2] at H
  refine wp_cond_true ((hS.get 0 rfl).trans (bT (congrArg (!·) (decide_eq_false c2)))) ?_
  refine wp_goto ?_
  (try simp only [Exit.then, Exit.inBlock])
  replace hS := ((hS.nil).cons (hS.get 1 rfl)).cons (hS.get 3 rfl)
  exact ⟨rfl, 0, 0, 0, 0, 0, 0, 0, 0, 0, 0, 0, 0, 0, 0, 0, 0, 0, 0, 0, 0, 0, 0, 0, g4, aa, H, hS, bg.1, bB, ((bg.2.1.block g4 (blk_lt aE)).trans aE)⟩
 rw [if_pos c2] at H
 obtain ⟨dC, c9, H⟩ := Option.bind_eq_some_iff.mp H
 obtain ⟨au, av, aw, ax, ay, az, aA, aB, aC, ad, ae, af, ag, ah, ai, aj, ak, al, am, an, ao, ap, aq, ar, ab⟩ := dC
 (try dsimp only at H)
 refine wp_cond_false ((hS.get 0 rfl).trans (bF (congrArg (!·) (decide_eq_true c2)))) ?_
 refine wp_skip ?_
 refine dc _ _ ?_
 refine wp_seq_k (fun eb de => ?_)
 refine wp_seq_k (fun ec df => ?_)
 refine reg_seq_tail 8 (I := I5_ w w3 be cO c5) (ps := [IsV ((frame_Get.v1 aW aX aY aZ a1 a2 a3 a4 a5 aF aG aH aI aJ aK aL aM aN aO aP aQ aR aS)), IsV (.string a0), IsC (Kd.int .u8) (bytesOf a0), IsV (.tuple #[(frame_Get.v1 au av aw ax ay az aA aB aC ad ae af ag ah ai aj ak al am an ao ap aq), .int .i64 ar, .int .i64 ab]), IsV (.tuple #[(frame_Get.v1 au av aw ax ay az aA aB aC ad ae af ag ah ai aj ak al am an ao ap aq), .int .i64 ar, .int .i64 ab]), IsV ((frame_Get.v1 au av aw ax ay az aA aB aC ad ae af ag ah ai aj ak al am an ao ap aq)), VI ar, VI ab]) (by kernel_rfl) ?_ ?_ rfl hS ⟨bg.1, bg.2.1, bg.2.2.1, bg.2.2.2.1, (bR c5)⟩ ?_ ?_
 ·exact bs5
 ·exact .v (.v (.cons (Stays.c _ _) (.v (.v (.v (.v (.v (.nil))))))))
 ·refine .on rfl (fun a w hS hI hp => does_loadrow rfl (hS.get 2 rfl) (((hI.2.2.2.1).block bC (blk_lt bc)).trans bc) Try.underlying28 rfl (by kernel_rfl) rfl) ?_
  refine .ms 4 rfl rfl rfl ?_
  refine .on rfl (fun a w hS hI hp => does_bytes (e := 5) rfl (by kernel_rfl) (by kernel_rfl) (by kernel_rfl) (hp.V 1 rfl rfl) c1) ?_
  refine .on rfl (fun a w hS hI hp => (hp.V 2 rfl rfl).elim fun A_ h_ => h_.elim fun c_ h_ => h_.elim fun hv_ h_ => h_.elim fun hl_ hc_ => does_call (by kernel_rfl) (ar3 (hp.V 0 rfl rfl) (hv_) (rfl)) ((body_Get.calls k aW aX aY aZ a1 a2 a3 a4 a5 aF aG aH aI aJ aK aL aM aN aO aP aQ aR aS _ _ (bytesOf a0) 34 au av aw ax ay az aA aB aC ad ae af ag ah ai aj ak al am an ao ap aq ar ab _ hc_ hl_ c9).mono fun _ _ h => ⟨_, h.1, h.2, rfl⟩)) ?_
  refine .mv 3 rfl rfl rfl ?_
  iterate 3 refine .on rfl (fun a w hS hI hp => does_val (x_extract rfl (hp.V 4 rfl rfl) rfl) rfl) ?_
  exact .nil
 clear hS
 intro dR eC hS bb hp
 replace hS := ((((hS.nil).cons (hS.get 4 rfl)).cons (hS.get 3 rfl)).cons (hS.get 2 rfl)).cons (hS.get 1 rfl)
 have cC : sl _ 24 = (frame_Get.v1 au av aw ax ay az aA aB aC ad ae af ag ah ai aj ak al am an ao ap aq) := hp 5 (by decide)
 have cD : sl _ 25 = .int .i64 ar := hp 6 (by decide)
 have cE : sl _ 26 = .int .i64 ab := hp 7 (by decide)
 have hS := hS.cons cC
 have hS := hS.cons cD
 have hS := hS.cons cE
 clear hp cC cD cE
 show wpList _ _ _ [_, _, _] _ _
 refine list_step rfl (does_storeAll (g := bC) (cs := (frame_Get.c0 au av aw ax ay az aA aB aC ad ae af ag ah ai aj ak al am an ao ap aq)) rfl (hS.get 4 rfl) (hS.get 2 rfl) ((bb.2.2.2.1.block bC (blk_lt bc)).trans bc) (by kernel_rfl) (by kernel_rfl) (by kernel_rfl)) ?_
 rintro d6 cb ⟨rfl, bd, hT⟩
 have cn := hT.below bb.1 (Nat.le_trans (ba.1).size aU) (bb.1).size
 have ch := hT.below bb.2.1 (Nat.le_trans (ba.2.1).size aU) (bb.2.1).size
 have b2 := hT.below bb.2.2.1 aU (bb.2.2.1).size
 clear hT
 refine list_step rfl (R := fun v w' => Below _ _ w' ∧ (VI ar) v w') (does_val (x_assign rfl (hS.get 1 rfl)) rfl) ?_
 rintro dp dH ⟨hb, he⟩
 have co := below_step cn hb
 have ci := below_step ch hb
 have b3 := below_step b2 hb
 have b4 := below_step (bR cb) hb
 obtain rfl : dp = .int .i64 ar := he
 refine hS.next (v := .int .i64 ar) (d := 6) rfl (by decide) (by rfl) ?_
 clear hS
 intro dS hS
 refine list_step rfl (R := fun v w' => Below _ _ w' ∧ (VI ab) v w') (does_val (x_assign rfl (hS.get 1 rfl)) rfl) ?_
 rintro dq c6 ⟨hb, he⟩
 have cp := below_step co hb
 have cj := below_step ci hb
 have b5 := below_step b3 hb
 have b6 := below_step b4 hb
 have cT := below_step (bR dH) hb
 obtain rfl : dq = .int .i64 ab := he
 replace hS := (((((((hS.nil).cons (hS.get 7 rfl)).cons (hS.get 6 rfl)).cons (hS.get 5 rfl)).cons (hS.get 3 rfl)).cons (hS.get 2 rfl)).cons (hS.get 1 rfl)).cons (hS.get 0 rfl)
 refine hS.next (v := .int .i64 ab) (d := 9) rfl (by decide) (by rfl) ?_
 clear hS
 intro dT hS
 refine wpList_nil ?_
 refine df _ _ ?_
 refine wp_seq_k (fun ed dg => ?_)
 refine reg_seq (I := I5_ w w3 be cb c6) (ps := [VI ab, VB (!decide (ab = 0))]) (by kernel_rfl) ?_ ?_ rfl hS ⟨cp, cj, b5, b6, (bR c6)⟩ ?_ ?_
 ·exact bs5
 ·exact .v (.v (.nil))
 ·refine .ms 0 rfl rfl rfl ?_
  refine .on rfl (fun a w hS hI hp => does_val (x_bin rfl (hp.V 0 rfl rfl) (rfl) (b_neq _ _ _ _ _ _)) rfl) ?_
  exact .nil
 clear hS
 intro dU a9 hS a7 hp
 replace hS := (((((hS.nil).cons (hS.get 7 rfl)).cons (hS.get 6 rfl)).cons (hS.get 5 rfl)).cons (hS.get 1 rfl)).cons (hS.get 0 rfl)
 have cF : sl _ 28 = .bool (!decide (ab = 0)) := hp 1 (by decide)
 have hS := hS.cons cF
 clear hp cF
 refine dg _ _ ?_
 by_cases c3 : ab = 0
 rotate_left
 ·rw [if_neg c3] at H
  refine wp_cond_true ((hS.get 0 rfl).trans (bT (congrArg (!·) (decide_eq_false c3)))) ?_
  refine wp_goto ?_
  (try simp only [Exit.then, Exit.inBlock])
  replace hS := ((hS.nil).cons (hS.get 1 rfl)).cons (hS.get 4 rfl)
  exact ⟨rfl, 0, 0, 0, 0, 0, 0, 0, 0, 0, 0, 0, 0, 0, 0, 0, 0, 0, 0, 0, 0, 0, 0, 0, g4, ab, H, hS, a7.1, bB, ((a7.2.1.block g4 (blk_lt aE)).trans aE)⟩
 rw [if_pos c3] at H
 obtain ⟨dD, da, H⟩ := Option.bind_eq_some_iff.mp H
 obtain ⟨ac, aD⟩ := dD
 (try dsimp only at H)
 refine wp_cond_false ((hS.get 0 rfl).trans (bF (congrArg (!·) (decide_eq_true c3)))) ?_
 refine wp_skip ?_
 refine de _ _ ?_
 refine wp_seq_k (fun ee dh => ?_)
 refine wp_seq_k (fun ef di => ?_)
 replace hS := (((((hS.nil).cons (hS.get 5 rfl)).cons (hS.get 4 rfl)).cons (hS.get 3 rfl)).cons (hS.get 2 rfl)).cons (hS.get 0 rfl)
 refine reg_seq (I := I5_ w w3 be cb a9) (ps := [IsV (.string a0), IsC (Kd.int .u8) (bytesOf a0), VI ar, IsT (fun v0_ => #[v0_, .int .i64 aD]) (IsR k43 43 a9.heap.size ac), IsT (fun v0_ => #[v0_, .int .i64 aD]) (IsR k43 43 a9.heap.size ac), IsR k43 43 a9.heap.size ac, VI aD, IsR k43 43 a9.heap.size ac, VI aD]) (by kernel_rfl) ?_ ?_ rfl hS ⟨a7.1, a7.2.1, a7.2.2.1, a7.2.2.2.1, (bR a9)⟩ ?_ ?_
 ·exact bs5
 ·exact .v (.cons (Stays.c _ _) (.v (.cons (Stays.t _ (Stays.r _ _ _ _)) (.cons (Stays.t _ (Stays.r _ _ _ _)) (.cons (Stays.r _ _ _ _) (.v (.cons (Stays.r _ _ _ _) (.v (.nil)))))))))
 ·refine .ms 4 rfl rfl rfl ?_
  refine .on rfl (fun a w hS hI hp => does_bytes (e := 5) rfl (by kernel_rfl) (by kernel_rfl) (by kernel_rfl) (hp.V 0 rfl rfl) c1) ?_
  refine .ms 1 rfl rfl rfl ?_
  refine .on rfl (fun a w hS hI hp => (hp.V 1 rfl rfl).elim fun A_ h_ => h_.elim fun c_ h_ => h_.elim fun hv_ h_ => h_.elim fun hl_ hc_ => does_call (by kernel_rfl) (ar2 (hv_) (hp.V 2 rfl rfl)) ((tlv_Get.calls k _ _ (bytesOf a0) ar ac aD _ hc_ hl_ da).mono fun _ _ h => h.elim fun v0 h => ⟨_, h.1, h.2.2, v0, rfl, Kd.R_lower h.2.1 hI.2.2.2.2.size⟩)) ?_
  refine .on rfl (fun a w hS hI hp => does_val (x_move rfl rfl) (hp.V 3 rfl rfl)) ?_
  refine .on rfl (fun a w hS hI hp => (hp.V 4 rfl rfl).elim fun v0 h0 => does_val (x_extract rfl h0.1 rfl) h0.2) ?_
  refine .on rfl (fun a w hS hI hp => (hp.V 4 rfl rfl).elim fun v0 h0 => does_val (x_extract rfl h0.1 rfl) rfl) ?_
  refine .on rfl (fun a w hS hI hp => does_val (x_assign rfl rfl) (hp.V 5 rfl rfl)) ?_
  refine .asg 6 rfl rfl rfl ?_
  exact .nil
 clear hS
 intro dV cc hS bG hp
 replace hS := ((hS.nil).cons (hS.get 3 rfl)).cons (hS.get 2 rfl)
 obtain ⟨bu, bv, cL, d3, d1⟩ := Kd.R_reads (show Kd.R k43 43 cc a9.heap.size (fun _ => True) (sl _ 5) ac from hp 7 (by decide))
 have dl : Kd.R k43 43 cc a9.heap.size (fun _ => True) (.slice bu ac.length bv) ac := cL ▸ (hp 7 (by decide))
 have cX : sl _ 9 = .int .i64 aD := hp 8 (by decide)
 have hS := hS.cons cL
 have hS := hS.cons cX
 clear hp cL cX
 refine di _ _ ?_
 refine wp_seq_k (fun eg dj => ?_)
 refine reg_seq (I := I6_ w w3 be cb a9 cc) (ps := [VI aD, VB (!decide (aD = 0))]) (by kernel_rfl) ?_ ?_ rfl hS ⟨bG.1, bG.2.1, bG.2.2.1, bG.2.2.2.1, bG.2.2.2.2, (bR cc)⟩ ?_ ?_
 ·exact bs6
 ·exact .v (.v (.nil))
 ·refine .ms 0 rfl rfl rfl ?_
  refine .on rfl (fun a w hS hI hp => does_val (x_bin rfl (hp.V 0 rfl rfl) (rfl) (b_neq _ _ _ _ _ _)) rfl) ?_
  exact .nil
 clear hS
 intro dW c7 hS a8 hp
 have cG : sl _ 37 = .bool (!decide (aD = 0)) := hp 1 (by decide)
 have hS := hS.cons cG
 clear hp cG
 refine dj _ _ ?_
 by_cases c4 : aD = 0
 rotate_left
 ·rw [if_neg c4] at H
  refine wp_cond_true ((hS.get 0 rfl).trans (bT (congrArg (!·) (decide_eq_false c4)))) ?_
  refine wp_goto ?_
  (try simp only [Exit.then, Exit.inBlock])
  replace hS := ((hS.nil).cons (hS.get 1 rfl)).cons (hS.get 4 rfl)
  exact ⟨rfl, 0, 0, 0, 0, 0, 0, 0, 0, 0, 0, 0, 0, 0, 0, 0, 0, 0, 0, 0, 0, 0, 0, 0, g4, aD, H, hS, a8.1, bB, ((a8.2.1.block g4 (blk_lt aE)).trans aE)⟩
 rw [if_pos c4] at H
 simp only [Option.some.injEq, Prod.mk.injEq] at H
 obtain ⟨rfl, rfl, rfl, rfl, rfl, rfl, rfl, rfl, rfl, rfl, rfl, rfl, rfl, rfl, rfl, rfl, rfl, rfl, rfl, rfl, rfl, rfl, rfl, rfl, rfl⟩ := H
 refine wp_cond_false ((hS.get 0 rfl).trans (bF (congrArg (!·) (decide_eq_true c4)))) ?_
 refine wp_skip ?_
 refine dh _ _ ?_
 refine wp_seq_k (fun eh d0 => ?_)
 refine wp_seq_k (fun ei dk => ?_)
 refine reg_seq_tail 2 (I := I7_ w w3 be cb a9 cc c7) (ps := [IsV ((frame_Get.v1 au av aw ax ay az aA aB aC ad ae af ag ah ai aj ak al am an ao ap aq)), IsV (.slice bu ac.length bv)]) (by kernel_rfl) ?_ ?_ rfl hS ⟨a8.1, a8.2.1, a8.2.2.1, a8.2.2.2.1, a8.2.2.2.2.1, a8.2.2.2.2.2, (bR c7)⟩ ?_ ?_
 ·exact bs7
 ·exact .v (.v (.nil))
 ·refine .on rfl (fun a w hS hI hp => does_loadrow rfl (hS.get 3 rfl) (((hI.2.2.2.1).block bC (blk_lt bd)).trans bd) Try.underlying28 rfl (by kernel_rfl) rfl) ?_
  refine .ms 2 rfl rfl rfl ?_
  exact .nil
 clear hS
 intro dX eD hS bH hp
 replace hS := (hS.nil).cons (hS.get 4 rfl)
 have cH : sl _ 38 = (frame_Get.v1 au av aw ax ay az aA aB aC ad ae af ag ah ai aj ak al am an ao ap aq) := hp 0 (by decide)
 have cI : sl _ 39 = .slice bu ac.length bv := hp 1 (by decide)
 have hS := hS.cons cH
 have hS := hS.cons cI
 clear hp cH cI
 show wpList _ _ _ [_, _, _] _ _
 refine list_step rfl (does_storeAll (g := g4) (cs := (frame_Get.c0 au av aw ax ay az aA aB aC ad ae af ag ah ai aj ak al am an ao ap aq)) rfl (hS.get 2 rfl) (hS.get 1 rfl) ((bH.2.1.block g4 (blk_lt aE)).trans aE) (by kernel_rfl) (by kernel_rfl) (by kernel_rfl)) ?_
 rintro d7 dI ⟨rfl, b9, hT⟩
 have cx := hT.row (Kd.R_below dl bH.2.2.2.2.2.1) (Nat.lt_of_lt_of_le (blk_lt aE) (a7.2.1).size)
 have d2 := (Kd.R_reads' cx).2.2
 have d4 := hT.blk ((bH.2.2.2.1.block bC (blk_lt bd)).trans bd) (Nat.ne_of_gt (Nat.lt_of_lt_of_le (Nat.lt_of_lt_of_le (blk_lt aE) (ba.2.1).size) aU))
 have cq := hT.below bH.1 bB (bH.1).size
 clear hT
 refine list_step rfl (R := fun v w' => Below _ _ w' ∧ (IsV (.slice bu ac.length bv)) v w') (does_val (x_assign rfl (hS.get 0 rfl)) rfl) ?_
 rintro dr dJ ⟨hb, he⟩
 have cr := below_step cq hb
 have b7 := below_step (bR dI) hb
 obtain rfl : dr = .slice bu ac.length bv := he
 refine hS.next (v := .slice bu ac.length bv) (d := 3) rfl (by decide) (by rfl) ?_
 clear hS
 intro dY hS
 refine list_step rfl (R := fun v w' => Below _ _ w' ∧ (VI 0) v w') (does_val (x_assign rfl (rfl)) rfl) ?_
 rintro ds eE ⟨hb, he⟩
 have ct := below_step cr hb
 have bw := below_step b7 hb
 have cU := below_step (bR dJ) hb
 obtain rfl : ds = .int .i64 0 := he
 refine hS.next (v := .int .i64 0) (d := 4) rfl (by decide) (by rfl) ?_
 clear hS
 intro dZ hS
 refine wpList_nil ?_
 refine dk _ _ ?_
 refine wp_ret ?_
 (try simp only [Exit.then, Exit.inBlock, Exit.jump, Exit.noGoto])
 exact bodyPost_ret (v := .tuple #[(frame_Get.v1 au av aw ax ay az aA aB aC ad ae af ag ah ai aj ak al am an ao ap aq), .slice bu ac.length bv, .int .i64 0]) (results_list (rs := [.cell 2 28, .tmp 3, .tmp 4]) rfl (by simp) (Vals.cell g4 28 (frame_Get.c0 au av aw ax ay az aA aB aC ad ae af ag ah ai aj ak al am an ao ap aq) (0, 0) _ (hS.get 4 rfl) ((bw.block g4 (blk_lt b9)).trans b9) Try.underlying28 rfl (by kernel_rfl) (Vals.at (hS.get 1 rfl) (Vals.at (hS.get 0 rfl) .nil)))) hS.nodef ⟨.slice bu ac.length bv, rfl, Kd.R_lower (Kd.R_below cx bw) (a7.1).size, ct⟩
def carillonlaw09_awake.f (k : Nat)  : Option (Bool) := (frame_Put.f k 0 0 0 0 0 0 0 0 0 0 0 0 0 0 0 0 0 0 0 0 0 0 0 []).bind fun t5 => ((frame_Get.f k t5.1).bind fun t9 => (if t5.2 = true then (if (t5.1.size : Int) = 44 then (if t9.2.2.2.2.2.2.2.2.2.2.2.2.2.2.2.2.2.2.2.2.2.2.2.2 = 0 then (if ((t9.1 == 0) && ((t9.2.1 == 0) && ((t9.2.2.1 == 0) && ((t9.2.2.2.1 == 0) && ((t9.2.2.2.2.1 == 0) && ((t9.2.2.2.2.2.1 == 0) && ((t9.2.2.2.2.2.2.1 == 0) && ((t9.2.2.2.2.2.2.2.1 == 0) && ((t9.2.2.2.2.2.2.2.2.1 == 0) && ((t9.2.2.2.2.2.2.2.2.2.1 == 0) && ((t9.2.2.2.2.2.2.2.2.2.2.1 == 0) && ((t9.2.2.2.2.2.2.2.2.2.2.2.1 == 0) && ((t9.2.2.2.2.2.2.2.2.2.2.2.2.1 == 0) && ((t9.2.2.2.2.2.2.2.2.2.2.2.2.2.1 == 0) && ((t9.2.2.2.2.2.2.2.2.2.2.2.2.2.2.1 == 0) && ((t9.2.2.2.2.2.2.2.2.2.2.2.2.2.2.2.1 == 0) && ((t9.2.2.2.2.2.2.2.2.2.2.2.2.2.2.2.2.1 == 0) && ((t9.2.2.2.2.2.2.2.2.2.2.2.2.2.2.2.2.2.1 == 0) && ((t9.2.2.2.2.2.2.2.2.2.2.2.2.2.2.2.2.2.2.1 == 0) && ((t9.2.2.2.2.2.2.2.2.2.2.2.2.2.2.2.2.2.2.2.1 == 0) && ((t9.2.2.2.2.2.2.2.2.2.2.2.2.2.2.2.2.2.2.2.2.1 == 0) && ((t9.2.2.2.2.2.2.2.2.2.2.2.2.2.2.2.2.2.2.2.2.2.1 == 0) && (t9.2.2.2.2.2.2.2.2.2.2.2.2.2.2.2.2.2.2.2.2.2.2.1 == 0))))))))))))))))))))))) = true then (some (decide ((t9.2.2.2.2.2.2.2.2.2.2.2.2.2.2.2.2.2.2.2.2.2.2.2.1.length : Int) = 0))) else (none)) else (none)) else (none)) else (none)))
open Go.Proofs.Ytiomlbkakiienaa.E in
set_option maxRecDepth 100000 in
theorem carillonlaw09_awake.eql28 (x y : Operand) (w : World) (a0 a1 a2 a3 a4 a5 a6 a7 a8 a9 a10 a11 a12 a13 a14 a15 a16 a17 a18 a19 a20 a21 a22 b0 b1 b2 b3 b4 b5 b6 b7 b8 b9 b10 b11 b12 b13 b14 b15 b16 b17 b18 b19 b20 b21 b22 : Int) : (do eqGuard .eql 28 x y (.agg #[.int .i64 a0, .int .i64 a1, .int .i64 a2, .int .i64 a3, .int .u64 a4, .int .i64 a5, .int .i64 a6, .int .i64 a7, .int .i64 a8, .int .u64 a9, .int .i64 a10, .int .i64 a11, .int .i64 a12, .int .i64 a13, .int .i64 a14, .int .i64 a15, .int .i64 a16, .int .u64 a17, .int .i64 a18, .int .i64 a19, .int .i64 a20, .int .i64 a21, .int .i64 a22]) (.agg #[.int .i64 b0, .int .i64 b1, .int .i64 b2, .int .i64 b3, .int .u64 b4, .int .i64 b5, .int .i64 b6, .int .i64 b7, .int .i64 b8, .int .u64 b9, .int .i64 b10, .int .i64 b11, .int .i64 b12, .int .i64 b13, .int .i64 b14, .int .i64 b15, .int .i64 b16, .int .u64 b17, .int .i64 b18, .int .i64 b19, .int .i64 b20, .int .i64 b21, .int .i64 b22]); binOp .eql 28 (.agg #[.int .i64 a0, .int .i64 a1, .int .i64 a2, .int .i64 a3, .int .u64 a4, .int .i64 a5, .int .i64 a6, .int .i64 a7, .int .i64 a8, .int .u64 a9, .int .i64 a10, .int .i64 a11, .int .i64 a12, .int .i64 a13, .int .i64 a14, .int .i64 a15, .int .i64 a16, .int .u64 a17, .int .i64 a18, .int .i64 a19, .int .i64 a20, .int .i64 a21, .int .i64 a22]) (.agg #[.int .i64 b0, .int .i64 b1, .int .i64 b2, .int .i64 b3, .int .u64 b4, .int .i64 b5, .int .i64 b6, .int .i64 b7, .int .i64 b8, .int .u64 b9, .int .i64 b10, .int .i64 b11, .int .i64 b12, .int .i64 b13, .int .i64 b14, .int .i64 b15, .int .i64 b16, .int .u64 b17, .int .i64 b18, .int .i64 b19, .int .i64 b20, .int .i64 b21, .int .i64 b22]) : Sem Value).run Try.prog w = .ok (.bool ((a0 == b0) && ((a1 == b1) && ((a2 == b2) && ((a3 == b3) && ((a4 == b4) && ((a5 == b5) && ((a6 == b6) && ((a7 == b7) && ((a8 == b8) && ((a9 == b9) && ((a10 == b10) && ((a11 == b11) && ((a12 == b12) && ((a13 == b13) && ((a14 == b14) && ((a15 == b15) && ((a16 == b16) && ((a17 == b17) && ((a18 == b18) && ((a19 == b19) && ((a20 == b20) && ((a21 == b21) && (a22 == b22)))))))))))))))))))))))) w := by
  have hu3 := Try.underlying3
  have hu22 := Try.underlying22
  have hu24 := Try.underlying24
  have hu26 := Try.underlying26
  have hu28 := Try.underlying28
  conv => lhs; simp [eqGuard, go_sem, hu3, hu22, hu24, hu26, hu28]
  exact ite_and (ite_and (ite_and (ite_and (ite_and (ite_and (ite_and (ite_and (ite_and (ite_and (ite_and (ite_and (ite_and (ite_and (ite_and (ite_and (ite_and (ite_and (ite_and (ite_and (ite_and (ite_and (ite_last))))))))))))))))))))))
abbrev carillonlaw09_awake.v0 (x0 x1 x2 x3 x4 x5 x6 x7 x8 x9 x10 x11 x12 x13 x14 x15 x16 x17 x18 x19 x20 x21 x22 : Int) : Value := .agg #[.int .i64 x0, .int .i64 x1, .int .i64 x2, .int .i64 x3, .int .u64 x4, .int .i64 x5, .int .i64 x6, .int .i64 x7, .int .i64 x8, .int .u64 x9, .int .i64 x10, .int .i64 x11, .int .i64 x12, .int .i64 x13, .int .i64 x14, .int .i64 x15, .int .i64 x16, .int .u64 x17, .int .i64 x18, .int .i64 x19, .int .i64 x20, .int .i64 x21, .int .i64 x22]
abbrev carillonlaw09_awake.c1 (x0 x1 x2 x3 x4 x5 x6 x7 x8 x9 x10 x11 x12 x13 x14 x15 x16 x17 x18 x19 x20 x21 x22 : Int) : Array Value := #[.int .i64 x0, .int .i64 x1, .int .i64 x2, .int .i64 x3, .int .u64 x4, .int .i64 x5, .int .i64 x6, .int .i64 x7, .int .i64 x8, .int .u64 x9, .int .i64 x10, .int .i64 x11, .int .i64 x12, .int .i64 x13, .int .i64 x14, .int .i64 x15, .int .i64 x16, .int .u64 x17, .int .i64 x18, .int .i64 x19, .int .i64 x20, .int .i64 x21, .int .i64 x22]
open Go.Proofs.Ytiomlbkakiienaa.E in
set_option maxHeartbeats 60000000 in
set_option maxRecDepth 100000 in
theorem carillonlaw09_awake.calls (k : Nat) (r : Bool) (w : World) (h : carillonlaw09_awake.f k  = some r) :
    Calls Try.prog 10 #[] w fun e w' => e = .returned (.bool r) ∧ Below w.heap.size w w' := by
 have H := h
 clear h
 unfold carillonlaw09_awake.f at H
 obtain ⟨t5, bk, H⟩ := Option.bind_eq_some_iff.mp H
 obtain ⟨aq, aC⟩ := t5
 (try dsimp only at H)
 obtain ⟨t9, bl, H⟩ := Option.bind_eq_some_iff.mp H
 obtain ⟨ar, au, av, aw, ax, ay, az, aA, aB, ac, ad, ae, af, ag, ah, ai, aj, ak, al, am, an, ao, ap, aa, ab⟩ := t9
 (try dsimp only at H)
 by_cases c1 : aC = true
 rotate_left
 ·rw [if_neg c1] at H; exact absurd H (by simp)
 rw [if_pos c1] at H
 by_cases c2 : (aq.size : Int) = 44
 rotate_left
 ·rw [if_neg c2] at H; exact absurd H (by simp)
 rw [if_pos c2] at H
 by_cases c3 : ab = 0
 rotate_left
 ·rw [if_neg c3] at H; exact absurd H (by simp)
 rw [if_pos c3] at H
 by_cases c4 : ((ar == 0) && ((au == 0) && ((av == 0) && ((aw == 0) && ((ax == 0) && ((ay == 0) && ((az == 0) && ((aA == 0) && ((aB == 0) && ((ac == 0) && ((ad == 0) && ((ae == 0) && ((af == 0) && ((ag == 0) && ((ah == 0) && ((ai == 0) && ((aj == 0) && ((ak == 0) && ((al == 0) && ((am == 0) && ((an == 0) && ((ao == 0) && (ap == 0))))))))))))))))))))))) = true
 rotate_left
 ·rw [if_neg c4] at H; exact absurd H (by simp)
 rw [if_pos c4] at H
 obtain rfl := Option.some.inj H
 refine calls_of_wp (fn := Try.f10) (by kernel_rfl) rfl ?_
 have hS := St.enter #[] 37 (by simp) [] (by simp)
 have bm := Below.refl w.heap.size w
 refine wp_seq_k (fun K1 bn => ?_)
 refine reg_seq (I := I1_ w) (ps := [VB false]) (by kernel_rfl) ?_ ?_ rfl hS bm ?_ ?_
 ·exact bs1
 ·exact .v (.nil)
 ·refine .on rfl (fun a w hS hI hp => does_val (x_assign rfl (rfl)) rfl) ?_
  exact .nil
 clear hS
 intro bC w3 hS bq hp
 clear hp
 refine bn _ _ ?_
 refine wp_seq_k (fun K4 bo => ?_)
 refine reg_seq (I := I2_ w w3) (ps := [IsV ((carillonlaw09_awake.v0 0 0 0 0 0 0 0 0 0 0 0 0 0 0 0 0 0 0 0 0 0 0 0)), IsV (.tuple #[.string aq, .bool aC]), IsV (.tuple #[.string aq, .bool aC]), IsV (.string aq), VB aC, IsV (.string aq), VB aC]) (by kernel_rfl) ?_ ?_ rfl hS ⟨bq, (bR w3)⟩ ?_ ?_
 ·exact bs2
 ·exact .v (.v (.v (.v (.v (.v (.v (.nil)))))))
 ·refine .on rfl (fun a w hS hI hp => does_val (x_build (vs := []) rfl (by rw [Array.toList_map]; exact (show [] = _ from rfl)) (by kernel_rfl)) rfl) ?_
  refine .on rfl (fun a w hS hI hp => does_call (by kernel_rfl) (ar2 (hp.V 0 rfl rfl) (rfl)) ((frame_Put.calls k 0 0 0 0 0 0 0 0 0 0 0 0 0 0 0 0 0 0 0 0 0 0 0 _ _ [] aq aC _ (Kd.C_nil _ _) (Nat.le_refl _) bk).mono fun _ _ h => ⟨_, h.1, h.2, rfl⟩)) ?_
  refine .mv 1 rfl rfl rfl ?_
  iterate 2 refine .on rfl (fun a w hS hI hp => does_val (x_extract rfl (hp.V 2 rfl rfl) rfl) rfl) ?_
  refine .asg 3 rfl rfl rfl ?_
  refine .asg 4 rfl rfl rfl ?_
  exact .nil
 clear hS
 intro bD w7 hS bb hp
 have aY : sl _ 1 = .string aq := hp 5 (by decide)
 have aZ : sl _ 2 = .bool aC := hp 6 (by decide)
 have hS := hS.cons aY
 have hS := hS.cons aZ
 clear hp aY aZ
 refine bo _ _ ?_
 refine wp_seq_k (fun K8 bp => ?_)
 refine reg_seq_tail 7 (I := I2_ w w7) (ps := [IsV (.string aq), IsT (fun v0_ => #[(carillonlaw09_awake.v0 ar au av aw ax ay az aA aB ac ad ae af ag ah ai aj ak al am an ao ap), v0_, .int .i64 ab]) (IsR k43 43 w7.heap.size aa), IsT (fun v0_ => #[(carillonlaw09_awake.v0 ar au av aw ax ay az aA aB ac ad ae af ag ah ai aj ak al am an ao ap), v0_, .int .i64 ab]) (IsR k43 43 w7.heap.size aa), IsV ((carillonlaw09_awake.v0 ar au av aw ax ay az aA aB ac ad ae af ag ah ai aj ak al am an ao ap)), IsR k43 43 w7.heap.size aa, VI ab, IsB (carillonlaw09_awake.c1 0 0 0 0 0 0 0 0 0 0 0 0 0 0 0 0 0 0 0 0 0 0 0) 28 w7.heap.size]) (by kernel_rfl) ?_ ?_ rfl hS ⟨bb.1, (bR w7)⟩ ?_ ?_
 ·exact bs2
 ·exact .v (.cons (Stays.t _ (Stays.r _ _ _ _)) (.cons (Stays.t _ (Stays.r _ _ _ _)) (.v (.cons (Stays.r _ _ _ _) (.v (.cons (Stays.b _ _ _) (.nil)))))))
 ·refine .ms 1 rfl rfl rfl ?_
  refine .on rfl (fun a w hS hI hp => does_call (by kernel_rfl) (ar1 (hp.V 0 rfl rfl)) ((frame_Get.calls k aq ar au av aw ax ay az aA aB ac ad ae af ag ah ai aj ak al am an ao ap aa ab _  bl).mono fun _ _ h => h.elim fun v0 h => ⟨_, h.1, h.2.2, v0, rfl, Kd.R_lower h.2.1 hI.2.size⟩)) ?_
  refine .on rfl (fun a w hS hI hp => does_val (x_move rfl rfl) (hp.V 1 rfl rfl)) ?_
  refine .on rfl (fun a w hS hI hp => (hp.V 2 rfl rfl).elim fun v0 h0 => does_val (x_extract rfl h0.1 rfl) rfl) ?_
  refine .on rfl (fun a w hS hI hp => (hp.V 2 rfl rfl).elim fun v0 h0 => does_val (x_extract rfl h0.1 rfl) h0.2) ?_
  refine .on rfl (fun a w hS hI hp => (hp.V 2 rfl rfl).elim fun v0 h0 => does_val (x_extract rfl h0.1 rfl) rfl) ?_
  refine .on rfl (fun a w hS hI hp => does_var (x_alloc rfl (by kernel_rfl)) (hI.2).size) ?_
  exact .nil
 clear hS
 intro bs aL hS aE hp
 have aU : sl _ 14 = (carillonlaw09_awake.v0 ar au av aw ax ay az aA aB ac ad ae af ag ah ai aj ak al am an ao ap) := hp 3 (by decide)
 obtain ⟨aF, aG, aP, bz, bw⟩ := Kd.R_reads (show Kd.R k43 43 aL w7.heap.size (fun _ => True) (sl _ 15) aa from hp 4 (by decide))
 have bf : Kd.R k43 43 aL w7.heap.size (fun _ => True) (.slice aF aa.length aG) aa := aP ▸ (hp 4 (by decide))
 have aV : sl _ 16 = .int .i64 ab := hp 5 (by decide)
 obtain ⟨aQ, ba, aK, aD⟩ := (show IsB _ 28 _ (sl _ 3) _ from hp 6 (by decide))
 have hS := hS.cons aU
 have hS := hS.cons aP
 have hS := hS.cons aV
 have hS := hS.cons ba
 clear hp aU aP aV ba
 show wpList _ _ _ [_, _, _] _ _
 refine list_step rfl (does_storeAll (g := aQ) (cs := (carillonlaw09_awake.c1 ar au av aw ax ay az aA aB ac ad ae af ag ah ai aj ak al am an ao ap)) rfl (hS.get 0 rfl) (hS.get 3 rfl) (((bR aL).block aQ (blk_lt aD)).trans aD) (by kernel_rfl) (by kernel_rfl) (by kernel_rfl)) ?_
 rintro bA bc ⟨rfl, aJ, hT⟩
 have bg := hT.rowT rfl (((bR aL).block aQ (blk_lt aD)).trans aD) (Kd.R_below bf (bR aL)) (by decide)
 have bx := (Kd.R_reads' bg).2.2
 have aR := hT.below aE.1 (Nat.le_trans (bb.1).size aK) (aE.1).size
 have aM := hT.below aE.2 aK (aE.2).size
 clear hT
 refine list_step rfl (R := fun v w' => Below _ _ w' ∧ (IsV (.slice aF aa.length aG)) v w') (does_val (x_assign rfl (hS.get 2 rfl)) rfl) ?_
 rintro bi br ⟨hb, he⟩
 have aS := below_step aR hb
 have aN := below_step aM hb
 have aH := below_step (bR bc) hb
 obtain rfl : bi = .slice aF aa.length aG := he
 refine hS.next (v := .slice aF aa.length aG) (d := 4) rfl (by decide) (by rfl) ?_
 clear hS
 intro bt hS
 refine list_step rfl (R := fun v w' => Below _ _ w' ∧ (VI ab) v w') (does_val (x_assign rfl (hS.get 2 rfl)) rfl) ?_
 rintro bj bd ⟨hb, he⟩
 have aT := below_step aS hb
 have aO := below_step aN hb
 have aI := below_step aH hb
 have aW := below_step (bR br) hb
 obtain rfl : bj = .int .i64 ab := he
 refine hS.next (v := .int .i64 ab) (d := 5) rfl (by decide) (by rfl) ?_
 clear hS
 intro bu hS
 refine wpList_nil ?_
 refine bp _ _ ?_
 refine wp_seq_k (fun bB be => ?_)
 refine reg_seq (I := I4_ w w7 bc bd) (ps := [VB aC, VB aC, IsV (.string aq), VI (aq.size : Int), VB (decide ((aq.size : Int) = 44)), VB (decide ((aq.size : Int) = 44)), VB (decide ((aq.size : Int) = 44)), VI ab, VB (decide (ab = 0)), VB (decide (ab = 0)), VB (decide (ab = 0)), IsV ((carillonlaw09_awake.v0 ar au av aw ax ay az aA aB ac ad ae af ag ah ai aj ak al am an ao ap)), IsV ((carillonlaw09_awake.v0 0 0 0 0 0 0 0 0 0 0 0 0 0 0 0 0 0 0 0 0 0 0 0)), VB ((ar == 0) && ((au == 0) && ((av == 0) && ((aw == 0) && ((ax == 0) && ((ay == 0) && ((az == 0) && ((aA == 0) && ((aB == 0) && ((ac == 0) && ((ad == 0) && ((ae == 0) && ((af == 0) && ((ag == 0) && ((ah == 0) && ((ai == 0) && ((aj == 0) && ((ak == 0) && ((al == 0) && ((am == 0) && ((an == 0) && ((ao == 0) && (ap == 0))))))))))))))))))))))), VB ((ar == 0) && ((au == 0) && ((av == 0) && ((aw == 0) && ((ax == 0) && ((ay == 0) && ((az == 0) && ((aA == 0) && ((aB == 0) && ((ac == 0) && ((ad == 0) && ((ae == 0) && ((af == 0) && ((ag == 0) && ((ah == 0) && ((ai == 0) && ((aj == 0) && ((ak == 0) && ((al == 0) && ((am == 0) && ((an == 0) && ((ao == 0) && (ap == 0))))))))))))))))))))))), VB ((ar == 0) && ((au == 0) && ((av == 0) && ((aw == 0) && ((ax == 0) && ((ay == 0) && ((az == 0) && ((aA == 0) && ((aB == 0) && ((ac == 0) && ((ad == 0) && ((ae == 0) && ((af == 0) && ((ag == 0) && ((ah == 0) && ((ai == 0) && ((aj == 0) && ((ak == 0) && ((al == 0) && ((am == 0) && ((an == 0) && ((ao == 0) && (ap == 0))))))))))))))))))))))), IsV (.slice aF aa.length aG), VI (aa.length : Int), VB (decide ((aa.length : Int) = 0)), VB (decide ((aa.length : Int) = 0)), VB (decide ((aa.length : Int) = 0))]) (by kernel_rfl) ?_ ?_ rfl hS ⟨aT, aO, aI, (bR bd)⟩ ?_ ?_
 ·exact bs4
 ·exact .v (.v (.v (.v (.v (.v (.v (.v (.v (.v (.v (.v (.v (.v (.v (.v (.v (.v (.v (.v (.v (.nil)))))))))))))))))))))
 ·refine .ms 6 rfl rfl rfl ?_
  refine .mv 0 rfl rfl rfl ?_
  refine .oy 1 18 rfl rfl c1 (fun a w hS hI hp => does_val (x_move rfl (hS.get 7 rfl)) rfl) ?_
  refine .oy 1 18 rfl rfl c1 (fun a w hS hI hp => does_val (x_lenS rfl (by kernel_rfl) (hp.V 2 rfl rfl)) rfl) ?_
  refine .oy 1 18 rfl rfl c1 (fun a w hS hI hp => does_val (x_bin rfl (hp.V 3 rfl rfl) (rfl) (b_eql _ _ _ _ _ _)) rfl) ?_
  refine .pt 1 4 rfl rfl rfl c1 rfl ?_
  refine .mv 5 rfl rfl rfl ?_
  refine .oy 6 23 rfl rfl ((decide_eq_true c2)) (fun a w hS hI hp => does_val (x_move rfl (hS.get 0 rfl)) rfl) ?_
  refine .oy 6 23 rfl rfl ((decide_eq_true c2)) (fun a w hS hI hp => does_val (x_bin rfl (hp.V 7 rfl rfl) (rfl) (b_eql _ _ _ _ _ _)) rfl) ?_
  refine .pt 6 8 rfl rfl rfl ((decide_eq_true c2)) rfl ?_
  refine .mv 9 rfl rfl rfl ?_
  refine .oy 10 27 rfl rfl ((decide_eq_true c3)) (fun a w hS hI hp => does_loadrow rfl (hS.get 2 rfl) (((hI.2.2.1).block aQ (blk_lt aJ)).trans aJ) Try.underlying28 rfl (by kernel_rfl) rfl) ?_
  refine .oy 10 27 rfl rfl ((decide_eq_true c3)) (fun a w hS hI hp => does_val (x_build (vs := []) rfl (by rw [Array.toList_map]; exact (show [] = _ from rfl)) (by kernel_rfl)) rfl) ?_
  refine .oy 10 27 rfl rfl ((decide_eq_true c3)) (fun a w hS hI hp => does_val (x_bin rfl (hp.V 11 rfl rfl) (hp.V 12 rfl rfl) (carillonlaw09_awake.eql28 _ _ _ ar au av aw ax ay az aA aB ac ad ae af ag ah ai aj ak al am an ao ap 0 0 0 0 0 0 0 0 0 0 0 0 0 0 0 0 0 0 0 0 0 0 0)) rfl) ?_
  refine .pt 10 13 rfl rfl rfl ((decide_eq_true c3)) rfl ?_
  refine .mv 14 rfl rfl rfl ?_
  refine .oy 15 32 rfl rfl c4 (fun a w hS hI hp => does_val (x_move rfl (hS.get 1 rfl)) rfl) ?_
  refine .oy 15 32 rfl rfl c4 (fun a w hS hI hp => does_val (x_len (e := 43) rfl (by kernel_rfl) (hp.V 16 rfl rfl)) rfl) ?_
  refine .oy 15 32 rfl rfl c4 (fun a w hS hI hp => does_val (x_bin rfl (hp.V 17 rfl rfl) (rfl) (b_eql _ _ _ _ _ _)) rfl) ?_
  refine .pt 15 18 rfl rfl rfl c4 rfl ?_
  refine .asg 19 rfl rfl rfl ?_
  exact .nil
 clear hS
 intro bv bE hS bh hp
 replace hS := hS.nil
 have aX : sl _ 0 = .bool (decide ((aa.length : Int) = 0)) := hp 20 (by decide)
 have hS := hS.cons aX
 clear hp aX
 refine be _ _ ?_
 refine wp_ret ?_
 (try simp only [Exit.then, Exit.inBlock, Exit.jump, Exit.noGoto])
 exact bodyPost_ret (v := .bool (decide ((aa.length : Int) = 0))) (results_single rfl (Vals.at (hS.get 0 rfl) .nil)) hS.nodef ⟨rfl, bh.1⟩
end Go.Proofs.Ytiomlbkakiienaa.P
