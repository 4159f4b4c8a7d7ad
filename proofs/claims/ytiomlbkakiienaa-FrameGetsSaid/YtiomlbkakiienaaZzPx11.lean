/- Functions and loops of the given program as Lean functions, and that the code comes to what they say: written by this session's own program; Lean checks it. -/
import Derived.Test.YtiomlbkakiienaaZzPx0
import Derived.Test.YtiomlbkakiienaaZzPx7
import Derived.Test.YtiomlbkakiienaaZzPx8
import Derived.Test.YtiomlbkakiienaaZzPx9
import Derived.Test.YtiomlbkakiienaaZzPx10
namespace Go.Proofs.Ytiomlbkakiienaa.P
open Go.RowKit Go.Proofs.YtiomlbkakiienaaW.PrintWords Go.Proofs.YtiomlbkakiienaaW.PrintLast Go.Proofs.YtiomlbkakiienaaW.PrintMore
attribute [local go_sem] max2_int min2_int max_two min_two max_three min_three max_four min_four   -- for this text's walks alone
set_option linter.unusedVariables false
set_option linter.unusedSimpArgs false
def carillonref08_Get.l1 (k : Nat) : Nat → (List Int) → Int → (List (S43)) → Option (List (S43) × Int)
  | 0, _, _, _ => none
  | n1 + 1, y1_0, x1_1, y1_6 => if x1_1 < (y1_0.length : Int) then (if (y1_6.length : Int) = 8 then (some ([], 7)) else (if (wrap64 ((y1_0.length : Int) - x1_1)) < 4 then (some ([], 2)) else ((carillonref01_Get.f k y1_0 x1_1 2).bind fun t1014 => ((carillonref01_Get.f k y1_0 (wrap64 (x1_1 + 2)) 2).bind fun t1018 => (if t1018.1 > (wrap64 ((wrap64 ((y1_0.length : Int) - x1_1)) - 4)) then (some ([], 2)) else (if (Int.tmod t1018.1 2) = 0 then (if 0 ≤ (wrap64 (x1_1 + 4)) then (if (wrap64 (x1_1 + 4)) ≤ (wrap64 ((wrap64 (x1_1 + 4)) + t1018.1)) then (if (wrap64 ((wrap64 (x1_1 + 4)) + t1018.1)) ≤ (y1_0.length : Int) then (if (y1_6.length + [(⟨t1014.1, strOfNums ((y1_0.take (wrap64 ((wrap64 (x1_1 + 4)) + t1018.1) : Int).toNat).drop (wrap64 (x1_1 + 4) : Int).toNat)⟩ : S43)].length) * 24 ≤ 140737488355328 then (carillonref08_Get.l1 k n1 y1_0 (wrap64 ((wrap64 (x1_1 + 4)) + t1018.1)) (y1_6 ++ [(⟨t1014.1, strOfNums ((y1_0.take (wrap64 ((wrap64 (x1_1 + 4)) + t1018.1) : Int).toNat).drop (wrap64 (x1_1 + 4) : Int).toNat)⟩ : S43)] : List S43)) else (none)) else (none)) else (none)) else (none)) else (some ([], 4)))))))) else (some (y1_6, 0))
def carillonref08_Get.f (k : Nat) (l0 : List Int) (a1 : Int) : Option (List (S43) × Int) := if a1 < 0 then (some ([], 1)) else (if a1 > (l0.length : Int) then (some ([], 1)) else (carillonref08_Get.l1 k k l0 a1 []))
open Go.Proofs.Ytiomlbkakiienaa.E in
theorem carillonref08_Get.flat43 : Flat k43 (fun x => [.int .i64 x.f0, .string x.f1]) := ⟨fun w x cs h => k43_open h, fun w base x => k43_mkM w base _ x⟩
open Go.Proofs.Ytiomlbkakiienaa.E in
set_option maxHeartbeats 60000000 in
set_option maxRecDepth 100000 in
theorem carillonref08_Get.calls (k : Nat) (A0 : Option Addr) (bc : Nat) (l0 : List Int) (a1 : Int) (r1 : List (S43)) (r2 : Int) (w : World) (HR0 : Kd.C (Kd.int .u8) w A0 l0.length l0) (HC0 : l0.length ≤ bc) (h : carillonref08_Get.f k l0 a1 = some (r1, r2)) :
    Calls Try.prog 33 #[.slice A0 l0.length bc, .int .i64 a1] w fun e w' => ∃ v0_ : Value, e = .returned (.tuple #[v0_, .int .i64 r2]) ∧ Kd.R k43 43 w' w.heap.size (fun _ => True) v0_ r1 ∧ Below w.heap.size w w' := by
 have H := h
 clear h
 unfold carillonref08_Get.f at H
 refine calls_of_wp (fn := Try.f33) (by kernel_rfl) rfl ?_
 have hS := St.enter #[.slice A0 l0.length bc, .int .i64 a1] 73 (by simp) [(0, .slice A0 l0.length bc), (1, .int .i64 a1)] (by simp)
 have bW := Below.refl w.heap.size w
 refine wp_seq_k (fun K1 cd => ?_)
 refine reg_seq (I := I1_ w) (ps := [IsV (.slice none 0 0), VI 0]) (by kernel_rfl) ?_ ?_ rfl hS bW ?_ ?_
 ·exact bs1
 ·exact .v (.v (.nil))
 ·refine .on rfl (fun a w hS hI hp => does_val (x_assign rfl (rfl)) rfl) ?_
  refine .on rfl (fun a w hS hI hp => does_val (x_assign rfl (rfl)) rfl) ?_
  exact .nil
 clear hS
 intro cA w3 hS bS hp
 clear hp
 refine cd _ _ ?_
 refine wp_seq_k (fun K4 ce => ?_)
 refine wp_seq_k (fun K5 bN => ?_)
 by_cases c1 : a1 < 0
 ·rw [if_pos c1] at H
  simp only [Option.some.injEq, Prod.mk.injEq] at H
  obtain ⟨rfl, rfl⟩ := H
  refine reg_seq (I := I2_ w w3) (ps := [VI a1, VB (decide (a1 < 0)), VB (decide (a1 < 0)), VU, VU, VU, VU, VB true]) (by kernel_rfl) ?_ ?_ rfl hS ⟨bS, (bR w3)⟩ ?_ ?_
  ·exact bs2
  ·exact .v (.v (.v (.v (.v (.v (.v (.v (.nil))))))))
  ·refine .ms 1 rfl rfl rfl ?_
   refine .on rfl (fun a w hS hI hp => does_val (x_bin rfl (hp.V 0 rfl rfl) (rfl) (b_lss _ _ _ _ _ _)) rfl) ?_
   refine .mv 1 rfl rfl rfl ?_
   iterate 4 refine .sn 2 13 rfl rfl ((decide_eq_true c1)) ?_
   refine .on rfl (fun a w hS hI hp => does_val (x_pickT rfl ((hp.V 2 rfl rfl).trans (bT (decide_eq_true c1))) (rfl)) rfl) ?_
   exact .nil
  clear hS
  intro cc w7 hS aZ hp
  have aN : sl _ 18 = .bool true := hp 7 (by decide)
  have hS := hS.cons aN
  clear hp aN
  refine bN _ _ ?_
  refine wp_cond_true ((hS.get 0 rfl).trans (bT rfl)) ?_
  refine wp_seq_k (fun K8 aS => ?_)
  refine reg_seq (I := I2_ w w7) (ps := [IsV (.slice none 0 0), VI 1]) (by kernel_rfl) ?_ ?_ rfl hS ⟨aZ.1, (bR w7)⟩ ?_ ?_
  ·exact bs2
  ·exact .v (.v (.nil))
  ·refine .on rfl (fun a w hS hI hp => does_val (x_assign rfl (rfl)) rfl) ?_
   refine .on rfl (fun a w hS hI hp => does_val (x_assign rfl (rfl)) rfl) ?_
   exact .nil
  clear hS
  intro bM bU hS aO hp
  replace hS := hS.nil
  have ag : sl _ 4 = .slice none 0 0 := hp 0 (by decide)
  have ah : sl _ 5 = .int .i64 1 := hp 1 (by decide)
  have hS := hS.cons ag
  have hS := hS.cons ah
  clear hp ag ah
  refine aS _ _ ?_
  refine wp_ret ?_
  (try simp only [Exit.then, Exit.inBlock, Exit.jump, Exit.noGoto])
  exact bodyPost_ret (v := .tuple #[.slice none 0 0, .int .i64 1]) (results_list (rs := [.tmp 4, .tmp 5]) rfl (by simp) (Vals.at (hS.get 1 rfl) (Vals.at (hS.get 0 rfl) .nil))) hS.nodef ⟨.slice none 0 0, rfl, Kd.R_nil _ _ _ _ _, aO.1⟩
 rw [if_neg c1] at H
 refine reg_seq (I := I2_ w w3) (ps := [VI a1, VB (decide (a1 < 0)), VB (decide (a1 < 0)), VI a1, IsV (.slice A0 l0.length bc), VI (l0.length : Int), VB (decide (a1 > (l0.length : Int))), VB (decide (a1 > (l0.length : Int)))]) (by kernel_rfl) ?_ ?_ rfl hS ⟨bS, (bR w3)⟩ ?_ ?_
 ·exact bs2
 ·exact .v (.v (.v (.v (.v (.v (.v (.v (.nil))))))))
 ·refine .ms 1 rfl rfl rfl ?_
  refine .on rfl (fun a w hS hI hp => does_val (x_bin rfl (hp.V 0 rfl rfl) (rfl) (b_lss _ _ _ _ _ _)) rfl) ?_
  refine .mv 1 rfl rfl rfl ?_
  refine .oy 2 13 rfl rfl ((decide_eq_false c1)) (fun a w hS hI hp => does_val (x_move rfl (hS.get 1 rfl)) rfl) ?_
  refine .oy 2 13 rfl rfl ((decide_eq_false c1)) (fun a w hS hI hp => does_val (x_move rfl (hS.get 0 rfl)) rfl) ?_
  refine .oy 2 13 rfl rfl ((decide_eq_false c1)) (fun a w hS hI hp => does_val (x_len (e := 5) rfl (by kernel_rfl) (hp.V 4 rfl rfl)) rfl) ?_
  refine .oy 2 13 rfl rfl ((decide_eq_false c1)) (fun a w hS hI hp => does_val (x_bin rfl (hp.V 3 rfl rfl) (hp.V 5 rfl rfl) (b_gtr _ _ _ _ _ _)) rfl) ?_
  refine .on rfl (fun a w hS hI hp => does_val (x_pickF rfl ((hp.V 2 rfl rfl).trans (bF (decide_eq_false c1))) (hp.V 6 rfl rfl)) rfl) ?_
  exact .nil
 clear hS
 intro cc w7 hS aZ hp
 have aN : sl _ 18 = .bool (decide (a1 > (l0.length : Int))) := hp 7 (by decide)
 have hS := hS.cons aN
 clear hp aN
 refine bN _ _ ?_
 by_cases c2 : a1 > (l0.length : Int)
 ·rw [if_pos c2] at H
  simp only [Option.some.injEq, Prod.mk.injEq] at H
  obtain ⟨rfl, rfl⟩ := H
  refine wp_cond_true ((hS.get 0 rfl).trans (bT (decide_eq_true c2))) ?_
  refine wp_seq_k (fun K8 aS => ?_)
  refine reg_seq (I := I2_ w w7) (ps := [IsV (.slice none 0 0), VI 1]) (by kernel_rfl) ?_ ?_ rfl hS ⟨aZ.1, (bR w7)⟩ ?_ ?_
  ·exact bs2
  ·exact .v (.v (.nil))
  ·refine .on rfl (fun a w hS hI hp => does_val (x_assign rfl (rfl)) rfl) ?_
   refine .on rfl (fun a w hS hI hp => does_val (x_assign rfl (rfl)) rfl) ?_
   exact .nil
  clear hS
  intro bM bU hS aO hp
  replace hS := hS.nil
  have ag : sl _ 4 = .slice none 0 0 := hp 0 (by decide)
  have ah : sl _ 5 = .int .i64 1 := hp 1 (by decide)
  have hS := hS.cons ag
  have hS := hS.cons ah
  clear hp ag ah
  refine aS _ _ ?_
  refine wp_ret ?_
  (try simp only [Exit.then, Exit.inBlock, Exit.jump, Exit.noGoto])
  exact bodyPost_ret (v := .tuple #[.slice none 0 0, .int .i64 1]) (results_list (rs := [.tmp 4, .tmp 5]) rfl (by simp) (Vals.at (hS.get 1 rfl) (Vals.at (hS.get 0 rfl) .nil))) hS.nodef ⟨.slice none 0 0, rfl, Kd.R_nil _ _ _ _ _, aO.1⟩
 rw [if_neg c2] at H
 refine wp_cond_false ((hS.get 0 rfl).trans (bF (decide_eq_false c2))) ?_
 refine wp_skip ?_
 refine ce _ _ ?_
 refine wp_seq_k (fun K8 aS => ?_)
 refine reg_seq (I := I2_ w w7) (ps := [IsV (.slice none 0 0)]) (by kernel_rfl) ?_ ?_ rfl hS ⟨aZ.1, (bR w7)⟩ ?_ ?_
 ·exact bs2
 ·exact .v (.nil)
 ·refine .on rfl (fun a w hS hI hp => does_val (x_assign rfl (rfl)) rfl) ?_
  exact .nil
 clear hS
 intro bM bU hS aO hp
 replace hS := ((hS.nil).cons (hS.get 2 rfl)).cons (hS.get 1 rfl)
 have bO : sl _ 6 = .slice none 0 0 := hp 0 (by decide)
 have hS := hS.cons bO
 clear hp bO
 refine aS _ _ ?_
 refine wp_seq_k (fun cy bV => ?_)
 refine wp_block ?_
 replace hS := (((hS.nil).cons (hS.get 0 rfl)).cons (hS.get 2 rfl)).cons (hS.get 1 rfl)
 refine wp_loop_ghost (fun n_ a_ al => ∃ (ac : List Int) (aj : Option Addr) (ak : Nat) (ab : Int) (ae : List (S43)) (ai : Option Addr) (af : Nat), carillonref08_Get.l1 k n_ ac ab ae = some (r1, r2) ∧ St 73 [(0, .slice aj ac.length ak), (1, .int .i64 ab), (6, .slice ai ae.length af)] a_ ∧ Below w.heap.size w al ∧ ac.length ≤ ak ∧ Kd.C (Kd.int .u8) w aj ac.length ac ∧ ae.length ≤ af ∧ Kd.R k43 43 al w.heap.size (fun _ => True) (.slice ai ae.length af) ae) k ⟨l0, A0, bc, a1, [], none, 0, H, hS, aO.1, HC0, (HR0), (Nat.le_refl _), (Kd.R_nil _ _ _ _ _)⟩ ?_
 clear H hS
 rintro n1 cz al ⟨ac, aj, ak, ab, ae, ai, af, H, hS, a5, aC, ar, cr, aT⟩
 rcases n1 with _ | n1
 ·exact absurd H (by simp [carillonref08_Get.l1])
 rw [carillonref08_Get.l1] at H
 (try dsimp only at H)
 refine wp_seq_k (fun cj bd => ?_)
 refine wp_seq_k (fun ck be => ?_)
 refine reg_seq (I := I2_ w al) (ps := [VI ab, IsV (.slice aj ac.length ak), VI (ac.length : Int), VB (decide (ab < (ac.length : Int)))]) (by kernel_rfl) ?_ ?_ rfl hS ⟨a5, (bR al)⟩ ?_ ?_
 ·exact bs2
 ·exact .v (.v (.v (.v (.nil))))
 ·refine .ms 1 rfl rfl rfl ?_
  refine .ms 0 rfl rfl rfl ?_
  refine .on rfl (fun a w hS hI hp => does_val (x_len (e := 5) rfl (by kernel_rfl) (hp.V 1 rfl rfl)) rfl) ?_
  refine .on rfl (fun a w hS hI hp => does_val (x_bin rfl (hp.V 0 rfl rfl) (hp.V 2 rfl rfl) (b_lss _ _ _ _ _ _)) rfl) ?_
  exact .nil
 clear hS
 intro bX aD hS au hp
 have bo : sl _ 22 = .bool (decide (ab < (ac.length : Int))) := hp 3 (by decide)
 have hS := hS.cons bo
 clear hp bo
 refine be _ _ ?_
 by_cases c3 : ab < (ac.length : Int)
 rotate_left
 ·rw [if_neg c3] at H
  simp only [Option.some.injEq, Prod.mk.injEq] at H
  obtain ⟨rfl, rfl⟩ := H
  refine wp_cond_false ((hS.get 0 rfl).trans (bF (decide_eq_false c3))) ?_
  refine wp_exit ?_
  (try simp only [Exit.then, Exit.inBlock, reduceIte])
  refine bV _ _ ?_
  refine wp_seq_k (fun bD aI => ?_)
  refine reg_seq (I := I3_ w al aD) (ps := [IsV (.slice ai ae.length af), IsV (.slice ai ae.length af), VI 0]) (by kernel_rfl) ?_ ?_ rfl hS ⟨au.1, au.2, (bR aD)⟩ ?_ ?_
  ·exact bs3
  ·exact .v (.v (.v (.nil)))
  ·refine .ms 3 rfl rfl rfl ?_
   refine .asg 0 rfl rfl rfl ?_
   refine .on rfl (fun a w hS hI hp => does_val (x_assign rfl (rfl)) rfl) ?_
   exact .nil
  clear hS
  intro bY ct hS aU hp
  replace hS := hS.nil
  have ag : sl _ 4 = .slice ai ae.length af := hp 1 (by decide)
  have ah : sl _ 5 = .int .i64 0 := hp 2 (by decide)
  have hS := hS.cons ag
  have hS := hS.cons ah
  clear hp ag ah
  refine aI _ _ ?_
  refine wp_ret ?_
  (try simp only [Exit.then, Exit.inBlock, Exit.jump, Exit.noGoto])
  exact bodyPost_ret (v := .tuple #[.slice ai ae.length af, .int .i64 0]) (results_list (rs := [.tmp 4, .tmp 5]) rfl (by simp) (Vals.at (hS.get 1 rfl) (Vals.at (hS.get 0 rfl) .nil))) hS.nodef ⟨.slice ai ae.length af, rfl, Kd.R_lower (Kd.R_below aT aU.2.1) (Nat.le_refl _), aU.1⟩
 rw [if_pos c3] at H
 refine wp_cond_true ((hS.get 0 rfl).trans (bT (decide_eq_true c3))) ?_
 refine wp_skip ?_
 refine bd _ _ ?_
 refine wp_block ?_
 refine wp_seq_k (fun bD aI => ?_)
 refine wp_seq_k (fun cl bf => ?_)
 refine reg_seq (I := I3_ w al aD) (ps := [IsV (.slice ai ae.length af), VI (ae.length : Int), VB (decide ((ae.length : Int) = 8))]) (by kernel_rfl) ?_ ?_ rfl hS ⟨au.1, au.2, (bR aD)⟩ ?_ ?_
 ·exact bs3
 ·exact .v (.v (.v (.nil)))
 ·refine .ms 3 rfl rfl rfl ?_
  refine .on rfl (fun a w hS hI hp => does_val (x_len (e := 43) rfl (by kernel_rfl) (hp.V 0 rfl rfl)) rfl) ?_
  refine .on rfl (fun a w hS hI hp => does_val (x_bin rfl (hp.V 1 rfl rfl) (rfl) (b_eql _ _ _ _ _ _)) rfl) ?_
  exact .nil
 clear hS
 intro bZ aE hS av hp
 replace hS := (((hS.nil).cons (hS.get 3 rfl)).cons (hS.get 2 rfl)).cons (hS.get 1 rfl)
 have bp : sl _ 25 = .bool (decide ((ae.length : Int) = 8)) := hp 2 (by decide)
 have hS := hS.cons bp
 clear hp bp
 refine bf _ _ ?_
 by_cases c4 : (ae.length : Int) = 8
 ·rw [if_pos c4] at H
  simp only [Option.some.injEq, Prod.mk.injEq] at H
  obtain ⟨rfl, rfl⟩ := H
  refine wp_cond_true ((hS.get 0 rfl).trans (bT (decide_eq_true c4))) ?_
  refine wp_seq_k (fun bE aJ => ?_)
  refine reg_seq (I := I3_ w al aE) (ps := [IsV (.slice none 0 0), VI 7]) (by kernel_rfl) ?_ ?_ rfl hS ⟨av.1, av.2.1, (bR aE)⟩ ?_ ?_
  ·exact bs3
  ·exact .v (.v (.nil))
  ·refine .on rfl (fun a w hS hI hp => does_val (x_assign rfl (rfl)) rfl) ?_
   refine .on rfl (fun a w hS hI hp => does_val (x_assign rfl (rfl)) rfl) ?_
   exact .nil
  clear hS
  intro b0 cu hS bv hp
  replace hS := hS.nil
  have ag : sl _ 4 = .slice none 0 0 := hp 0 (by decide)
  have ah : sl _ 5 = .int .i64 7 := hp 1 (by decide)
  have hS := hS.cons ag
  have hS := hS.cons ah
  clear hp ag ah
  refine aJ _ _ ?_
  refine wp_ret ?_
  (try simp only [Exit.then, Exit.inBlock, Exit.jump, Exit.noGoto])
  exact bodyPost_ret (v := .tuple #[.slice none 0 0, .int .i64 7]) (results_list (rs := [.tmp 4, .tmp 5]) rfl (by simp) (Vals.at (hS.get 1 rfl) (Vals.at (hS.get 0 rfl) .nil))) hS.nodef ⟨.slice none 0 0, rfl, Kd.R_nil _ _ _ _ _, bv.1⟩
 rw [if_neg c4] at H
 refine wp_cond_false ((hS.get 0 rfl).trans (bF (decide_eq_false c4))) ?_
 refine wp_skip ?_
 refine aI _ _ ?_
 refine wp_seq_k (fun bE aJ => ?_)
 refine wp_seq_k (fun cm bg => ?_)
 refine reg_seq (I := I3_ w al aE) (ps := [IsV (.slice aj ac.length ak), VI (ac.length : Int), VI ab, VI (wrap64 ((ac.length : Int) - ab)), VB (decide ((wrap64 ((ac.length : Int) - ab)) < 4))]) (by kernel_rfl) ?_ ?_ rfl hS ⟨av.1, av.2.1, (bR aE)⟩ ?_ ?_
 ·exact bs3
 ·exact .v (.v (.v (.v (.v (.nil)))))
 ·refine .ms 1 rfl rfl rfl ?_
  refine .on rfl (fun a w hS hI hp => does_val (x_len (e := 5) rfl (by kernel_rfl) (hp.V 0 rfl rfl)) rfl) ?_
  refine .ms 2 rfl rfl rfl ?_
  refine .on rfl (fun a w hS hI hp => does_val (x_bin rfl (hp.V 1 rfl rfl) (hp.V 2 rfl rfl) (b_sub _ _ _ _ _)) rfl) ?_
  refine .on rfl (fun a w hS hI hp => does_val (x_bin rfl (hp.V 3 rfl rfl) (rfl) (b_lss _ _ _ _ _ _)) rfl) ?_
  exact .nil
 clear hS
 intro b1 aF hS aw hp
 replace hS := (((hS.nil).cons (hS.get 3 rfl)).cons (hS.get 2 rfl)).cons (hS.get 1 rfl)
 have bq : sl _ 30 = .bool (decide ((wrap64 ((ac.length : Int) - ab)) < 4)) := hp 4 (by decide)
 have hS := hS.cons bq
 clear hp bq
 refine bg _ _ ?_
 by_cases c5 : (wrap64 ((ac.length : Int) - ab)) < 4
 ·rw [if_pos c5] at H
  simp only [Option.some.injEq, Prod.mk.injEq] at H
  obtain ⟨rfl, rfl⟩ := H
  refine wp_cond_true ((hS.get 0 rfl).trans (bT (decide_eq_true c5))) ?_
  refine wp_seq_k (fun bG aK => ?_)
  refine reg_seq (I := I3_ w al aF) (ps := [IsV (.slice none 0 0), VI 2]) (by kernel_rfl) ?_ ?_ rfl hS ⟨aw.1, aw.2.1, (bR aF)⟩ ?_ ?_
  ·exact bs3
  ·exact .v (.v (.nil))
  ·refine .on rfl (fun a w hS hI hp => does_val (x_assign rfl (rfl)) rfl) ?_
   refine .on rfl (fun a w hS hI hp => does_val (x_assign rfl (rfl)) rfl) ?_
   exact .nil
  clear hS
  intro b2 cv hS bw hp
  replace hS := hS.nil
  have ag : sl _ 4 = .slice none 0 0 := hp 0 (by decide)
  have ah : sl _ 5 = .int .i64 2 := hp 1 (by decide)
  have hS := hS.cons ag
  have hS := hS.cons ah
  clear hp ag ah
  refine aK _ _ ?_
  refine wp_ret ?_
  (try simp only [Exit.then, Exit.inBlock, Exit.jump, Exit.noGoto])
  exact bodyPost_ret (v := .tuple #[.slice none 0 0, .int .i64 2]) (results_list (rs := [.tmp 4, .tmp 5]) rfl (by simp) (Vals.at (hS.get 1 rfl) (Vals.at (hS.get 0 rfl) .nil))) hS.nodef ⟨.slice none 0 0, rfl, Kd.R_nil _ _ _ _ _, bw.1⟩
 rw [if_neg c5] at H
 obtain ⟨bJ, a7, H⟩ := Option.bind_eq_some_iff.mp H
 obtain ⟨ad, an⟩ := bJ
 (try dsimp only at H)
 obtain ⟨bK, a8, H⟩ := Option.bind_eq_some_iff.mp H
 obtain ⟨aa, ao⟩ := bK
 (try dsimp only at H)
 refine wp_cond_false ((hS.get 0 rfl).trans (bF (decide_eq_false c5))) ?_
 refine wp_skip ?_
 refine aJ _ _ ?_
 refine wp_seq_k (fun bG aK => ?_)
 refine reg_seq (I := I3_ w al aF) (ps := [IsV (.slice aj ac.length ak), VI ab, IsV (.tuple #[.int .i64 ad, .bool an]), IsV (.tuple #[.int .i64 ad, .bool an]), VI ad, VB an, VI ad, VB an]) (by kernel_rfl) ?_ ?_ rfl hS ⟨aw.1, aw.2.1, (bR aF)⟩ ?_ ?_
 ·exact bs3
 ·exact .v (.v (.v (.v (.v (.v (.v (.v (.nil))))))))
 ·refine .ms 1 rfl rfl rfl ?_
  refine .ms 2 rfl rfl rfl ?_
  refine .on rfl (fun a w hS hI hp => does_call (by kernel_rfl) (ar3 (hp.V 0 rfl rfl) (hp.V 1 rfl rfl) (rfl)) ((carillonref01_Get.calls k _ _ ac ab 2 ad an _ (Kd.C_below ar hI.1) aC a7).mono fun _ _ h => ⟨_, h.1, h.2.below, rfl⟩)) ?_
  refine .mv 2 rfl rfl rfl ?_
  iterate 2 refine .on rfl (fun a w hS hI hp => does_val (x_extract rfl (hp.V 3 rfl rfl) rfl) rfl) ?_
  refine .asg 4 rfl rfl rfl ?_
  refine .asg 5 rfl rfl rfl ?_
  exact .nil
 clear hS
 intro b3 a0 hS aV hp
 replace hS := (((hS.nil).cons (hS.get 3 rfl)).cons (hS.get 2 rfl)).cons (hS.get 1 rfl)
 have bP : sl _ 7 = .int .i64 ad := hp 6 (by decide)
 have hS := hS.cons bP
 clear hp bP
 refine aK _ _ ?_
 refine wp_seq_k (fun cn bh => ?_)
 refine reg_seq (I := I3_ w al a0) (ps := [IsV (.slice aj ac.length ak), VI ab, VI (wrap64 (ab + 2)), IsV (.tuple #[.int .i64 aa, .bool ao]), IsV (.tuple #[.int .i64 aa, .bool ao]), VI aa, VB ao, VI aa, VB ao]) (by kernel_rfl) ?_ ?_ rfl hS ⟨aV.1, aV.2.1, (bR a0)⟩ ?_ ?_
 ·exact bs3
 ·exact .v (.v (.v (.v (.v (.v (.v (.v (.v (.nil)))))))))
 ·refine .ms 1 rfl rfl rfl ?_
  refine .ms 2 rfl rfl rfl ?_
  refine .on rfl (fun a w hS hI hp => does_val (x_bin rfl (hp.V 1 rfl rfl) (rfl) (b_add _ _ _ _ _)) rfl) ?_
  refine .on rfl (fun a w hS hI hp => does_call (by kernel_rfl) (ar3 (hp.V 0 rfl rfl) (hp.V 2 rfl rfl) (rfl)) ((carillonref01_Get.calls k _ _ ac (wrap64 (ab + 2)) 2 aa ao _ (Kd.C_below ar hI.1) aC a8).mono fun _ _ h => ⟨_, h.1, h.2.below, rfl⟩)) ?_
  refine .mv 3 rfl rfl rfl ?_
  iterate 2 refine .on rfl (fun a w hS hI hp => does_val (x_extract rfl (hp.V 4 rfl rfl) rfl) rfl) ?_
  refine .asg 5 rfl rfl rfl ?_
  refine .asg 6 rfl rfl rfl ?_
  exact .nil
 clear hS
 intro b4 a2 hS aW hp
 have bQ : sl _ 9 = .int .i64 aa := hp 7 (by decide)
 have hS := hS.cons bQ
 clear hp bQ
 refine bh _ _ ?_
 refine wp_seq_k (fun co bi => ?_)
 refine wp_seq_k (fun cp bj => ?_)
 refine reg_seq (I := I3_ w al a2) (ps := [VI aa, IsV (.slice aj ac.length ak), VI (ac.length : Int), VI ab, VI (wrap64 ((ac.length : Int) - ab)), VI (wrap64 ((wrap64 ((ac.length : Int) - ab)) - 4)), VB (decide (aa > (wrap64 ((wrap64 ((ac.length : Int) - ab)) - 4))))]) (by kernel_rfl) ?_ ?_ rfl hS ⟨aW.1, aW.2.1, (bR a2)⟩ ?_ ?_
 ·exact bs3
 ·exact .v (.v (.v (.v (.v (.v (.v (.nil)))))))
 ·refine .ms 0 rfl rfl rfl ?_
  refine .ms 2 rfl rfl rfl ?_
  refine .on rfl (fun a w hS hI hp => does_val (x_len (e := 5) rfl (by kernel_rfl) (hp.V 1 rfl rfl)) rfl) ?_
  refine .ms 3 rfl rfl rfl ?_
  refine .on rfl (fun a w hS hI hp => does_val (x_bin rfl (hp.V 2 rfl rfl) (hp.V 3 rfl rfl) (b_sub _ _ _ _ _)) rfl) ?_
  refine .on rfl (fun a w hS hI hp => does_val (x_bin rfl (hp.V 4 rfl rfl) (rfl) (b_sub _ _ _ _ _)) rfl) ?_
  refine .on rfl (fun a w hS hI hp => does_val (x_bin rfl (hp.V 0 rfl rfl) (hp.V 5 rfl rfl) (b_gtr _ _ _ _ _ _)) rfl) ?_
  exact .nil
 clear hS
 intro b5 aG hS ax hp
 have br : sl _ 50 = .bool (decide (aa > (wrap64 ((wrap64 ((ac.length : Int) - ab)) - 4)))) := hp 6 (by decide)
 have hS := hS.cons br
 clear hp br
 refine bj _ _ ?_
 by_cases c6 : aa > (wrap64 ((wrap64 ((ac.length : Int) - ab)) - 4))
 ·rw [if_pos c6] at H
  simp only [Option.some.injEq, Prod.mk.injEq] at H
  obtain ⟨rfl, rfl⟩ := H
  refine wp_cond_true ((hS.get 0 rfl).trans (bT (decide_eq_true c6))) ?_
  refine wp_seq_k (fun bH aL => ?_)
  refine reg_seq (I := I3_ w al aG) (ps := [IsV (.slice none 0 0), VI 2]) (by kernel_rfl) ?_ ?_ rfl hS ⟨ax.1, ax.2.1, (bR aG)⟩ ?_ ?_
  ·exact bs3
  ·exact .v (.v (.nil))
  ·refine .on rfl (fun a w hS hI hp => does_val (x_assign rfl (rfl)) rfl) ?_
   refine .on rfl (fun a w hS hI hp => does_val (x_assign rfl (rfl)) rfl) ?_
   exact .nil
  clear hS
  intro b6 cw hS bx hp
  replace hS := hS.nil
  have ag : sl _ 4 = .slice none 0 0 := hp 0 (by decide)
  have ah : sl _ 5 = .int .i64 2 := hp 1 (by decide)
  have hS := hS.cons ag
  have hS := hS.cons ah
  clear hp ag ah
  refine aL _ _ ?_
  refine wp_ret ?_
  (try simp only [Exit.then, Exit.inBlock, Exit.jump, Exit.noGoto])
  exact bodyPost_ret (v := .tuple #[.slice none 0 0, .int .i64 2]) (results_list (rs := [.tmp 4, .tmp 5]) rfl (by simp) (Vals.at (hS.get 1 rfl) (Vals.at (hS.get 0 rfl) .nil))) hS.nodef ⟨.slice none 0 0, rfl, Kd.R_nil _ _ _ _ _, bx.1⟩
 rw [if_neg c6] at H
 refine wp_cond_false ((hS.get 0 rfl).trans (bF (decide_eq_false c6))) ?_
 refine wp_skip ?_
 refine bi _ _ ?_
 refine wp_seq_k (fun bH aL => ?_)
 refine wp_seq_k (fun cq bk => ?_)
 refine reg_seq (I := I3_ w al aG) (ps := [VI aa, VI (Int.tmod aa 2), VB (!decide ((Int.tmod aa 2) = 0))]) (by kernel_rfl) ?_ ?_ rfl hS ⟨ax.1, ax.2.1, (bR aG)⟩ ?_ ?_
 ·exact bs3
 ·exact .v (.v (.v (.nil)))
 ·refine .ms 1 rfl rfl rfl ?_
  refine .on rfl (fun a w hS hI hp => does_val (x_bin rfl (hp.V 0 rfl rfl) (rfl) (b_rem _ _ _ _ _ _ (by decide))) rfl) ?_
  refine .on rfl (fun a w hS hI hp => does_val (x_bin rfl (hp.V 1 rfl rfl) (rfl) (b_neq _ _ _ _ _ _)) rfl) ?_
  exact .nil
 clear hS
 intro b7 am hS ay hp
 replace hS := (((((hS.nil).cons (hS.get 5 rfl)).cons (hS.get 4 rfl)).cons (hS.get 3 rfl)).cons (hS.get 2 rfl)).cons (hS.get 1 rfl)
 have bs : sl _ 53 = .bool (!decide ((Int.tmod aa 2) = 0)) := hp 2 (by decide)
 have hS := hS.cons bs
 clear hp bs
 refine bk _ _ ?_
 by_cases c7 : (Int.tmod aa 2) = 0
 rotate_left
 ·rw [if_neg c7] at H
  simp only [Option.some.injEq, Prod.mk.injEq] at H
  obtain ⟨rfl, rfl⟩ := H
  refine wp_cond_true ((hS.get 0 rfl).trans (bT (congrArg (!·) (decide_eq_false c7)))) ?_
  refine wp_seq_k (fun bI aM => ?_)
  refine reg_seq (I := I3_ w al am) (ps := [IsV (.slice none 0 0), VI 4]) (by kernel_rfl) ?_ ?_ rfl hS ⟨ay.1, ay.2.1, (bR am)⟩ ?_ ?_
  ·exact bs3
  ·exact .v (.v (.nil))
  ·refine .on rfl (fun a w hS hI hp => does_val (x_assign rfl (rfl)) rfl) ?_
   refine .on rfl (fun a w hS hI hp => does_val (x_assign rfl (rfl)) rfl) ?_
   exact .nil
  clear hS
  intro a9 aH hS az hp
  replace hS := hS.nil
  have ag : sl _ 4 = .slice none 0 0 := hp 0 (by decide)
  have ah : sl _ 5 = .int .i64 4 := hp 1 (by decide)
  have hS := hS.cons ag
  have hS := hS.cons ah
  clear hp ag ah
  refine aM _ _ ?_
  refine wp_ret ?_
  (try simp only [Exit.then, Exit.inBlock, Exit.jump, Exit.noGoto])
  exact bodyPost_ret (v := .tuple #[.slice none 0 0, .int .i64 4]) (results_list (rs := [.tmp 4, .tmp 5]) rfl (by simp) (Vals.at (hS.get 1 rfl) (Vals.at (hS.get 0 rfl) .nil))) hS.nodef ⟨.slice none 0 0, rfl, Kd.R_nil _ _ _ _ _, az.1⟩
 rw [if_pos c7] at H
 by_cases c8 : 0 ≤ (wrap64 (ab + 4))
 rotate_left
 ·rw [if_neg c8] at H
  exact absurd H (by simp)
 rw [if_pos c8] at H
 by_cases c9 : (wrap64 (ab + 4)) ≤ (wrap64 ((wrap64 (ab + 4)) + aa))
 rotate_left
 ·rw [if_neg c9] at H
  exact absurd H (by simp)
 rw [if_pos c9] at H
 by_cases ba : (wrap64 ((wrap64 (ab + 4)) + aa)) ≤ (ac.length : Int)
 rotate_left
 ·rw [if_neg ba] at H
  exact absurd H (by simp)
 rw [if_pos ba] at H
 by_cases bb : (ae.length + [(⟨ad, strOfNums ((ac.take (wrap64 ((wrap64 (ab + 4)) + aa) : Int).toNat).drop (wrap64 (ab + 4) : Int).toNat)⟩ : S43)].length) * 24 ≤ 140737488355328
 rotate_left
 ·rw [if_neg bb] at H
  exact absurd H (by simp)
 rw [if_pos bb] at H
 refine wp_cond_false ((hS.get 0 rfl).trans (bF (congrArg (!·) (decide_eq_true c7)))) ?_
 refine wp_skip ?_
 refine aL _ _ ?_
 refine wp_seq_k (fun bI aM => ?_)
 refine reg_seq_tail 13 (I := I3_ w al am) (ps := [IsV (.slice ai ae.length af), VI ad, IsV (.slice aj ac.length ak), VI ab, VI (wrap64 (ab + 4)), VI ab, VI (wrap64 (ab + 4)), VI aa, VI (wrap64 ((wrap64 (ab + 4)) + aa)), IsC (Kd.int .u8) ((ac.take (wrap64 ((wrap64 (ab + 4)) + aa) : Int).toNat).drop (wrap64 (ab + 4) : Int).toNat), IsV (.string (strOfNums ((ac.take (wrap64 ((wrap64 (ab + 4)) + aa) : Int).toNat).drop (wrap64 (ab + 4) : Int).toNat))), IsV (.agg #[.int .i64 ad, .string (strOfNums ((ac.take (wrap64 ((wrap64 (ab + 4)) + aa) : Int).toNat).drop (wrap64 (ab + 4) : Int).toNat))]), IsR k43 43 am.heap.size [(⟨ad, strOfNums ((ac.take (wrap64 ((wrap64 (ab + 4)) + aa) : Int).toNat).drop (wrap64 (ab + 4) : Int).toNat)⟩ : S43)]]) (by kernel_rfl) ?_ ?_ rfl hS ⟨ay.1, ay.2.1, (bR am)⟩ ?_ ?_
 ·exact bs3
 ·exact .v (.v (.v (.v (.v (.v (.v (.v (.v (.cons (Stays.c _ _) (.v (.v (.cons (Stays.r _ _ _ _) (.nil)))))))))))))
 ·refine .ms 5 rfl rfl rfl ?_
  refine .ms 2 rfl rfl rfl ?_
  refine .ms 3 rfl rfl rfl ?_
  refine .ms 4 rfl rfl rfl ?_
  refine .on rfl (fun a w hS hI hp => does_val (x_bin rfl (hp.V 3 rfl rfl) (rfl) (b_add _ _ _ _ _)) rfl) ?_
  refine .ms 4 rfl rfl rfl ?_
  refine .on rfl (fun a w hS hI hp => does_val (x_bin rfl (hp.V 5 rfl rfl) (rfl) (b_add _ _ _ _ _)) rfl) ?_
  refine .ms 1 rfl rfl rfl ?_
  refine .on rfl (fun a w hS hI hp => does_val (x_bin rfl (hp.V 6 rfl rfl) (hp.V 7 rfl rfl) (b_add _ _ _ _ _)) rfl) ?_
  refine .on rfl (fun a w hS hI hp => does_cut (i := wrap64 (ab + 4)) (j := wrap64 ((wrap64 (ab + 4)) + aa)) rfl (e := 5) (by kernel_rfl) (by kernel_rfl) (hp.V 2 rfl rfl) (.inr ⟨_, rfl, (hp.V 4 rfl rfl)⟩) (.inr ⟨_, rfl, (hp.V 8 rfl rfl)⟩) c8 c9 ba aC ((Kd.C_below ar hI.1))) ?_
  refine .on rfl (fun a w hS hI hp => (hp.V 9 rfl rfl).elim fun A_ h_ => h_.elim fun c_ h_ => h_.elim fun hv_ h_ => h_.elim fun hl_ hc_ => does_val (x_conv rfl hv_ (Kd.C_string (by kernel_rfl) (e := 5) (by kernel_rfl) (by kernel_rfl) hc_)) rfl) ?_
  refine .on rfl (fun a w hS hI hp => does_val (x_build (vs := [(0, .int .i64 ad), (1, .string (strOfNums ((ac.take (wrap64 ((wrap64 (ab + 4)) + aa) : Int).toNat).drop (wrap64 (ab + 4) : Int).toNat)))]) rfl (by rw [Array.toList_map]; exact (show [(0, a.eval (.tmp 55)), (1, a.eval (.tmp 64))] = _ from (li_cons (hp.V 1 rfl rfl) (li_cons (hp.V 10 rfl rfl) rfl)))) (by kernel_rfl)) rfl) ?_
  refine .on rfl (fun a w hS hI hp => does_litT carillonref08_Get.flat43 am.heap.size 29 43 _ [(0, .agg #[.int .i64 ad, .string (strOfNums ((ac.take (wrap64 ((wrap64 (ab + 4)) + aa) : Int).toNat).drop (wrap64 (ab + 4) : Int).toNat))])] (⟨ad, strOfNums ((ac.take (wrap64 ((wrap64 (ab + 4)) + aa) : Int).toNat).drop (wrap64 (ab + 4) : Int).toNat)⟩ : S43) rfl (by kernel_rfl) (by rw [Array.toList_map]; exact (show [(0, a.eval (.tmp 65))] = _ from (li_cons (hp.V 11 rfl rfl) rfl))) (by kernel_rfl) (hI.2.2).size) ?_
  exact .nil
 clear hS
 intro a9 aH hS az hp
 replace hS := ((((hS.nil).cons (hS.get 5 rfl)).cons (hS.get 4 rfl)).cons (hS.get 3 rfl)).cons (hS.get 1 rfl)
 have bt : sl _ 54 = .slice ai ae.length af := hp 0 (by decide)
 obtain ⟨bB, bC, aY, cg, bl⟩ := Kd.R_reads (show Kd.R k43 43 aH am.heap.size (fun _ => True) (sl _ 66) [(⟨ad, strOfNums ((ac.take (wrap64 ((wrap64 (ab + 4)) + aa) : Int).toNat).drop (wrap64 (ab + 4) : Int).toNat)⟩ : S43)] from hp 12 (by decide))
 have ch : Kd.R k43 43 aH am.heap.size (fun _ => True) (.slice bB [(⟨ad, strOfNums ((ac.take (wrap64 ((wrap64 (ab + 4)) + aa) : Int).toNat).drop (wrap64 (ab + 4) : Int).toNat)⟩ : S43)].length bC) [(⟨ad, strOfNums ((ac.take (wrap64 ((wrap64 (ab + 4)) + aa) : Int).toNat).drop (wrap64 (ab + 4) : Int).toNat)⟩ : S43)] := aY ▸ (hp 12 (by decide))
 have hS := hS.cons bt
 have hS := hS.cons aY
 clear hp bt aY
 show wpList _ _ _ [_, _] _ _
 refine list_step rfl (does_moreT carillonref08_Get.flat43 (W := w) (.tmp 54) (.tmp 66) 29 43 (.agg #[(.int .i64 0), (.string ⟨#[]⟩)]) 24 rfl (by kernel_rfl) (by kernel_rfl) rfl (by decide) (by decide) _ ae [(⟨ad, strOfNums ((ac.take (wrap64 ((wrap64 (ab + 4)) + aa) : Int).toNat).drop (wrap64 (ab + 4) : Int).toNat)⟩ : S43)] _ _ _ (hS.get 1 rfl) (hS.get 0 rfl) (Kd.R_below aT az.2.1) (Kd.C_below bl (bR aH)) az.1 bb) ?_
 rintro ci a3 ⟨hb, hr, hk⟩
 clear hk
 have aP := hb
 replace hS := (((hS.nil).cons (hS.get 4 rfl)).cons (hS.get 3 rfl)).cons (hS.get 2 rfl)
 obtain ⟨ap, aq, rfl, bm, cf⟩ := Kd.R_reads hr
 have bn := hr
 clear hr
 refine hS.next (v := .slice ap ((ae ++ [(⟨ad, strOfNums ((ac.take (wrap64 ((wrap64 (ab + 4)) + aa) : Int).toNat).drop (wrap64 (ab + 4) : Int).toNat)⟩ : S43)] : List S43).length) aq) (d := 67) rfl (by decide) (by rfl) ?_
 clear hS
 intro b8 hS
 refine list_step rfl (R := fun v w' => Below _ _ w' ∧ (IsV (.slice ap ((ae ++ [(⟨ad, strOfNums ((ac.take (wrap64 ((wrap64 (ab + 4)) + aa) : Int).toNat).drop (wrap64 (ab + 4) : Int).toNat)⟩ : S43)] : List S43).length) aq)) v w') (does_val (x_assign rfl (hS.get 0 rfl)) rfl) ?_
 rintro bz a4 ⟨hb, he⟩
 have aQ := below_step aP hb
 have aA := below_step (bR a3) hb
 obtain rfl : bz = .slice ap ((ae ++ [(⟨ad, strOfNums ((ac.take (wrap64 ((wrap64 (ab + 4)) + aa) : Int).toNat).drop (wrap64 (ab + 4) : Int).toNat)⟩ : S43)] : List S43).length) aq := he
 refine hS.next (v := .slice ap ((ae ++ [(⟨ad, strOfNums ((ac.take (wrap64 ((wrap64 (ab + 4)) + aa) : Int).toNat).drop (wrap64 (ab + 4) : Int).toNat)⟩ : S43)] : List S43).length) aq) (d := 6) rfl (by decide) (by rfl) ?_
 clear hS
 intro b9 hS
 refine wpList_nil ?_
 refine aM _ _ ?_
 refine reg_seq_tail 4 (I := I3_ w a3 a4) (ps := [VI ab, VI (wrap64 (ab + 4)), VI aa, VI (wrap64 ((wrap64 (ab + 4)) + aa))]) (by kernel_rfl) ?_ ?_ rfl hS ⟨aQ, aA, (bR a4)⟩ ?_ ?_
 ·exact bs3
 ·exact .v (.v (.v (.v (.nil))))
 ·refine .ms 4 rfl rfl rfl ?_
  refine .on rfl (fun a w hS hI hp => does_val (x_bin rfl (hp.V 0 rfl rfl) (rfl) (b_add _ _ _ _ _)) rfl) ?_
  refine .ms 2 rfl rfl rfl ?_
  refine .on rfl (fun a w hS hI hp => does_val (x_bin rfl (hp.V 1 rfl rfl) (hp.V 2 rfl rfl) (b_add _ _ _ _ _)) rfl) ?_
  exact .nil
 clear hS
 intro ca bL hS aX hp
 replace hS := (((hS.nil).cons (hS.get 4 rfl)).cons (hS.get 3 rfl)).cons (hS.get 0 rfl)
 have bu : sl _ 71 = .int .i64 (wrap64 ((wrap64 (ab + 4)) + aa)) := hp 3 (by decide)
 have hS := hS.cons bu
 clear hp bu
 show wpList _ _ _ [_] _ _
 refine list_step rfl (R := fun v w' => Below _ _ w' ∧ (VI (wrap64 ((wrap64 (ab + 4)) + aa))) v w') (does_val (x_assign rfl (hS.get 0 rfl)) rfl) ?_
 rintro bA cx ⟨hb, he⟩
 have aR := below_step aX.1 hb
 have aB := below_step aX.2.1 hb
 have a6 := below_step (bR bL) hb
 obtain rfl : bA = .int .i64 (wrap64 ((wrap64 (ab + 4)) + aa)) := he
 replace hS := (((hS.nil).cons (hS.get 2 rfl)).cons (hS.get 1 rfl)).cons (hS.get 0 rfl)
 refine hS.next (v := .int .i64 (wrap64 ((wrap64 (ab + 4)) + aa))) (d := 1) rfl (by decide) (by rfl) ?_
 clear hS
 intro cb hS
 refine wpList_nil ?_
 replace hS := (((hS.nil).cons (hS.get 2 rfl)).cons (hS.get 0 rfl)).cons (hS.get 3 rfl)
 (try simp only [Exit.then, Exit.inBlock])
 exact ⟨n1, Nat.lt_succ_self _, ac, aj, ak, wrap64 ((wrap64 (ab + 4)) + aa), (ae ++ [(⟨ad, strOfNums ((ac.take (wrap64 ((wrap64 (ab + 4)) + aa) : Int).toNat).drop (wrap64 (ab + 4) : Int).toNat)⟩ : S43)] : List S43), ap, aq, H, hS, aR, aC, (ar), bm, (Kd.R_lower (Kd.R_below bn aB) (Nat.le_refl _))⟩
def carillonref09_Get.f (k : Nat) (a0 : ByteArray) : Option (Int × Int × Int × Int × Int × Int × Int × Int × Int × Int × Int × Int × Int × Int × Int × Int × Int × Int × Int × Int × Int × Int × Int × List (S43) × Int) := if a0.size ≤ 9223372036854775807 then ((carillonref06_Get.f k (bytesOf a0)).bind fun t10 => (if t10.2.2.2.2.2.2.2.2.2.2.2.2.2.2.2.2.2.2.2.2.2.2.2.2 = 0 then ((carillonref07_Get.f k t10.1 t10.2.1 t10.2.2.1 t10.2.2.2.1 t10.2.2.2.2.1 t10.2.2.2.2.2.1 t10.2.2.2.2.2.2.1 t10.2.2.2.2.2.2.2.1 t10.2.2.2.2.2.2.2.2.1 t10.2.2.2.2.2.2.2.2.2.1 t10.2.2.2.2.2.2.2.2.2.2.1 t10.2.2.2.2.2.2.2.2.2.2.2.1 t10.2.2.2.2.2.2.2.2.2.2.2.2.1 t10.2.2.2.2.2.2.2.2.2.2.2.2.2.1 t10.2.2.2.2.2.2.2.2.2.2.2.2.2.2.1 t10.2.2.2.2.2.2.2.2.2.2.2.2.2.2.2.1 t10.2.2.2.2.2.2.2.2.2.2.2.2.2.2.2.2.1 t10.2.2.2.2.2.2.2.2.2.2.2.2.2.2.2.2.2.1 t10.2.2.2.2.2.2.2.2.2.2.2.2.2.2.2.2.2.2.1 t10.2.2.2.2.2.2.2.2.2.2.2.2.2.2.2.2.2.2.2.1 t10.2.2.2.2.2.2.2.2.2.2.2.2.2.2.2.2.2.2.2.2.1 t10.2.2.2.2.2.2.2.2.2.2.2.2.2.2.2.2.2.2.2.2.2.1 t10.2.2.2.2.2.2.2.2.2.2.2.2.2.2.2.2.2.2.2.2.2.2.1 (bytesOf a0) 34).bind fun t24 => (if t24.2.2.2.2.2.2.2.2.2.2.2.2.2.2.2.2.2.2.2.2.2.2.2.2 = 0 then ((carillonref08_Get.f k (bytesOf a0) t24.2.2.2.2.2.2.2.2.2.2.2.2.2.2.2.2.2.2.2.2.2.2.2.1).bind fun t38 => (if t38.2 = 0 then (some (t24.1, t24.2.1, t24.2.2.1, t24.2.2.2.1, t24.2.2.2.2.1, t24.2.2.2.2.2.1, t24.2.2.2.2.2.2.1, t24.2.2.2.2.2.2.2.1, t24.2.2.2.2.2.2.2.2.1, t24.2.2.2.2.2.2.2.2.2.1, t24.2.2.2.2.2.2.2.2.2.2.1, t24.2.2.2.2.2.2.2.2.2.2.2.1, t24.2.2.2.2.2.2.2.2.2.2.2.2.1, t24.2.2.2.2.2.2.2.2.2.2.2.2.2.1, t24.2.2.2.2.2.2.2.2.2.2.2.2.2.2.1, t24.2.2.2.2.2.2.2.2.2.2.2.2.2.2.2.1, t24.2.2.2.2.2.2.2.2.2.2.2.2.2.2.2.2.1, t24.2.2.2.2.2.2.2.2.2.2.2.2.2.2.2.2.2.1, t24.2.2.2.2.2.2.2.2.2.2.2.2.2.2.2.2.2.2.1, t24.2.2.2.2.2.2.2.2.2.2.2.2.2.2.2.2.2.2.2.1, t24.2.2.2.2.2.2.2.2.2.2.2.2.2.2.2.2.2.2.2.2.1, t24.2.2.2.2.2.2.2.2.2.2.2.2.2.2.2.2.2.2.2.2.2.1, t24.2.2.2.2.2.2.2.2.2.2.2.2.2.2.2.2.2.2.2.2.2.2.1, t38.1, 0)) else (some (0, 0, 0, 0, 0, 0, 0, 0, 0, 0, 0, 0, 0, 0, 0, 0, 0, 0, 0, 0, 0, 0, 0, [], t38.2)))) else (some (0, 0, 0, 0, 0, 0, 0, 0, 0, 0, 0, 0, 0, 0, 0, 0, 0, 0, 0, 0, 0, 0, 0, [], t24.2.2.2.2.2.2.2.2.2.2.2.2.2.2.2.2.2.2.2.2.2.2.2.2)))) else (some (0, 0, 0, 0, 0, 0, 0, 0, 0, 0, 0, 0, 0, 0, 0, 0, 0, 0, 0, 0, 0, 0, 0, [], t10.2.2.2.2.2.2.2.2.2.2.2.2.2.2.2.2.2.2.2.2.2.2.2.2)))) else (none)
abbrev carillonref09_Get.c0 (x0 x1 x2 x3 x4 x5 x6 x7 x8 x9 x10 x11 x12 x13 x14 x15 x16 x17 x18 x19 x20 x21 x22 : Int) : Array Value := #[.int .i64 x0, .int .i64 x1, .int .i64 x2, .int .i64 x3, .int .u64 x4, .int .i64 x5, .int .i64 x6, .int .i64 x7, .int .i64 x8, .int .u64 x9, .int .i64 x10, .int .i64 x11, .int .i64 x12, .int .i64 x13, .int .i64 x14, .int .i64 x15, .int .i64 x16, .int .u64 x17, .int .i64 x18, .int .i64 x19, .int .i64 x20, .int .i64 x21, .int .i64 x22]
abbrev carillonref09_Get.v1 (x0 x1 x2 x3 x4 x5 x6 x7 x8 x9 x10 x11 x12 x13 x14 x15 x16 x17 x18 x19 x20 x21 x22 : Int) : Value := .agg #[.int .i64 x0, .int .i64 x1, .int .i64 x2, .int .i64 x3, .int .u64 x4, .int .i64 x5, .int .i64 x6, .int .i64 x7, .int .i64 x8, .int .u64 x9, .int .i64 x10, .int .i64 x11, .int .i64 x12, .int .i64 x13, .int .i64 x14, .int .i64 x15, .int .i64 x16, .int .u64 x17, .int .i64 x18, .int .i64 x19, .int .i64 x20, .int .i64 x21, .int .i64 x22]
open Go.Proofs.Ytiomlbkakiienaa.E in
set_option maxHeartbeats 60000000 in
set_option maxRecDepth 100000 in
theorem carillonref09_Get.calls (k : Nat) (a0 : ByteArray) (r1 r2 r3 r4 r5 r6 r7 r8 r9 eu ev ew ex ey ez eA eB eC eD eE eF eG eH : Int) (eI : List (S43)) (eJ : Int) (w : World) (h : carillonref09_Get.f k a0 = some (r1, r2, r3, r4, r5, r6, r7, r8, r9, eu, ev, ew, ex, ey, ez, eA, eB, eC, eD, eE, eF, eG, eH, eI, eJ)) :
    Calls Try.prog 17 #[.string a0] w fun e w' => ∃ v0_ : Value, e = .returned (.tuple #[.agg #[.int .i64 r1, .int .i64 r2, .int .i64 r3, .int .i64 r4, .int .u64 r5, .int .i64 r6, .int .i64 r7, .int .i64 r8, .int .i64 r9, .int .u64 eu, .int .i64 ev, .int .i64 ew, .int .i64 ex, .int .i64 ey, .int .i64 ez, .int .i64 eA, .int .i64 eB, .int .u64 eC, .int .i64 eD, .int .i64 eE, .int .i64 eF, .int .i64 eG, .int .i64 eH], v0_, .int .i64 eJ]) ∧ Kd.R k43 43 w' w.heap.size (fun _ => True) v0_ eI ∧ Below w.heap.size w w' := by
 have H := h
 clear h
 unfold carillonref09_Get.f at H
 by_cases c1 : a0.size ≤ 9223372036854775807
 rotate_left
 ·rw [if_neg c1] at H
  exact absurd H (by simp)
 rw [if_pos c1] at H
 obtain ⟨dE, c6, H⟩ := Option.bind_eq_some_iff.mp H
 obtain ⟨a3, a4, a5, a6, a7, a8, a9, ba, bb, aL, aM, aN, aO, aP, aQ, aR, aS, aT, aU, aV, aW, aX, aY, aZ, aa⟩ := dE
 (try dsimp only at H)
 refine calls_of_wp (fn := Try.f17) (by kernel_rfl) rfl ?_
 have hS := St.enter #[.string a0] 47 (by simp) [(0, .string a0)] (by simp)
 have dw := Below.refl w.heap.size w
 refine wp_seq_k (fun K1 dA => ?_)
 refine reg_seq (I := I1_ w) (ps := [IsB (carillonref09_Get.c0 0 0 0 0 0 0 0 0 0 0 0 0 0 0 0 0 0 0 0 0 0 0 0) 28 w.heap.size, IsV (.slice none 0 0), VI 0]) (by kernel_rfl) ?_ ?_ rfl hS dw ?_ ?_
 ·exact bs1
 ·exact .cons (Stays.b _ _ _) (.v (.v (.nil)))
 ·refine .on rfl (fun a w hS hI hp => does_var (x_alloc rfl (by kernel_rfl)) (hI).size) ?_
  iterate 2 refine .on rfl (fun a w hS hI hp => does_val (x_assign rfl (rfl)) rfl) ?_
  exact .nil
 clear hS
 intro en w3 hS dD hp
 obtain ⟨g4, cU, br, ac⟩ := (show IsB _ 28 _ (sl _ 2) _ from hp 0 (by decide))
 have hS := hS.cons cU
 clear hp cU
 refine dA _ _ ?_
 refine wp_seq_k (fun K5 dB => ?_)
 refine reg_seq (I := I2_ w w3) (ps := [IsV (.string a0), IsC (Kd.int .u8) (bytesOf a0), IsC (Kd.int .u8) (bytesOf a0)]) (by kernel_rfl) ?_ ?_ rfl hS ⟨dD, (bR w3)⟩ ?_ ?_
 ·exact bs2
 ·exact .v (.cons (Stays.c _ _) (.cons (Stays.c _ _) (.nil)))
 ·refine .ms 1 rfl rfl rfl ?_
  refine .on rfl (fun a w hS hI hp => does_bytes (e := 5) rfl (by kernel_rfl) (by kernel_rfl) (by kernel_rfl) (hp.V 0 rfl rfl) c1) ?_
  refine .on rfl (fun a w hS hI hp => does_val (x_assign rfl rfl) (hp.V 1 rfl rfl)) ?_
  exact .nil
 clear hS
 intro eo w7 hS bp hp
 replace hS := (hS.nil).cons (hS.get 0 rfl)
 obtain ⟨A8, C8, cV, cr, cq⟩ := (show IsC (Kd.int .u8) (bytesOf a0) (sl _ 5) w7 from hp 2 (by decide))
 have hS := hS.cons cV
 clear hp cV
 refine dB _ _ ?_
 refine wp_seq_k (fun K9 dC => ?_)
 refine reg_seq_tail 7 (I := I3_ w w3 w7) (ps := [IsV (.slice A8 ((bytesOf a0).length) C8), IsV (.tuple #[(carillonref09_Get.v1 a3 a4 a5 a6 a7 a8 a9 ba bb aL aM aN aO aP aQ aR aS aT aU aV aW aX aY), .int .i64 aZ, .int .i64 aa]), IsV (.tuple #[(carillonref09_Get.v1 a3 a4 a5 a6 a7 a8 a9 ba bb aL aM aN aO aP aQ aR aS aT aU aV aW aX aY), .int .i64 aZ, .int .i64 aa]), IsV ((carillonref09_Get.v1 a3 a4 a5 a6 a7 a8 a9 ba bb aL aM aN aO aP aQ aR aS aT aU aV aW aX aY)), VI aZ, VI aa, IsB (carillonref09_Get.c0 0 0 0 0 0 0 0 0 0 0 0 0 0 0 0 0 0 0 0 0 0 0 0) 28 w7.heap.size]) (by kernel_rfl) ?_ ?_ rfl hS ⟨bp.1, bp.2, (bR w7)⟩ ?_ ?_
 ·exact bs3
 ·exact .v (.v (.v (.v (.v (.v (.cons (Stays.b _ _ _) (.nil)))))))
 ·refine .ms 0 rfl rfl rfl ?_
  refine .on rfl (fun a w hS hI hp => does_call (by kernel_rfl) (ar1 (hp.V 0 rfl rfl)) ((carillonref06_Get.calls k _ _ (bytesOf a0) a3 a4 a5 a6 a7 a8 a9 ba bb aL aM aN aO aP aQ aR aS aT aU aV aW aX aY aZ aa _ (Kd.C_below cq hI.2.2) cr c6).mono fun _ _ h => ⟨_, h.1, h.2, rfl⟩)) ?_
  refine .mv 1 rfl rfl rfl ?_
  iterate 3 refine .on rfl (fun a w hS hI hp => does_val (x_extract rfl (hp.V 2 rfl rfl) rfl) rfl) ?_
  refine .on rfl (fun a w hS hI hp => does_var (x_alloc rfl (by kernel_rfl)) (hI.2.2).size) ?_
  exact .nil
 clear hS
 intro dO dH hS bl hp
 have cu : sl _ 17 = (carillonref09_Get.v1 a3 a4 a5 a6 a7 a8 a9 ba bb aL aM aN aO aP aQ aR aS aT aU aV aW aX aY) := hp 3 (by decide)
 have cv : sl _ 18 = .int .i64 aZ := hp 4 (by decide)
 have cw : sl _ 19 = .int .i64 aa := hp 5 (by decide)
 obtain ⟨bs, cW, a2, bP⟩ := (show IsB _ 28 _ (sl _ 6) _ from hp 6 (by decide))
 have hS := hS.cons cu
 have hS := hS.cons cv
 have hS := hS.cons cw
 have hS := hS.cons cW
 clear hp cu cv cw cW
 show wpList _ _ _ [_, _, _] _ _
 refine list_step rfl (does_storeAll (g := bs) (cs := (carillonref09_Get.c0 a3 a4 a5 a6 a7 a8 a9 ba bb aL aM aN aO aP aQ aR aS aT aU aV aW aX aY)) rfl (hS.get 0 rfl) (hS.get 3 rfl) (((bR dH).block bs (blk_lt bP)).trans bP) (by kernel_rfl) (by kernel_rfl) (by kernel_rfl)) ?_
 rintro ee bg ⟨rfl, aw, hT⟩
 have cc := hT.below bl.1 (Nat.le_trans (bp.1).size a2) (bl.1).size
 have bW := hT.below bl.2.1 (Nat.le_trans (bp.2).size a2) (bl.2.1).size
 have bX := hT.below bl.2.2 a2 (bl.2.2).size
 clear hT
 refine list_step rfl (R := fun v w' => Below _ _ w' ∧ (VI aZ) v w') (does_val (x_assign rfl (hS.get 2 rfl)) rfl) ?_
 rintro dj dI ⟨hb, he⟩
 have cd := below_step cc hb
 have bY := below_step bW hb
 have bZ := below_step bX hb
 have bw := below_step (bR bg) hb
 obtain rfl : dj = .int .i64 aZ := he
 refine hS.next (v := .int .i64 aZ) (d := 7) rfl (by decide) (by rfl) ?_
 clear hS
 intro dP hS
 refine list_step rfl (R := fun v w' => Below _ _ w' ∧ (VI aa) v w') (does_val (x_assign rfl (hS.get 2 rfl)) rfl) ?_
 rintro dk cZ ⟨hb, he⟩
 have ce := below_step cd hb
 have b0 := below_step bY hb
 have b1 := below_step bZ hb
 have bx := below_step bw hb
 have cO := below_step (bR dI) hb
 obtain rfl : dk = .int .i64 aa := he
 refine hS.next (v := .int .i64 aa) (d := 8) rfl (by decide) (by rfl) ?_
 clear hS
 intro dQ hS
 refine wpList_nil ?_
 refine dC _ _ ?_
 refine wp_seq_k (fun eh db => ?_)
 refine wp_seq_k (fun ei dc => ?_)
 refine reg_seq (I := I5_ w w3 w7 bg cZ) (ps := [VI aa, VB (!decide (aa = 0))]) (by kernel_rfl) ?_ ?_ rfl hS ⟨ce, b0, b1, bx, (bR cZ)⟩ ?_ ?_
 ·exact bs5
 ·exact .v (.v (.nil))
 ·refine .ms 0 rfl rfl rfl ?_
  refine .on rfl (fun a w hS hI hp => does_val (x_bin rfl (hp.V 0 rfl rfl) (rfl) (b_neq _ _ _ _ _ _)) rfl) ?_
  exact .nil
 clear hS
 intro dR bf hS ay hp
 replace hS := ((((hS.nil).cons (hS.get 7 rfl)).cons (hS.get 6 rfl)).cons (hS.get 2 rfl)).cons (hS.get 0 rfl)
 have cx : sl _ 21 = .bool (!decide (aa = 0)) := hp 1 (by decide)
 have hS := hS.cons cx
 clear hp cx
 refine dc _ _ ?_
 by_cases c2 : aa = 0
 rotate_left
 ·rw [if_neg c2] at H
  simp only [Option.some.injEq, Prod.mk.injEq] at H
  obtain ⟨rfl, rfl, rfl, rfl, rfl, rfl, rfl, rfl, rfl, rfl, rfl, rfl, rfl, rfl, rfl, rfl, rfl, rfl, rfl, rfl, rfl, rfl, rfl, rfl, rfl⟩ := H
  refine wp_cond_true ((hS.get 0 rfl).trans (bT (congrArg (!·) (decide_eq_false c2)))) ?_
  refine wp_seq_k (fun dx b8 => ?_)
  refine reg_seq_tail 2 (I := I5_ w w3 w7 bg bf) (ps := [IsV ((carillonref09_Get.v1 0 0 0 0 0 0 0 0 0 0 0 0 0 0 0 0 0 0 0 0 0 0 0)), VI aa]) (by kernel_rfl) ?_ ?_ rfl hS ⟨ay.1, ay.2.1, ay.2.2.1, ay.2.2.2.1, (bR bf)⟩ ?_ ?_
  ·exact bs5
  ·exact .v (.v (.nil))
  ·refine .on rfl (fun a w hS hI hp => does_val (x_build (vs := []) rfl (by rw [Array.toList_map]; exact (show [] = _ from rfl)) (by kernel_rfl)) rfl) ?_
   refine .ms 1 rfl rfl rfl ?_
   exact .nil
  clear hS
  intro dS ep hS bv hp
  replace hS := (hS.nil).cons (hS.get 4 rfl)
  have cy : sl _ 22 = (carillonref09_Get.v1 0 0 0 0 0 0 0 0 0 0 0 0 0 0 0 0 0 0 0 0 0 0 0) := hp 0 (by decide)
  have cz : sl _ 23 = .int .i64 aa := hp 1 (by decide)
  have hS := hS.cons cy
  have hS := hS.cons cz
  clear hp cy cz
  show wpList _ _ _ [_, _, _] _ _
  refine list_step rfl (does_storeAll (g := g4) (cs := (carillonref09_Get.c0 0 0 0 0 0 0 0 0 0 0 0 0 0 0 0 0 0 0 0 0 0 0 0)) rfl (hS.get 2 rfl) (hS.get 1 rfl) ((bv.2.1.block g4 (blk_lt ac)).trans ac) (by kernel_rfl) (by kernel_rfl) (by kernel_rfl)) ?_
  rintro ef cM ⟨rfl, bS, hT⟩
  have d9 := hT.blk ((bv.2.2.2.1.block bs (blk_lt aw)).trans aw) (Nat.ne_of_gt (Nat.lt_of_lt_of_le (Nat.lt_of_lt_of_le (blk_lt ac) (bp.2).size) a2))
  have cf := hT.below bv.1 br (bv.1).size
  clear hT
  refine list_step rfl (R := fun v w' => Below _ _ w' ∧ (IsV (.slice none 0 0)) v w') (does_val (x_assign rfl (rfl)) rfl) ?_
  rintro cL bi ⟨hb, he⟩
  have bj := below_step cf hb
  have bB := below_step (bR cM) hb
  obtain rfl : cL = .slice none 0 0 := he
  refine hS.next (v := .slice none 0 0) (d := 3) rfl (by decide) (by rfl) ?_
  clear hS
  intro dU hS
  refine list_step rfl (R := fun v w' => Below _ _ w' ∧ (VI aa) v w') (does_val (x_assign rfl (hS.get 1 rfl)) rfl) ?_
  rintro dm eq ⟨hb, he⟩
  have ch := below_step bj hb
  have bG := below_step bB hb
  have cP := below_step (bR bi) hb
  obtain rfl : dm = .int .i64 aa := he
  refine hS.next (v := .int .i64 aa) (d := 4) rfl (by decide) (by rfl) ?_
  clear hS
  intro dW hS
  refine wpList_nil ?_
  refine b8 _ _ ?_
  refine wp_ret ?_
  (try simp only [Exit.then, Exit.inBlock, Exit.jump, Exit.noGoto])
  exact bodyPost_ret (v := .tuple #[(carillonref09_Get.v1 0 0 0 0 0 0 0 0 0 0 0 0 0 0 0 0 0 0 0 0 0 0 0), .slice none 0 0, .int .i64 aa]) (results_list (rs := [.cell 2 28, .tmp 3, .tmp 4]) rfl (by simp) (Vals.cell g4 28 (carillonref09_Get.c0 0 0 0 0 0 0 0 0 0 0 0 0 0 0 0 0 0 0 0 0 0 0 0) (0, 0) _ (hS.get 4 rfl) ((bG.block g4 (blk_lt bS)).trans bS) Try.underlying28 rfl (by kernel_rfl) (Vals.at (hS.get 1 rfl) (Vals.at (hS.get 0 rfl) .nil)))) hS.nodef ⟨.slice none 0 0, rfl, Kd.R_nil _ _ _ _ _, ch⟩
 rw [if_pos c2] at H
 obtain ⟨dF, c7, H⟩ := Option.bind_eq_some_iff.mp H
 obtain ⟨aA, aB, aC, aD, aE, aF, aG, aH, aI, af, ag, ah, ai, aj, ak, al, am, an, ao, ap, aq, ar, au, ax, ab⟩ := dF
 (try dsimp only at H)
 refine wp_cond_false ((hS.get 0 rfl).trans (bF (congrArg (!·) (decide_eq_true c2)))) ?_
 refine wp_skip ?_
 refine db _ _ ?_
 refine wp_seq_k (fun dx b8 => ?_)
 refine reg_seq_tail 8 (I := I5_ w w3 w7 bg bf) (ps := [IsV ((carillonref09_Get.v1 a3 a4 a5 a6 a7 a8 a9 ba bb aL aM aN aO aP aQ aR aS aT aU aV aW aX aY)), IsV (.slice A8 ((bytesOf a0).length) C8), IsV (.tuple #[(carillonref09_Get.v1 aA aB aC aD aE aF aG aH aI af ag ah ai aj ak al am an ao ap aq ar au), .int .i64 ax, .int .i64 ab]), IsV (.tuple #[(carillonref09_Get.v1 aA aB aC aD aE aF aG aH aI af ag ah ai aj ak al am an ao ap aq ar au), .int .i64 ax, .int .i64 ab]), IsV ((carillonref09_Get.v1 aA aB aC aD aE aF aG aH aI af ag ah ai aj ak al am an ao ap aq ar au)), VI ax, VI ab, IsB (carillonref09_Get.c0 0 0 0 0 0 0 0 0 0 0 0 0 0 0 0 0 0 0 0 0 0 0 0) 28 bf.heap.size]) (by kernel_rfl) ?_ ?_ rfl hS ⟨ay.1, ay.2.1, ay.2.2.1, ay.2.2.2.1, (bR bf)⟩ ?_ ?_
 ·exact bs5
 ·exact .v (.v (.v (.v (.v (.v (.v (.cons (Stays.b _ _ _) (.nil))))))))
 ·refine .on rfl (fun a w hS hI hp => does_loadrow rfl (hS.get 2 rfl) (((hI.2.2.2.1).block bs (blk_lt aw)).trans aw) Try.underlying28 rfl (by kernel_rfl) rfl) ?_
  refine .ms 3 rfl rfl rfl ?_
  refine .on rfl (fun a w hS hI hp => does_call (by kernel_rfl) (ar3 (hp.V 0 rfl rfl) (hp.V 1 rfl rfl) (rfl)) ((carillonref07_Get.calls k a3 a4 a5 a6 a7 a8 a9 ba bb aL aM aN aO aP aQ aR aS aT aU aV aW aX aY _ _ (bytesOf a0) 34 aA aB aC aD aE aF aG aH aI af ag ah ai aj ak al am an ao ap aq ar au ax ab _ (Kd.C_below cq hI.2.2.1) cr c7).mono fun _ _ h => ⟨_, h.1, h.2, rfl⟩)) ?_
  refine .mv 2 rfl rfl rfl ?_
  iterate 3 refine .on rfl (fun a w hS hI hp => does_val (x_extract rfl (hp.V 3 rfl rfl) rfl) rfl) ?_
  refine .on rfl (fun a w hS hI hp => does_var (x_alloc rfl (by kernel_rfl)) (hI.2.2.2.2).size) ?_
  exact .nil
 clear hS
 intro dT cM hS bc hp
 replace hS := (((hS.nil).cons (hS.get 4 rfl)).cons (hS.get 3 rfl)).cons (hS.get 1 rfl)
 have cA : sl _ 28 = (carillonref09_Get.v1 aA aB aC aD aE aF aG aH aI af ag ah ai aj ak al am an ao ap aq ar au) := hp 4 (by decide)
 have cB : sl _ 29 = .int .i64 ax := hp 5 (by decide)
 have cC : sl _ 30 = .int .i64 ab := hp 6 (by decide)
 obtain ⟨bu, cY, aK, bQ⟩ := (show IsB _ 28 _ (sl _ 9) _ from hp 7 (by decide))
 have hS := hS.cons cA
 have hS := hS.cons cB
 have hS := hS.cons cC
 have hS := hS.cons cY
 clear hp cA cB cC cY
 show wpList _ _ _ [_, _, _] _ _
 refine list_step rfl (does_storeAll (g := bu) (cs := (carillonref09_Get.c0 aA aB aC aD aE aF aG aH aI af ag ah ai aj ak al am an ao ap aq ar au)) rfl (hS.get 0 rfl) (hS.get 3 rfl) (((bR cM).block bu (blk_lt bQ)).trans bQ) (by kernel_rfl) (by kernel_rfl) (by kernel_rfl)) ?_
 rintro cL bi ⟨rfl, aJ, hT⟩
 have bj := hT.below bc.1 (Nat.le_trans (ay.1).size aK) (bc.1).size
 have b2 := hT.below bc.2.1 (Nat.le_trans (ay.2.1).size aK) (bc.2.1).size
 have b3 := hT.below bc.2.2.1 (Nat.le_trans (ay.2.2.1).size aK) (bc.2.2.1).size
 have bz := hT.below bc.2.2.2.1 (Nat.le_trans (ay.2.2.2.1).size aK) (bc.2.2.2.1).size
 have bA := hT.below bc.2.2.2.2 aK (bc.2.2.2.2).size
 clear hT
 refine list_step rfl (R := fun v w' => Below _ _ w' ∧ (VI ax) v w') (does_val (x_assign rfl (hS.get 2 rfl)) rfl) ?_
 rintro dl dJ ⟨hb, he⟩
 have cg := below_step bj hb
 have b4 := below_step b2 hb
 have b5 := below_step b3 hb
 have bC := below_step bz hb
 have bD := below_step bA hb
 have bE := below_step (bR bi) hb
 obtain rfl : dl = .int .i64 ax := he
 refine hS.next (v := .int .i64 ax) (d := 10) rfl (by decide) (by rfl) ?_
 clear hS
 intro dV hS
 refine list_step rfl (R := fun v w' => Below _ _ w' ∧ (VI ab) v w') (does_val (x_assign rfl (hS.get 2 rfl)) rfl) ?_
 rintro dn c5 ⟨hb, he⟩
 have ci := below_step cg hb
 have b6 := below_step b4 hb
 have b7 := below_step b5 hb
 have bH := below_step bC hb
 have bI := below_step bD hb
 have bJ := below_step bE hb
 have cQ := below_step (bR dJ) hb
 obtain rfl : dn = .int .i64 ab := he
 replace hS := (((((((hS.nil).cons (hS.get 7 rfl)).cons (hS.get 6 rfl)).cons (hS.get 4 rfl)).cons (hS.get 3 rfl)).cons (hS.get 2 rfl)).cons (hS.get 1 rfl)).cons (hS.get 0 rfl)
 refine hS.next (v := .int .i64 ab) (d := 8) rfl (by decide) (by rfl) ?_
 clear hS
 intro dX hS
 refine wpList_nil ?_
 refine b8 _ _ ?_
 refine wp_seq_k (fun ej dd => ?_)
 refine wp_seq_k (fun ek de => ?_)
 refine reg_seq (I := I7_ w w3 w7 bg bf bi c5) (ps := [VI ab, VB (!decide (ab = 0))]) (by kernel_rfl) ?_ ?_ rfl hS ⟨ci, b6, b7, bH, bI, bJ, (bR c5)⟩ ?_ ?_
 ·exact bs7
 ·exact .v (.v (.nil))
 ·refine .ms 0 rfl rfl rfl ?_
  refine .on rfl (fun a w hS hI hp => does_val (x_bin rfl (hp.V 0 rfl rfl) (rfl) (b_neq _ _ _ _ _ _)) rfl) ?_
  exact .nil
 clear hS
 intro dY bd hS az hp
 replace hS := (((((hS.nil).cons (hS.get 7 rfl)).cons (hS.get 6 rfl)).cons (hS.get 2 rfl)).cons (hS.get 1 rfl)).cons (hS.get 0 rfl)
 have cD : sl _ 32 = .bool (!decide (ab = 0)) := hp 1 (by decide)
 have hS := hS.cons cD
 clear hp cD
 refine de _ _ ?_
 by_cases c3 : ab = 0
 rotate_left
 ·rw [if_neg c3] at H
  simp only [Option.some.injEq, Prod.mk.injEq] at H
  obtain ⟨rfl, rfl, rfl, rfl, rfl, rfl, rfl, rfl, rfl, rfl, rfl, rfl, rfl, rfl, rfl, rfl, rfl, rfl, rfl, rfl, rfl, rfl, rfl, rfl, rfl⟩ := H
  refine wp_cond_true ((hS.get 0 rfl).trans (bT (congrArg (!·) (decide_eq_false c3)))) ?_
  refine wp_seq_k (fun dy b9 => ?_)
  refine reg_seq_tail 2 (I := I7_ w w3 w7 bg bf bi bd) (ps := [IsV ((carillonref09_Get.v1 0 0 0 0 0 0 0 0 0 0 0 0 0 0 0 0 0 0 0 0 0 0 0)), VI ab]) (by kernel_rfl) ?_ ?_ rfl hS ⟨az.1, az.2.1, az.2.2.1, az.2.2.2.1, az.2.2.2.2.1, az.2.2.2.2.2.1, (bR bd)⟩ ?_ ?_
  ·exact bs7
  ·exact .v (.v (.nil))
  ·refine .on rfl (fun a w hS hI hp => does_val (x_build (vs := []) rfl (by rw [Array.toList_map]; exact (show [] = _ from rfl)) (by kernel_rfl)) rfl) ?_
   refine .ms 1 rfl rfl rfl ?_
   exact .nil
  clear hS
  intro dZ er hS bt hp
  replace hS := (hS.nil).cons (hS.get 5 rfl)
  have cE : sl _ 33 = (carillonref09_Get.v1 0 0 0 0 0 0 0 0 0 0 0 0 0 0 0 0 0 0 0 0 0 0 0) := hp 0 (by decide)
  have cF : sl _ 34 = .int .i64 ab := hp 1 (by decide)
  have hS := hS.cons cE
  have hS := hS.cons cF
  clear hp cE cF
  show wpList _ _ _ [_, _, _] _ _
  refine list_step rfl (does_storeAll (g := g4) (cs := (carillonref09_Get.c0 0 0 0 0 0 0 0 0 0 0 0 0 0 0 0 0 0 0 0 0 0 0 0)) rfl (hS.get 2 rfl) (hS.get 1 rfl) ((bt.2.1.block g4 (blk_lt ac)).trans ac) (by kernel_rfl) (by kernel_rfl) (by kernel_rfl)) ?_
  rintro eg bq ⟨rfl, bU, hT⟩
  have ea := hT.blk ((bt.2.2.2.1.block bs (blk_lt aw)).trans aw) (Nat.ne_of_gt (Nat.lt_of_lt_of_le (Nat.lt_of_lt_of_le (blk_lt ac) (bp.2).size) a2))
  have eb := hT.blk ((bt.2.2.2.2.2.1.block bu (blk_lt aJ)).trans aJ) (Nat.ne_of_gt (Nat.lt_of_lt_of_le (Nat.lt_of_lt_of_le (blk_lt ac) (ay.2.1).size) aK))
  have cj := hT.below bt.1 br (bt.1).size
  clear hT
  refine list_step rfl (R := fun v w' => Below _ _ w' ∧ (IsV (.slice none 0 0)) v w') (does_val (x_assign rfl (rfl)) rfl) ?_
  rintro dp dK ⟨hb, he⟩
  have ck := below_step cj hb
  have bK := below_step (bR bq) hb
  obtain rfl : dp = .slice none 0 0 := he
  refine hS.next (v := .slice none 0 0) (d := 3) rfl (by decide) (by rfl) ?_
  clear hS
  intro c9 hS
  refine list_step rfl (R := fun v w' => Below _ _ w' ∧ (VI ab) v w') (does_val (x_assign rfl (hS.get 1 rfl)) rfl) ?_
  rintro dq bV ⟨hb, he⟩
  have cl := below_step ck hb
  have bL := below_step bK hb
  have cR := below_step (bR dK) hb
  obtain rfl : dq = .int .i64 ab := he
  refine hS.next (v := .int .i64 ab) (d := 4) rfl (by decide) (by rfl) ?_
  clear hS
  intro d1 hS
  refine wpList_nil ?_
  refine b9 _ _ ?_
  refine wp_ret ?_
  (try simp only [Exit.then, Exit.inBlock, Exit.jump, Exit.noGoto])
  exact bodyPost_ret (v := .tuple #[(carillonref09_Get.v1 0 0 0 0 0 0 0 0 0 0 0 0 0 0 0 0 0 0 0 0 0 0 0), .slice none 0 0, .int .i64 ab]) (results_list (rs := [.cell 2 28, .tmp 3, .tmp 4]) rfl (by simp) (Vals.cell g4 28 (carillonref09_Get.c0 0 0 0 0 0 0 0 0 0 0 0 0 0 0 0 0 0 0 0 0 0 0 0) (0, 0) _ (hS.get 4 rfl) ((bL.block g4 (blk_lt bU)).trans bU) Try.underlying28 rfl (by kernel_rfl) (Vals.at (hS.get 1 rfl) (Vals.at (hS.get 0 rfl) .nil)))) hS.nodef ⟨.slice none 0 0, rfl, Kd.R_nil _ _ _ _ _, cl⟩
 rw [if_pos c3] at H
 obtain ⟨dG, c8, H⟩ := Option.bind_eq_some_iff.mp H
 obtain ⟨ae, ad⟩ := dG
 (try dsimp only at H)
 refine wp_cond_false ((hS.get 0 rfl).trans (bF (congrArg (!·) (decide_eq_true c3)))) ?_
 refine wp_skip ?_
 refine dd _ _ ?_
 refine wp_seq_k (fun dy b9 => ?_)
 replace hS := (((((hS.nil).cons (hS.get 5 rfl)).cons (hS.get 4 rfl)).cons (hS.get 3 rfl)).cons (hS.get 2 rfl)).cons (hS.get 0 rfl)
 refine reg_seq (I := I7_ w w3 w7 bg bf bi bd) (ps := [IsV (.slice A8 ((bytesOf a0).length) C8), VI ax, IsT (fun v0_ => #[v0_, .int .i64 ad]) (IsR k43 43 bd.heap.size ae), IsT (fun v0_ => #[v0_, .int .i64 ad]) (IsR k43 43 bd.heap.size ae), IsR k43 43 bd.heap.size ae, VI ad, IsR k43 43 bd.heap.size ae, VI ad]) (by kernel_rfl) ?_ ?_ rfl hS ⟨az.1, az.2.1, az.2.2.1, az.2.2.2.1, az.2.2.2.2.1, az.2.2.2.2.2.1, (bR bd)⟩ ?_ ?_
 ·exact bs7
 ·exact .v (.v (.cons (Stays.t _ (Stays.r _ _ _ _)) (.cons (Stays.t _ (Stays.r _ _ _ _)) (.cons (Stays.r _ _ _ _) (.v (.cons (Stays.r _ _ _ _) (.v (.nil))))))))
 ·refine .ms 3 rfl rfl rfl ?_
  refine .ms 1 rfl rfl rfl ?_
  refine .on rfl (fun a w hS hI hp => does_call (by kernel_rfl) (ar2 (hp.V 0 rfl rfl) (hp.V 1 rfl rfl)) ((carillonref08_Get.calls k _ _ (bytesOf a0) ax ae ad _ (Kd.C_below cq hI.2.2.1) cr c8).mono fun _ _ h => h.elim fun v0 h => ⟨_, h.1, h.2.2, v0, rfl, Kd.R_lower h.2.1 hI.2.2.2.2.2.2.size⟩)) ?_
  refine .on rfl (fun a w hS hI hp => does_val (x_move rfl rfl) (hp.V 2 rfl rfl)) ?_
  refine .on rfl (fun a w hS hI hp => (hp.V 3 rfl rfl).elim fun v0 h0 => does_val (x_extract rfl h0.1 rfl) h0.2) ?_
  refine .on rfl (fun a w hS hI hp => (hp.V 3 rfl rfl).elim fun v0 h0 => does_val (x_extract rfl h0.1 rfl) rfl) ?_
  refine .on rfl (fun a w hS hI hp => does_val (x_assign rfl rfl) (hp.V 4 rfl rfl)) ?_
  refine .asg 5 rfl rfl rfl ?_
  exact .nil
 clear hS
 intro d0 bq hS bh hp
 replace hS := ((hS.nil).cons (hS.get 4 rfl)).cons (hS.get 2 rfl)
 obtain ⟨bm, bn, cb, d8, d6⟩ := Kd.R_reads (show Kd.R k43 43 bq bd.heap.size (fun _ => True) (sl _ 11) ae from hp 6 (by decide))
 have di : Kd.R k43 43 bq bd.heap.size (fun _ => True) (.slice bm ae.length bn) ae := cb ▸ (hp 6 (by decide))
 have cX : sl _ 8 = .int .i64 ad := hp 7 (by decide)
 have hS := hS.cons cb
 have hS := hS.cons cX
 clear hp cb cX
 refine b9 _ _ ?_
 refine wp_seq_k (fun el df => ?_)
 refine wp_seq_k (fun em dg => ?_)
 refine reg_seq (I := I8_ w w3 w7 bg bf bi bd bq) (ps := [VI ad, VB (!decide (ad = 0))]) (by kernel_rfl) ?_ ?_ rfl hS ⟨bh.1, bh.2.1, bh.2.2.1, bh.2.2.2.1, bh.2.2.2.2.1, bh.2.2.2.2.2.1, bh.2.2.2.2.2.2, (bR bq)⟩ ?_ ?_
 ·exact bs8
 ·exact .v (.v (.nil))
 ·refine .ms 0 rfl rfl rfl ?_
  refine .on rfl (fun a w hS hI hp => does_val (x_bin rfl (hp.V 0 rfl rfl) (rfl) (b_neq _ _ _ _ _ _)) rfl) ?_
  exact .nil
 clear hS
 intro c9 bV hS av hp
 have cG : sl _ 42 = .bool (!decide (ad = 0)) := hp 1 (by decide)
 have hS := hS.cons cG
 clear hp cG
 refine dg _ _ ?_
 by_cases c4 : ad = 0
 rotate_left
 ·rw [if_neg c4] at H
  simp only [Option.some.injEq, Prod.mk.injEq] at H
  obtain ⟨rfl, rfl, rfl, rfl, rfl, rfl, rfl, rfl, rfl, rfl, rfl, rfl, rfl, rfl, rfl, rfl, rfl, rfl, rfl, rfl, rfl, rfl, rfl, rfl, rfl⟩ := H
  refine wp_cond_true ((hS.get 0 rfl).trans (bT (congrArg (!·) (decide_eq_false c4)))) ?_
  refine wp_seq_k (fun dz ca => ?_)
  refine reg_seq_tail 2 (I := I9_ w w3 w7 bg bf bi bd bq bV) (ps := [IsV ((carillonref09_Get.v1 0 0 0 0 0 0 0 0 0 0 0 0 0 0 0 0 0 0 0 0 0 0 0)), VI ad]) (by kernel_rfl) ?_ ?_ rfl hS ⟨av.1, av.2.1, av.2.2.1, av.2.2.2.1, av.2.2.2.2.1, av.2.2.2.2.2.1, av.2.2.2.2.2.2.1, av.2.2.2.2.2.2.2, (bR bV)⟩ ?_ ?_
  ·exact bs9
  ·exact .v (.v (.nil))
  ·refine .on rfl (fun a w hS hI hp => does_val (x_build (vs := []) rfl (by rw [Array.toList_map]; exact (show [] = _ from rfl)) (by kernel_rfl)) rfl) ?_
   refine .ms 1 rfl rfl rfl ?_
   exact .nil
  clear hS
  intro da dL hS a1 hp
  replace hS := (hS.nil).cons (hS.get 4 rfl)
  have cH : sl _ 43 = (carillonref09_Get.v1 0 0 0 0 0 0 0 0 0 0 0 0 0 0 0 0 0 0 0 0 0 0 0) := hp 0 (by decide)
  have cI : sl _ 44 = .int .i64 ad := hp 1 (by decide)
  have hS := hS.cons cH
  have hS := hS.cons cI
  clear hp cH cI
  show wpList _ _ _ [_, _, _] _ _
  refine list_step rfl (does_storeAll (g := g4) (cs := (carillonref09_Get.c0 0 0 0 0 0 0 0 0 0 0 0 0 0 0 0 0 0 0 0 0 0 0 0)) rfl (hS.get 2 rfl) (hS.get 1 rfl) ((a1.2.1.block g4 (blk_lt ac)).trans ac) (by kernel_rfl) (by kernel_rfl) (by kernel_rfl)) ?_
  rintro dr cN ⟨rfl, be, hT⟩
  have ec := hT.blk ((a1.2.2.2.1.block bs (blk_lt aw)).trans aw) (Nat.ne_of_gt (Nat.lt_of_lt_of_le (Nat.lt_of_lt_of_le (blk_lt ac) (bp.2).size) a2))
  have dh := hT.blk ((a1.2.2.2.2.2.1.block bu (blk_lt aJ)).trans aJ) (Nat.ne_of_gt (Nat.lt_of_lt_of_le (Nat.lt_of_lt_of_le (blk_lt ac) (ay.2.1).size) aK))
  have bk := hT.below a1.1 br (a1.1).size
  clear hT
  refine list_step rfl (R := fun v w' => Below _ _ w' ∧ (IsV (.slice none 0 0)) v w') (does_val (x_assign rfl (rfl)) rfl) ?_
  rintro ds dM ⟨hb, he⟩
  have cm := below_step bk hb
  have bM := below_step (bR cN) hb
  obtain rfl : ds = .slice none 0 0 := he
  refine hS.next (v := .slice none 0 0) (d := 3) rfl (by decide) (by rfl) ?_
  clear hS
  intro d2 hS
  refine list_step rfl (R := fun v w' => Below _ _ w' ∧ (VI ad) v w') (does_val (x_assign rfl (hS.get 1 rfl)) rfl) ?_
  rintro du es ⟨hb, he⟩
  have co := below_step cm hb
  have bO := below_step bM hb
  have cS := below_step (bR dM) hb
  obtain rfl : du = .int .i64 ad := he
  refine hS.next (v := .int .i64 ad) (d := 4) rfl (by decide) (by rfl) ?_
  clear hS
  intro d4 hS
  refine wpList_nil ?_
  refine ca _ _ ?_
  refine wp_ret ?_
  (try simp only [Exit.then, Exit.inBlock, Exit.jump, Exit.noGoto])
  exact bodyPost_ret (v := .tuple #[(carillonref09_Get.v1 0 0 0 0 0 0 0 0 0 0 0 0 0 0 0 0 0 0 0 0 0 0 0), .slice none 0 0, .int .i64 ad]) (results_list (rs := [.cell 2 28, .tmp 3, .tmp 4]) rfl (by simp) (Vals.cell g4 28 (carillonref09_Get.c0 0 0 0 0 0 0 0 0 0 0 0 0 0 0 0 0 0 0 0 0 0 0 0) (0, 0) _ (hS.get 4 rfl) ((bO.block g4 (blk_lt be)).trans be) Try.underlying28 rfl (by kernel_rfl) (Vals.at (hS.get 1 rfl) (Vals.at (hS.get 0 rfl) .nil)))) hS.nodef ⟨.slice none 0 0, rfl, Kd.R_nil _ _ _ _ _, co⟩
 rw [if_pos c4] at H
 simp only [Option.some.injEq, Prod.mk.injEq] at H
 obtain ⟨rfl, rfl, rfl, rfl, rfl, rfl, rfl, rfl, rfl, rfl, rfl, rfl, rfl, rfl, rfl, rfl, rfl, rfl, rfl, rfl, rfl, rfl, rfl, rfl, rfl⟩ := H
 refine wp_cond_false ((hS.get 0 rfl).trans (bF (congrArg (!·) (decide_eq_true c4)))) ?_
 refine wp_skip ?_
 refine df _ _ ?_
 refine wp_seq_k (fun dz ca => ?_)
 refine reg_seq_tail 2 (I := I9_ w w3 w7 bg bf bi bd bq bV) (ps := [IsV ((carillonref09_Get.v1 aA aB aC aD aE aF aG aH aI af ag ah ai aj ak al am an ao ap aq ar au)), IsV (.slice bm ae.length bn)]) (by kernel_rfl) ?_ ?_ rfl hS ⟨av.1, av.2.1, av.2.2.1, av.2.2.2.1, av.2.2.2.2.1, av.2.2.2.2.2.1, av.2.2.2.2.2.2.1, av.2.2.2.2.2.2.2, (bR bV)⟩ ?_ ?_
 ·exact bs9
 ·exact .v (.v (.nil))
 ·refine .on rfl (fun a w hS hI hp => does_loadrow rfl (hS.get 3 rfl) (((hI.2.2.2.2.2.1).block bu (blk_lt aJ)).trans aJ) Try.underlying28 rfl (by kernel_rfl) rfl) ?_
  refine .ms 2 rfl rfl rfl ?_
  exact .nil
 clear hS
 intro da dL hS a1 hp
 replace hS := (hS.nil).cons (hS.get 4 rfl)
 have cJ : sl _ 45 = (carillonref09_Get.v1 aA aB aC aD aE aF aG aH aI af ag ah ai aj ak al am an ao ap aq ar au) := hp 0 (by decide)
 have cK : sl _ 46 = .slice bm ae.length bn := hp 1 (by decide)
 have hS := hS.cons cJ
 have hS := hS.cons cK
 clear hp cJ cK
 show wpList _ _ _ [_, _, _] _ _
 refine list_step rfl (does_storeAll (g := g4) (cs := (carillonref09_Get.c0 aA aB aC aD aE aF aG aH aI af ag ah ai aj ak al am an ao ap aq ar au)) rfl (hS.get 2 rfl) (hS.get 1 rfl) ((a1.2.1.block g4 (blk_lt ac)).trans ac) (by kernel_rfl) (by kernel_rfl) (by kernel_rfl)) ?_
 rintro dr cN ⟨rfl, be, hT⟩
 have ct := hT.row (Kd.R_below di a1.2.2.2.2.2.2.2.1) (Nat.lt_of_lt_of_le (blk_lt ac) (az.2.1).size)
 have d7 := (Kd.R_reads' ct).2.2
 have dh := hT.blk ((a1.2.2.2.1.block bs (blk_lt aw)).trans aw) (Nat.ne_of_gt (Nat.lt_of_lt_of_le (Nat.lt_of_lt_of_le (blk_lt ac) (bp.2).size) a2))
 have ed := hT.blk ((a1.2.2.2.2.2.1.block bu (blk_lt aJ)).trans aJ) (Nat.ne_of_gt (Nat.lt_of_lt_of_le (Nat.lt_of_lt_of_le (blk_lt ac) (ay.2.1).size) aK))
 have bk := hT.below a1.1 br (a1.1).size
 clear hT
 refine list_step rfl (R := fun v w' => Below _ _ w' ∧ (IsV (.slice bm ae.length bn)) v w') (does_val (x_assign rfl (hS.get 0 rfl)) rfl) ?_
 rintro dt dN ⟨hb, he⟩
 have cn := below_step bk hb
 have bN := below_step (bR cN) hb
 obtain rfl : dt = .slice bm ae.length bn := he
 refine hS.next (v := .slice bm ae.length bn) (d := 3) rfl (by decide) (by rfl) ?_
 clear hS
 intro d3 hS
 refine list_step rfl (R := fun v w' => Below _ _ w' ∧ (VI 0) v w') (does_val (x_assign rfl (rfl)) rfl) ?_
 rintro dv et ⟨hb, he⟩
 have cp := below_step cn hb
 have bo := below_step bN hb
 have cT := below_step (bR dN) hb
 obtain rfl : dv = .int .i64 0 := he
 refine hS.next (v := .int .i64 0) (d := 4) rfl (by decide) (by rfl) ?_
 clear hS
 intro d5 hS
 refine wpList_nil ?_
 refine ca _ _ ?_
 refine wp_ret ?_
 (try simp only [Exit.then, Exit.inBlock, Exit.jump, Exit.noGoto])
 exact bodyPost_ret (v := .tuple #[(carillonref09_Get.v1 aA aB aC aD aE aF aG aH aI af ag ah ai aj ak al am an ao ap aq ar au), .slice bm ae.length bn, .int .i64 0]) (results_list (rs := [.cell 2 28, .tmp 3, .tmp 4]) rfl (by simp) (Vals.cell g4 28 (carillonref09_Get.c0 aA aB aC aD aE aF aG aH aI af ag ah ai aj ak al am an ao ap aq ar au) (0, 0) _ (hS.get 4 rfl) ((bo.block g4 (blk_lt be)).trans be) Try.underlying28 rfl (by kernel_rfl) (Vals.at (hS.get 1 rfl) (Vals.at (hS.get 0 rfl) .nil)))) hS.nodef ⟨.slice bm ae.length bn, rfl, Kd.R_lower (Kd.R_below ct bo) (az.1).size, cp⟩
def frame_Here.f (k : Nat) (a0 : ByteArray) (a1 : Int) : Option (Int × Int × Int × Int × Int × Int × Int × Int × Int × Int × Int × Int × Int × Int × Int × Int × Int × Int × Int × Int × Int × Int × Int × List (S43) × Int) := (frame_Get.f k a0).bind fun t6 => (if t6.2.2.2.2.2.2.2.2.2.2.2.2.2.2.2.2.2.2.2.2.2.2.2.2 = 0 then (if t6.2.1 = a1 then (some (t6.1, t6.2.1, t6.2.2.1, t6.2.2.2.1, t6.2.2.2.2.1, t6.2.2.2.2.2.1, t6.2.2.2.2.2.2.1, t6.2.2.2.2.2.2.2.1, t6.2.2.2.2.2.2.2.2.1, t6.2.2.2.2.2.2.2.2.2.1, t6.2.2.2.2.2.2.2.2.2.2.1, t6.2.2.2.2.2.2.2.2.2.2.2.1, t6.2.2.2.2.2.2.2.2.2.2.2.2.1, t6.2.2.2.2.2.2.2.2.2.2.2.2.2.1, t6.2.2.2.2.2.2.2.2.2.2.2.2.2.2.1, t6.2.2.2.2.2.2.2.2.2.2.2.2.2.2.2.1, t6.2.2.2.2.2.2.2.2.2.2.2.2.2.2.2.2.1, t6.2.2.2.2.2.2.2.2.2.2.2.2.2.2.2.2.2.1, t6.2.2.2.2.2.2.2.2.2.2.2.2.2.2.2.2.2.2.1, t6.2.2.2.2.2.2.2.2.2.2.2.2.2.2.2.2.2.2.2.1, t6.2.2.2.2.2.2.2.2.2.2.2.2.2.2.2.2.2.2.2.2.1, t6.2.2.2.2.2.2.2.2.2.2.2.2.2.2.2.2.2.2.2.2.2.1, t6.2.2.2.2.2.2.2.2.2.2.2.2.2.2.2.2.2.2.2.2.2.2.1, t6.2.2.2.2.2.2.2.2.2.2.2.2.2.2.2.2.2.2.2.2.2.2.2.1, t6.2.2.2.2.2.2.2.2.2.2.2.2.2.2.2.2.2.2.2.2.2.2.2.2)) else (some (0, 0, 0, 0, 0, 0, 0, 0, 0, 0, 0, 0, 0, 0, 0, 0, 0, 0, 0, 0, 0, 0, 0, [], 6))) else (some (t6.1, t6.2.1, t6.2.2.1, t6.2.2.2.1, t6.2.2.2.2.1, t6.2.2.2.2.2.1, t6.2.2.2.2.2.2.1, t6.2.2.2.2.2.2.2.1, t6.2.2.2.2.2.2.2.2.1, t6.2.2.2.2.2.2.2.2.2.1, t6.2.2.2.2.2.2.2.2.2.2.1, t6.2.2.2.2.2.2.2.2.2.2.2.1, t6.2.2.2.2.2.2.2.2.2.2.2.2.1, t6.2.2.2.2.2.2.2.2.2.2.2.2.2.1, t6.2.2.2.2.2.2.2.2.2.2.2.2.2.2.1, t6.2.2.2.2.2.2.2.2.2.2.2.2.2.2.2.1, t6.2.2.2.2.2.2.2.2.2.2.2.2.2.2.2.2.1, t6.2.2.2.2.2.2.2.2.2.2.2.2.2.2.2.2.2.1, t6.2.2.2.2.2.2.2.2.2.2.2.2.2.2.2.2.2.2.1, t6.2.2.2.2.2.2.2.2.2.2.2.2.2.2.2.2.2.2.2.1, t6.2.2.2.2.2.2.2.2.2.2.2.2.2.2.2.2.2.2.2.2.1, t6.2.2.2.2.2.2.2.2.2.2.2.2.2.2.2.2.2.2.2.2.2.1, t6.2.2.2.2.2.2.2.2.2.2.2.2.2.2.2.2.2.2.2.2.2.2.1, t6.2.2.2.2.2.2.2.2.2.2.2.2.2.2.2.2.2.2.2.2.2.2.2.1, t6.2.2.2.2.2.2.2.2.2.2.2.2.2.2.2.2.2.2.2.2.2.2.2.2)))
abbrev frame_Here.c0 (x0 x1 x2 x3 x4 x5 x6 x7 x8 x9 x10 x11 x12 x13 x14 x15 x16 x17 x18 x19 x20 x21 x22 : Int) : Array Value := #[.int .i64 x0, .int .i64 x1, .int .i64 x2, .int .i64 x3, .int .u64 x4, .int .i64 x5, .int .i64 x6, .int .i64 x7, .int .i64 x8, .int .u64 x9, .int .i64 x10, .int .i64 x11, .int .i64 x12, .int .i64 x13, .int .i64 x14, .int .i64 x15, .int .i64 x16, .int .u64 x17, .int .i64 x18, .int .i64 x19, .int .i64 x20, .int .i64 x21, .int .i64 x22]
abbrev frame_Here.v1 (x0 x1 x2 x3 x4 x5 x6 x7 x8 x9 x10 x11 x12 x13 x14 x15 x16 x17 x18 x19 x20 x21 x22 : Int) : Value := .agg #[.int .i64 x0, .int .i64 x1, .int .i64 x2, .int .i64 x3, .int .u64 x4, .int .i64 x5, .int .i64 x6, .int .i64 x7, .int .i64 x8, .int .u64 x9, .int .i64 x10, .int .i64 x11, .int .i64 x12, .int .i64 x13, .int .i64 x14, .int .i64 x15, .int .i64 x16, .int .u64 x17, .int .i64 x18, .int .i64 x19, .int .i64 x20, .int .i64 x21, .int .i64 x22]
open Go.Proofs.Ytiomlbkakiienaa.E in
set_option maxHeartbeats 60000000 in
set_option maxRecDepth 100000 in
theorem frame_Here.calls (k : Nat) (a0 : ByteArray) (a1 r1 r2 r3 r4 r5 r6 r7 r8 r9 b7 b8 b9 ca cb cc cd ce cf cg ch ci cj ck : Int) (cl : List (S43)) (cm : Int) (w : World) (h : frame_Here.f k a0 a1 = some (r1, r2, r3, r4, r5, r6, r7, r8, r9, b7, b8, b9, ca, cb, cc, cd, ce, cf, cg, ch, ci, cj, ck, cl, cm)) :
    Calls Try.prog 18 #[.string a0, .int .i64 a1] w fun e w' => ∃ v0_ : Value, e = .returned (.tuple #[.agg #[.int .i64 r1, .int .i64 r2, .int .i64 r3, .int .i64 r4, .int .u64 r5, .int .i64 r6, .int .i64 r7, .int .i64 r8, .int .i64 r9, .int .u64 b7, .int .i64 b8, .int .i64 b9, .int .i64 ca, .int .i64 cb, .int .i64 cc, .int .i64 cd, .int .i64 ce, .int .u64 cf, .int .i64 cg, .int .i64 ch, .int .i64 ci, .int .i64 cj, .int .i64 ck], v0_, .int .i64 cm]) ∧ Kd.R k43 43 w' w.heap.size (fun _ => True) v0_ cl ∧ Below w.heap.size w w' := by
 have H := h
 clear h
 unfold frame_Here.f at H
 obtain ⟨t6, bJ, H⟩ := Option.bind_eq_some_iff.mp H
 obtain ⟨av, ac, aw, ax, ay, az, aA, aB, aC, ad, ae, af, ag, ah, ai, aj, ak, al, am, an, ao, ap, aq, ab, aa⟩ := t6
 (try dsimp only at H)
 refine calls_of_wp (fn := Try.f18) (by kernel_rfl) rfl ?_
 have hS := St.enter #[.string a0, .int .i64 a1] 28 (by simp) [(0, .string a0), (1, .int .i64 a1)] (by simp)
 have bK := Below.refl w.heap.size w
 refine wp_seq_k (fun K1 bL => ?_)
 refine reg_seq (I := I1_ w) (ps := [IsB (frame_Here.c0 0 0 0 0 0 0 0 0 0 0 0 0 0 0 0 0 0 0 0 0 0 0 0) 28 w.heap.size, IsV (.slice none 0 0), VI 0]) (by kernel_rfl) ?_ ?_ rfl hS bK ?_ ?_
 ·exact bs1
 ·exact .cons (Stays.b _ _ _) (.v (.v (.nil)))
 ·refine .on rfl (fun a w hS hI hp => does_var (x_alloc rfl (by kernel_rfl)) (hI).size) ?_
  iterate 2 refine .on rfl (fun a w hS hI hp => does_val (x_assign rfl (rfl)) rfl) ?_
  exact .nil
 clear hS
 intro b2 w3 hS bd hp
 obtain ⟨g4, bv, aZ, aD⟩ := (show IsB _ 28 _ (sl _ 4) _ from hp 0 (by decide))
 have hS := hS.cons bv
 clear hp bv
 refine bL _ _ ?_
 refine wp_seq_k (fun K5 bM => ?_)
 refine reg_seq_tail 7 (I := I2_ w w3) (ps := [IsV (.string a0), IsT (fun v0_ => #[(frame_Here.v1 av ac aw ax ay az aA aB aC ad ae af ag ah ai aj ak al am an ao ap aq), v0_, .int .i64 aa]) (IsR k43 43 w3.heap.size ab), IsT (fun v0_ => #[(frame_Here.v1 av ac aw ax ay az aA aB aC ad ae af ag ah ai aj ak al am an ao ap aq), v0_, .int .i64 aa]) (IsR k43 43 w3.heap.size ab), IsV ((frame_Here.v1 av ac aw ax ay az aA aB aC ad ae af ag ah ai aj ak al am an ao ap aq)), IsR k43 43 w3.heap.size ab, VI aa, IsB (frame_Here.c0 0 0 0 0 0 0 0 0 0 0 0 0 0 0 0 0 0 0 0 0 0 0 0) 28 w3.heap.size]) (by kernel_rfl) ?_ ?_ rfl hS ⟨bd, (bR w3)⟩ ?_ ?_
 ·exact bs2
 ·exact .v (.cons (Stays.t _ (Stays.r _ _ _ _)) (.cons (Stays.t _ (Stays.r _ _ _ _)) (.v (.cons (Stays.r _ _ _ _) (.v (.cons (Stays.b _ _ _) (.nil)))))))
 ·refine .ms 1 rfl rfl rfl ?_
  refine .on rfl (fun a w hS hI hp => does_call (by kernel_rfl) (ar1 (hp.V 0 rfl rfl)) ((frame_Get.calls k a0 av ac aw ax ay az aA aB aC ad ae af ag ah ai aj ak al am an ao ap aq ab aa _  bJ).mono fun _ _ h => h.elim fun v0 h => ⟨_, h.1, h.2.2, v0, rfl, Kd.R_lower h.2.1 hI.2.size⟩)) ?_
  refine .on rfl (fun a w hS hI hp => does_val (x_move rfl rfl) (hp.V 1 rfl rfl)) ?_
  refine .on rfl (fun a w hS hI hp => (hp.V 2 rfl rfl).elim fun v0 h0 => does_val (x_extract rfl h0.1 rfl) rfl) ?_
  refine .on rfl (fun a w hS hI hp => (hp.V 2 rfl rfl).elim fun v0 h0 => does_val (x_extract rfl h0.1 rfl) h0.2) ?_
  refine .on rfl (fun a w hS hI hp => (hp.V 2 rfl rfl).elim fun v0 h0 => does_val (x_extract rfl h0.1 rfl) rfl) ?_
  refine .on rfl (fun a w hS hI hp => does_var (x_alloc rfl (by kernel_rfl)) (hI.2).size) ?_
  exact .nil
 clear hS
 intro b3 w8 hS be hp
 replace hS := ((hS.nil).cons (hS.get 2 rfl)).cons (hS.get 0 rfl)
 have bn : sl _ 13 = (frame_Here.v1 av ac aw ax ay az aA aB aC ad ae af ag ah ai aj ak al am an ao ap aq) := hp 3 (by decide)
 obtain ⟨A9, C9, ba, b5, b4⟩ := Kd.R_reads (show Kd.R k43 43 w8 w3.heap.size (fun _ => True) (sl _ 14) ab from hp 4 (by decide))
 have bN : Kd.R k43 43 w8 w3.heap.size (fun _ => True) (.slice A9 ab.length C9) ab := ba ▸ (hp 4 (by decide))
 have bo : sl _ 15 = .int .i64 aa := hp 5 (by decide)
 obtain ⟨aK, bw, aJ, aL⟩ := (show IsB _ 28 _ (sl _ 7) _ from hp 6 (by decide))
 have hS := hS.cons bn
 have hS := hS.cons ba
 have hS := hS.cons bo
 have hS := hS.cons bw
 clear hp bn ba bo bw
 show wpList _ _ _ [_, _, _] _ _
 refine list_step rfl (does_storeAll (g := aK) (cs := (frame_Here.c0 av ac aw ax ay az aA aB aC ad ae af ag ah ai aj ak al am an ao ap aq)) rfl (hS.get 0 rfl) (hS.get 3 rfl) (((bR w8).block aK (blk_lt aL)).trans aL) (by kernel_rfl) (by kernel_rfl) (by kernel_rfl)) ?_
 rintro bZ aY ⟨rfl, ar, hT⟩
 have a9 := hT.rowT rfl (((bR w8).block aK (blk_lt aL)).trans aL) (Kd.R_below bN (bR w8)) (by decide)
 have bX := (Kd.R_reads' a9).2.2
 have bg := hT.below be.1 (Nat.le_trans (bd).size aJ) (be.1).size
 have a7 := hT.below be.2 aJ (be.2).size
 clear hT
 refine list_step rfl (R := fun v w' => Below _ _ w' ∧ (IsV (.slice A9 ab.length C9)) v w') (does_val (x_assign rfl (hS.get 2 rfl)) rfl) ?_
 rintro bE bO ⟨hb, he⟩
 have bh := below_step bg hb
 have a8 := below_step a7 hb
 have a2 := below_step (bR aY) hb
 obtain rfl : bE = .slice A9 ab.length C9 := he
 refine hS.next (v := .slice A9 ab.length C9) (d := 8) rfl (by decide) (by rfl) ?_
 clear hS
 intro bS hS
 refine list_step rfl (R := fun v w' => Below _ _ w' ∧ (VI aa) v w') (does_val (x_assign rfl (hS.get 2 rfl)) rfl) ?_
 rintro bG bf ⟨hb, he⟩
 have aX := below_step bh hb
 have aP := below_step a8 hb
 have aO := below_step a2 hb
 have bt := below_step (bR bO) hb
 obtain rfl : bG = .int .i64 aa := he
 refine hS.next (v := .int .i64 aa) (d := 9) rfl (by decide) (by rfl) ?_
 clear hS
 intro bU hS
 refine wpList_nil ?_
 refine bM _ _ ?_
 refine wp_seq_k (fun b0 bl => ?_)
 refine wp_seq_k (fun b1 bm => ?_)
 by_cases c1 : aa = 0
 rotate_left
 ·rw [if_neg c1] at H
  simp only [Option.some.injEq, Prod.mk.injEq] at H
  obtain ⟨rfl, rfl, rfl, rfl, rfl, rfl, rfl, rfl, rfl, rfl, rfl, rfl, rfl, rfl, rfl, rfl, rfl, rfl, rfl, rfl, rfl, rfl, rfl, rfl, rfl⟩ := H
  refine reg_seq (I := I4_ w w3 aY bf) (ps := [VI aa, VB (decide (aa = 0)), VB (decide (aa = 0)), VU, VU, VU, VU, VB false]) (by kernel_rfl) ?_ ?_ rfl hS ⟨aX, aP, aO, (bR bf)⟩ ?_ ?_
  ·exact bs4
  ·exact .v (.v (.v (.v (.v (.v (.v (.v (.nil))))))))
  ·refine .ms 0 rfl rfl rfl ?_
   refine .on rfl (fun a w hS hI hp => does_val (x_bin rfl (hp.V 0 rfl rfl) (rfl) (b_eql _ _ _ _ _ _)) rfl) ?_
   refine .mv 1 rfl rfl rfl ?_
   iterate 4 refine .sn 2 18 rfl rfl ((decide_eq_false c1)) ?_
   refine .pf 2 rfl rfl rfl ((decide_eq_false c1)) (fun _ => rfl) ?_
   exact .nil
  clear hS
  intro bz aW hS aG hp
  replace hS := ((((hS.nil).cons (hS.get 6 rfl)).cons (hS.get 2 rfl)).cons (hS.get 1 rfl)).cons (hS.get 0 rfl)
  have aS : sl _ 23 = .bool false := hp 7 (by decide)
  have hS := hS.cons aS
  clear hp aS
  refine bm _ _ ?_
  refine wp_cond_false ((hS.get 0 rfl).trans (bF rfl)) ?_
  refine wp_skip ?_
  refine bl _ _ ?_
  refine wp_seq_k (fun bs aQ => ?_)
  refine reg_seq_tail 3 (I := I4_ w w3 aY aW) (ps := [IsV ((frame_Here.v1 av ac aw ax ay az aA aB aC ad ae af ag ah ai aj ak al am an ao ap aq)), IsV (.slice A9 ab.length C9), VI aa]) (by kernel_rfl) ?_ ?_ rfl hS ⟨aG.1, aG.2.1, aG.2.2.1, (bR aW)⟩ ?_ ?_
  ·exact bs4
  ·exact .v (.v (.v (.nil)))
  ·refine .on rfl (fun a w hS hI hp => does_loadrow rfl (hS.get 3 rfl) (((hI.2.2.1).block aK (blk_lt ar)).trans ar) Try.underlying28 rfl (by kernel_rfl) rfl) ?_
   refine .ms 2 rfl rfl rfl ?_
   refine .ms 1 rfl rfl rfl ?_
   exact .nil
  clear hS
  intro bk bx hS au hp
  replace hS := (hS.nil).cons (hS.get 4 rfl)
  have aT : sl _ 25 = (frame_Here.v1 av ac aw ax ay az aA aB aC ad ae af ag ah ai aj ak al am an ao ap aq) := hp 0 (by decide)
  have aU : sl _ 26 = .slice A9 ab.length C9 := hp 1 (by decide)
  have aV : sl _ 27 = .int .i64 aa := hp 2 (by decide)
  have hS := hS.cons aT
  have hS := hS.cons aU
  have hS := hS.cons aV
  clear hp aT aU aV
  show wpList _ _ _ [_, _, _] _ _
  refine list_step rfl (does_storeAll (g := g4) (cs := (frame_Here.c0 av ac aw ax ay az aA aB aC ad ae af ag ah ai aj ak al am an ao ap aq)) rfl (hS.get 3 rfl) (hS.get 2 rfl) ((au.2.1.block g4 (blk_lt aD)).trans aD) (by kernel_rfl) (by kernel_rfl) (by kernel_rfl)) ?_
  rintro bq a6 ⟨rfl, aF, hT⟩
  have aR := hT.row (Kd.R_below a9 au.2.2.1) (Nat.lt_of_lt_of_le (blk_lt aD) (Nat.le_refl _))
  have bC := (Kd.R_reads' aR).2.2
  have bD := hT.blk ((au.2.2.1.block aK (blk_lt ar)).trans ar) (Nat.ne_of_gt (Nat.lt_of_lt_of_le (Nat.lt_of_lt_of_le (blk_lt aD) (Nat.le_refl _)) aJ))
  have aH := hT.below au.1 aZ (au.1).size
  clear hT
  refine list_step rfl (R := fun v w' => Below _ _ w' ∧ (IsV (.slice A9 ab.length C9)) v w') (does_val (x_assign rfl (hS.get 1 rfl)) rfl) ?_
  rintro bb br ⟨hb, he⟩
  have aM := below_step aH hb
  have aI := below_step (bR a6) hb
  obtain rfl : bb = .slice A9 ab.length C9 := he
  refine hS.next (v := .slice A9 ab.length C9) (d := 5) rfl (by decide) (by rfl) ?_
  clear hS
  intro bA hS
  refine list_step rfl (R := fun v w' => Below _ _ w' ∧ (VI aa) v w') (does_val (x_assign rfl (hS.get 1 rfl)) rfl) ?_
  rintro bc bQ ⟨hb, he⟩
  have aN := below_step aM hb
  have aE := below_step aI hb
  have a5 := below_step (bR br) hb
  obtain rfl : bc = .int .i64 aa := he
  refine hS.next (v := .int .i64 aa) (d := 6) rfl (by decide) (by rfl) ?_
  clear hS
  intro bB hS
  refine wpList_nil ?_
  refine aQ _ _ ?_
  refine wp_ret ?_
  (try simp only [Exit.then, Exit.inBlock, Exit.jump, Exit.noGoto])
  exact bodyPost_ret (v := .tuple #[(frame_Here.v1 av ac aw ax ay az aA aB aC ad ae af ag ah ai aj ak al am an ao ap aq), .slice A9 ab.length C9, .int .i64 aa]) (results_list (rs := [.cell 4 28, .tmp 5, .tmp 6]) rfl (by simp) (Vals.cell g4 28 (frame_Here.c0 av ac aw ax ay az aA aB aC ad ae af ag ah ai aj ak al am an ao ap aq) (0, 0) _ (hS.get 5 rfl) ((aE.block g4 (blk_lt aF)).trans aF) Try.underlying28 rfl (by kernel_rfl) (Vals.at (hS.get 1 rfl) (Vals.at (hS.get 0 rfl) .nil)))) hS.nodef ⟨.slice A9 ab.length C9, rfl, Kd.R_lower (Kd.R_below aR aE) (bd).size, aN⟩
 rw [if_pos c1] at H
 refine reg_seq (I := I4_ w w3 aY bf) (ps := [VI aa, VB (decide (aa = 0)), VB (decide (aa = 0)), VP aK 1, VI ac, VI a1, VB (!decide (ac = a1)), VB (!decide (ac = a1))]) (by kernel_rfl) ?_ ?_ rfl hS ⟨aX, aP, aO, (bR bf)⟩ ?_ ?_
 ·exact bs4
 ·exact .v (.v (.v (.v (.v (.v (.v (.v (.nil))))))))
 ·refine .ms 0 rfl rfl rfl ?_
  refine .on rfl (fun a w hS hI hp => does_val (x_bin rfl (hp.V 0 rfl rfl) (rfl) (b_eql _ _ _ _ _ _)) rfl) ?_
  refine .mv 1 rfl rfl rfl ?_
  refine .oy 2 18 rfl rfl ((decide_eq_true c1)) (fun a w hS hI hp => does_val (x_fieldE (b := 0) rfl (hS.get 2 rfl) Try.underlying28 rfl rfl (by kernel_rfl)) rfl) ?_
  refine .oy 2 18 rfl rfl ((decide_eq_true c1)) (fun a w hS hI hp => does_val (x_load1 (d := .int .i64) rfl (hp.V 3 rfl rfl) (by kernel_rfl) rfl ((blk_cell (((hI.2.2.1).block aK (blk_lt ar)).trans ar) 1).trans rfl)) rfl) ?_
  refine .oy 2 18 rfl rfl ((decide_eq_true c1)) (fun a w hS hI hp => does_val (x_move rfl (hS.get 7 rfl)) rfl) ?_
  refine .oy 2 18 rfl rfl ((decide_eq_true c1)) (fun a w hS hI hp => does_val (x_bin rfl (hp.V 4 rfl rfl) (hp.V 5 rfl rfl) (b_neq _ _ _ _ _ _)) rfl) ?_
  refine .pt 2 6 rfl rfl rfl ((decide_eq_true c1)) rfl ?_
  exact .nil
 clear hS
 intro bz aW hS aG hp
 replace hS := ((((hS.nil).cons (hS.get 6 rfl)).cons (hS.get 2 rfl)).cons (hS.get 1 rfl)).cons (hS.get 0 rfl)
 have aS : sl _ 23 = .bool (!decide (ac = a1)) := hp 7 (by decide)
 have hS := hS.cons aS
 clear hp aS
 refine bm _ _ ?_
 by_cases c2 : ac = a1
 rotate_left
 ·rw [if_neg c2] at H
  simp only [Option.some.injEq, Prod.mk.injEq] at H
  obtain ⟨rfl, rfl, rfl, rfl, rfl, rfl, rfl, rfl, rfl, rfl, rfl, rfl, rfl, rfl, rfl, rfl, rfl, rfl, rfl, rfl, rfl, rfl, rfl, rfl, rfl⟩ := H
  refine wp_cond_true ((hS.get 0 rfl).trans (bT (congrArg (!·) (decide_eq_false c2)))) ?_
  refine wp_seq_k (fun bs aQ => ?_)
  refine reg_seq_tail 1 (I := I4_ w w3 aY aW) (ps := [IsV ((frame_Here.v1 0 0 0 0 0 0 0 0 0 0 0 0 0 0 0 0 0 0 0 0 0 0 0))]) (by kernel_rfl) ?_ ?_ rfl hS ⟨aG.1, aG.2.1, aG.2.2.1, (bR aW)⟩ ?_ ?_
  ·exact bs4
  ·exact .v (.nil)
  ·refine .on rfl (fun a w hS hI hp => does_val (x_build (vs := []) rfl (by rw [Array.toList_map]; exact (show [] = _ from rfl)) (by kernel_rfl)) rfl) ?_
   exact .nil
  clear hS
  intro bk bx hS au hp
  replace hS := (hS.nil).cons (hS.get 4 rfl)
  have bp : sl _ 24 = (frame_Here.v1 0 0 0 0 0 0 0 0 0 0 0 0 0 0 0 0 0 0 0 0 0 0 0) := hp 0 (by decide)
  have hS := hS.cons bp
  clear hp bp
  show wpList _ _ _ [_, _, _] _ _
  refine list_step rfl (does_storeAll (g := g4) (cs := (frame_Here.c0 0 0 0 0 0 0 0 0 0 0 0 0 0 0 0 0 0 0 0 0 0 0 0)) rfl (hS.get 1 rfl) (hS.get 0 rfl) ((au.2.1.block g4 (blk_lt aD)).trans aD) (by kernel_rfl) (by kernel_rfl) (by kernel_rfl)) ?_
  rintro bq a6 ⟨rfl, aF, hT⟩
  have bY := hT.blk ((au.2.2.1.block aK (blk_lt ar)).trans ar) (Nat.ne_of_gt (Nat.lt_of_lt_of_le (Nat.lt_of_lt_of_le (blk_lt aD) (Nat.le_refl _)) aJ))
  have aH := hT.below au.1 aZ (au.1).size
  clear hT
  refine list_step rfl (R := fun v w' => Below _ _ w' ∧ (IsV (.slice none 0 0)) v w') (does_val (x_assign rfl (rfl)) rfl) ?_
  rintro bH bP ⟨hb, he⟩
  have bi := below_step aH hb
  have a3 := below_step (bR a6) hb
  obtain rfl : bH = .slice none 0 0 := he
  refine hS.next (v := .slice none 0 0) (d := 5) rfl (by decide) (by rfl) ?_
  clear hS
  intro bV hS
  refine list_step rfl (R := fun v w' => Below _ _ w' ∧ (VI 6) v w') (does_val (x_assign rfl (rfl)) rfl) ?_
  rintro bI b6 ⟨hb, he⟩
  have bj := below_step bi hb
  have a4 := below_step a3 hb
  have bu := below_step (bR bP) hb
  obtain rfl : bI = .int .i64 6 := he
  refine hS.next (v := .int .i64 6) (d := 6) rfl (by decide) (by rfl) ?_
  clear hS
  intro bW hS
  refine wpList_nil ?_
  refine aQ _ _ ?_
  refine wp_ret ?_
  (try simp only [Exit.then, Exit.inBlock, Exit.jump, Exit.noGoto])
  exact bodyPost_ret (v := .tuple #[(frame_Here.v1 0 0 0 0 0 0 0 0 0 0 0 0 0 0 0 0 0 0 0 0 0 0 0), .slice none 0 0, .int .i64 6]) (results_list (rs := [.cell 4 28, .tmp 5, .tmp 6]) rfl (by simp) (Vals.cell g4 28 (frame_Here.c0 0 0 0 0 0 0 0 0 0 0 0 0 0 0 0 0 0 0 0 0 0 0 0) (0, 0) _ (hS.get 3 rfl) ((a4.block g4 (blk_lt aF)).trans aF) Try.underlying28 rfl (by kernel_rfl) (Vals.at (hS.get 1 rfl) (Vals.at (hS.get 0 rfl) .nil)))) hS.nodef ⟨.slice none 0 0, rfl, Kd.R_nil _ _ _ _ _, bj⟩
 rw [if_pos c2] at H
 simp only [Option.some.injEq, Prod.mk.injEq] at H
 obtain ⟨rfl, rfl, rfl, rfl, rfl, rfl, rfl, rfl, rfl, rfl, rfl, rfl, rfl, rfl, rfl, rfl, rfl, rfl, rfl, rfl, rfl, rfl, rfl, rfl, rfl⟩ := H
 refine wp_cond_false ((hS.get 0 rfl).trans (bF (congrArg (!·) (decide_eq_true c2)))) ?_
 refine wp_skip ?_
 refine bl _ _ ?_
 refine wp_seq_k (fun bs aQ => ?_)
 refine reg_seq_tail 3 (I := I4_ w w3 aY aW) (ps := [IsV ((frame_Here.v1 av ac aw ax ay az aA aB aC ad ae af ag ah ai aj ak al am an ao ap aq)), IsV (.slice A9 ab.length C9), VI aa]) (by kernel_rfl) ?_ ?_ rfl hS ⟨aG.1, aG.2.1, aG.2.2.1, (bR aW)⟩ ?_ ?_
 ·exact bs4
 ·exact .v (.v (.v (.nil)))
 ·refine .on rfl (fun a w hS hI hp => does_loadrow rfl (hS.get 3 rfl) (((hI.2.2.1).block aK (blk_lt ar)).trans ar) Try.underlying28 rfl (by kernel_rfl) rfl) ?_
  refine .ms 2 rfl rfl rfl ?_
  refine .ms 1 rfl rfl rfl ?_
  exact .nil
 clear hS
 intro bk bx hS au hp
 replace hS := (hS.nil).cons (hS.get 4 rfl)
 have aT : sl _ 25 = (frame_Here.v1 av ac aw ax ay az aA aB aC ad ae af ag ah ai aj ak al am an ao ap aq) := hp 0 (by decide)
 have aU : sl _ 26 = .slice A9 ab.length C9 := hp 1 (by decide)
 have aV : sl _ 27 = .int .i64 aa := hp 2 (by decide)
 have hS := hS.cons aT
 have hS := hS.cons aU
 have hS := hS.cons aV
 clear hp aT aU aV
 show wpList _ _ _ [_, _, _] _ _
 refine list_step rfl (does_storeAll (g := g4) (cs := (frame_Here.c0 av ac aw ax ay az aA aB aC ad ae af ag ah ai aj ak al am an ao ap aq)) rfl (hS.get 3 rfl) (hS.get 2 rfl) ((au.2.1.block g4 (blk_lt aD)).trans aD) (by kernel_rfl) (by kernel_rfl) (by kernel_rfl)) ?_
 rintro bq a6 ⟨rfl, aF, hT⟩
 have aR := hT.row (Kd.R_below a9 au.2.2.1) (Nat.lt_of_lt_of_le (blk_lt aD) (Nat.le_refl _))
 have bC := (Kd.R_reads' aR).2.2
 have bD := hT.blk ((au.2.2.1.block aK (blk_lt ar)).trans ar) (Nat.ne_of_gt (Nat.lt_of_lt_of_le (Nat.lt_of_lt_of_le (blk_lt aD) (Nat.le_refl _)) aJ))
 have aH := hT.below au.1 aZ (au.1).size
 clear hT
 refine list_step rfl (R := fun v w' => Below _ _ w' ∧ (IsV (.slice A9 ab.length C9)) v w') (does_val (x_assign rfl (hS.get 1 rfl)) rfl) ?_
 rintro bb br ⟨hb, he⟩
 have aM := below_step aH hb
 have aI := below_step (bR a6) hb
 obtain rfl : bb = .slice A9 ab.length C9 := he
 refine hS.next (v := .slice A9 ab.length C9) (d := 5) rfl (by decide) (by rfl) ?_
 clear hS
 intro bA hS
 refine list_step rfl (R := fun v w' => Below _ _ w' ∧ (VI aa) v w') (does_val (x_assign rfl (hS.get 1 rfl)) rfl) ?_
 rintro bc bQ ⟨hb, he⟩
 have aN := below_step aM hb
 have aE := below_step aI hb
 have a5 := below_step (bR br) hb
 obtain rfl : bc = .int .i64 aa := he
 refine hS.next (v := .int .i64 aa) (d := 6) rfl (by decide) (by rfl) ?_
 clear hS
 intro bB hS
 refine wpList_nil ?_
 refine aQ _ _ ?_
 refine wp_ret ?_
 (try simp only [Exit.then, Exit.inBlock, Exit.jump, Exit.noGoto])
 exact bodyPost_ret (v := .tuple #[(frame_Here.v1 av ac aw ax ay az aA aB aC ad ae af ag ah ai aj ak al am an ao ap aq), .slice A9 ab.length C9, .int .i64 aa]) (results_list (rs := [.cell 4 28, .tmp 5, .tmp 6]) rfl (by simp) (Vals.cell g4 28 (frame_Here.c0 av ac aw ax ay az aA aB aC ad ae af ag ah ai aj ak al am an ao ap aq) (0, 0) _ (hS.get 5 rfl) ((aE.block g4 (blk_lt aF)).trans aF) Try.underlying28 rfl (by kernel_rfl) (Vals.at (hS.get 1 rfl) (Vals.at (hS.get 0 rfl) .nil)))) hS.nodef ⟨.slice A9 ab.length C9, rfl, Kd.R_lower (Kd.R_below aR aE) (bd).size, aN⟩
end Go.Proofs.Ytiomlbkakiienaa.P
