/- Functions and loops of the given program as Lean functions, and that the code comes to what they say: written by this session's own program; Lean checks it. -/
import Derived.Test.YtiomlbkakiienaaZzPx0
import Derived.Test.YtiomlbkakiienaaZzPx6
namespace Go.Proofs.Ytiomlbkakiienaa.P
open Go.RowKit Go.Proofs.YtiomlbkakiienaaW.PrintWords Go.Proofs.YtiomlbkakiienaaW.PrintLast Go.Proofs.YtiomlbkakiienaaW.PrintMore
attribute [local go_sem] max2_int min2_int max_two min_two max_three min_three max_four min_four   -- for this text's walks alone
set_option linter.unusedVariables false
set_option linter.unusedSimpArgs false
/-! ### tlv_Get: function 30: by our own printer -/
def tlv_Get.l1 (k : Nat) : Nat → (List Int) → Int → (List (S43)) → Int → Option (List (S43) × Int)
  | 0, _, _, _, _ => none
  | n1 + 1, y1_0, x1_1, y1_6, x1_7 => if x1_1 < (y1_0.length : Int) then ((octets_Get.f k y1_0 (wrap64 (x1_1 + 2)) 2).bind fun t1006 => (if (y1_6.length : Int) = 8 then (some ([], 7)) else (if t1006.2 = true then (if t1006.1 > (wrap64 ((wrap64 ((y1_0.length : Int) - x1_1)) - 4)) then (some ([], 2)) else (if (Int.tmod t1006.1 2) = 0 then (if x1_7 = 0 then ((octets_Get.f k y1_0 x1_1 2).bind fun t1024 => (if 0 ≤ (wrap64 (x1_1 + 4)) then (if (wrap64 (x1_1 + 4)) ≤ (wrap64 ((wrap64 (x1_1 + 4)) + t1006.1)) then (if (wrap64 ((wrap64 (x1_1 + 4)) + t1006.1)) ≤ (y1_0.length : Int) then (if (y1_6.length + [(⟨t1024.1, strOfNums ((y1_0.take (wrap64 ((wrap64 (x1_1 + 4)) + t1006.1) : Int).toNat).drop (wrap64 (x1_1 + 4) : Int).toNat)⟩ : S43)].length) * 24 ≤ 140737488355328 then (tlv_Get.l1 k n1 y1_0 (wrap64 (x1_1 + (wrap64 (4 + t1006.1)))) (y1_6 ++ [(⟨t1024.1, strOfNums ((y1_0.take (wrap64 ((wrap64 (x1_1 + 4)) + t1006.1) : Int).toNat).drop (wrap64 (x1_1 + 4) : Int).toNat)⟩ : S43)] : List S43) x1_7) else (none)) else (none)) else (none)) else (none))) else (some ([], x1_7))) else (some ([], 4)))) else (some ([], 2))))) else (if x1_7 = 0 then (some (y1_6, 0)) else (some ([], x1_7)))
def tlv_Get.f (k : Nat) (l0 : List Int) (a1 : Int) : Option (List (S43) × Int) := if a1 < 0 then (some ([], 1)) else (if a1 > (l0.length : Int) then (some ([], 1)) else (tlv_Get.l1 k k l0 a1 [] 0))
open Go.Proofs.Ytiomlbkakiienaa.E in
theorem tlv_Get.flat43 : Flat k43 (fun x => [.int .i64 x.f0, .string x.f1]) := ⟨fun w x cs h => k43_open h, fun w base x => k43_mkM w base _ x⟩
open Go.Proofs.Ytiomlbkakiienaa.E in
set_option maxHeartbeats 60000000 in
set_option maxRecDepth 100000 in
theorem tlv_Get.calls (k : Nat) (A0 : Option Addr) (bq : Nat) (l0 : List Int) (a1 : Int) (r1 : List (S43)) (r2 : Int) (w : World) (HR0 : Kd.C (Kd.int .u8) w A0 l0.length l0) (HC0 : l0.length ≤ bq) (h : tlv_Get.f k l0 a1 = some (r1, r2)) :
    Calls Try.prog 30 #[.slice A0 l0.length bq, .int .i64 a1] w fun e w' => ∃ v0_ : Value, e = .returned (.tuple #[v0_, .int .i64 r2]) ∧ Kd.R k43 43 w' w.heap.size (fun _ => True) v0_ r1 ∧ Below w.heap.size w w' := by
 have H := h
 clear h
 unfold tlv_Get.f at H
 by_cases c1 : a1 < 0
 ·rw [if_pos c1] at H
  simp only [Option.some.injEq, Prod.mk.injEq] at H
  obtain ⟨rfl, rfl⟩ := H
  refine calls_of_wp (fn := Try.f30) (by kernel_rfl) rfl ?_
  have hS := St.enter #[.slice A0 l0.length bq, .int .i64 a1] 81 (by simp) [(0, .slice A0 l0.length bq), (1, .int .i64 a1)] (by simp)
  have bH := Below.refl w.heap.size w
  refine wp_seq_k (fun K1 bO => ?_)
  refine reg_seq (I := I1_ w) (ps := [IsV (.slice none 0 0), VI 0]) (by kernel_rfl) ?_ ?_ rfl hS bH ?_ ?_
  ·exact bs1
  ·exact .v (.v (.nil))
  ·refine .on rfl (fun a w hS hI hp => does_val (x_assign rfl (rfl)) rfl) ?_
   refine .on rfl (fun a w hS hI hp => does_val (x_assign rfl (rfl)) rfl) ?_
   exact .nil
  clear hS
  intro cG w3 hS bY hp
  clear hp
  refine bO _ _ ?_
  refine wp_scope_straight ?_
  refine wp_seq_k (fun K4 cm => ?_)
  refine wp_seq_k (fun K5 bP => ?_)
  refine reg_seq (I := I2_ w w3) (ps := [VI a1, VB (decide (a1 < 0)), VB (decide (a1 < 0)), VU, VU, VU, VU, VB true]) (by kernel_rfl) ?_ ?_ rfl hS ⟨bY, (bR w3)⟩ ?_ ?_
  ·exact bs2
  ·exact .v (.v (.v (.v (.v (.v (.v (.v (.nil))))))))
  ·refine .ms 1 rfl rfl rfl ?_
   refine .on rfl (fun a w hS hI hp => does_val (x_bin rfl (hp.V 0 rfl rfl) (rfl) (b_lss _ _ _ _ _ _)) rfl) ?_
   refine .mv 1 rfl rfl rfl rfl ?_
   iterate 4 refine .sn 2 14 rfl rfl rfl rfl rfl ((decide_eq_true c1)) ?_
   refine .on rfl (fun a w hS hI hp => does_val (x_pickT rfl ((hp.V 2 rfl rfl).trans (bT (decide_eq_true c1))) (rfl)) rfl) ?_
   exact .nil
  clear hS
  intro cH w7 hS bZ hp
  have bb : sl _ 19 = .bool true := hp 7 (by decide)
  have hS := hS.cons bb
  clear hp bb
  refine bP _ _ ?_
  refine wp_cond_true ((hS.get 0 rfl).trans (bT rfl)) ?_
  refine wp_seq_k (fun K8 bQ => ?_)
  refine reg_seq (I := I2_ w w7) (ps := [IsV (.slice none 0 0), VI 1]) (by kernel_rfl) ?_ ?_ rfl hS ⟨bZ.1, (bR w7)⟩ ?_ ?_
  ·exact bs2
  ·exact .v (.v (.nil))
  ·refine .on rfl (fun a w hS hI hp => does_val (x_assign rfl (rfl)) rfl) ?_
   refine .on rfl (fun a w hS hI hp => does_val (x_assign rfl (rfl)) rfl) ?_
   exact .nil
  clear hS
  intro cI b4 hS bD hp
  replace hS := hS.nil
  have aB : sl _ 4 = .slice none 0 0 := hp 0 (by decide)
  have aC : sl _ 5 = .int .i64 1 := hp 1 (by decide)
  have hS := hS.cons aB
  have hS := hS.cons aC
  clear hp aB aC
  refine bQ _ _ ?_
  refine wp_ret ?_
  (try simp only [Exit.then, Exit.inBlock, Exit.jump, Exit.noGoto])
  exact bodyPost_ret (v := .tuple #[.slice none 0 0, .int .i64 1]) (results_list (rs := [.tmp 4, .tmp 5]) rfl (by simp) (Vals.at (hS.get 1 rfl) (Vals.at (hS.get 0 rfl) .nil))) hS.nodef ⟨.slice none 0 0, rfl, Kd.R_nil _ _ _ _ _, bD.1⟩
 rw [if_neg c1] at H
 by_cases c2 : a1 > (l0.length : Int)
 ·rw [if_pos c2] at H
  simp only [Option.some.injEq, Prod.mk.injEq] at H
  obtain ⟨rfl, rfl⟩ := H
  refine calls_of_wp (fn := Try.f30) (by kernel_rfl) rfl ?_
  have hS := St.enter #[.slice A0 l0.length bq, .int .i64 a1] 81 (by simp) [(0, .slice A0 l0.length bq), (1, .int .i64 a1)] (by simp)
  have bH := Below.refl w.heap.size w
  refine wp_seq_k (fun K1 bO => ?_)
  refine reg_seq (I := I1_ w) (ps := [IsV (.slice none 0 0), VI 0]) (by kernel_rfl) ?_ ?_ rfl hS bH ?_ ?_
  ·exact bs1
  ·exact .v (.v (.nil))
  ·refine .on rfl (fun a w hS hI hp => does_val (x_assign rfl (rfl)) rfl) ?_
   refine .on rfl (fun a w hS hI hp => does_val (x_assign rfl (rfl)) rfl) ?_
   exact .nil
  clear hS
  intro cG w3 hS bY hp
  clear hp
  refine bO _ _ ?_
  refine wp_scope_straight ?_
  refine wp_seq_k (fun K4 cm => ?_)
  refine wp_seq_k (fun K5 bP => ?_)
  refine reg_seq (I := I2_ w w3) (ps := [VI a1, VB (decide (a1 < 0)), VB (decide (a1 < 0)), VI a1, IsV (.slice A0 l0.length bq), VI (l0.length : Int), VB (decide (a1 > (l0.length : Int))), VB (decide (a1 > (l0.length : Int)))]) (by kernel_rfl) ?_ ?_ rfl hS ⟨bY, (bR w3)⟩ ?_ ?_
  ·exact bs2
  ·exact .v (.v (.v (.v (.v (.v (.v (.v (.nil))))))))
  ·refine .ms 1 rfl rfl rfl ?_
   refine .on rfl (fun a w hS hI hp => does_val (x_bin rfl (hp.V 0 rfl rfl) (rfl) (b_lss _ _ _ _ _ _)) rfl) ?_
   refine .mv 1 rfl rfl rfl rfl ?_
   refine .oy 2 14 rfl rfl rfl rfl rfl ((decide_eq_false c1)) (fun a w hS hI hp => does_val (x_move rfl (hS.get 1 rfl)) rfl) ?_
   refine .oy 2 14 rfl rfl rfl rfl rfl ((decide_eq_false c1)) (fun a w hS hI hp => does_val (x_move rfl (hS.get 0 rfl)) rfl) ?_
   refine .oy 2 14 rfl rfl rfl rfl rfl ((decide_eq_false c1)) (fun a w hS hI hp => does_val (x_len (e := 5) rfl (by kernel_rfl) (hp.V 4 rfl rfl)) rfl) ?_
   refine .oy 2 14 rfl rfl rfl rfl rfl ((decide_eq_false c1)) (fun a w hS hI hp => does_val (x_bin rfl (hp.V 3 rfl rfl) (hp.V 5 rfl rfl) (b_gtr _ _ _ _ _ _)) rfl) ?_
   refine .on rfl (fun a w hS hI hp => does_val (x_pickF rfl ((hp.V 2 rfl rfl).trans (bF (decide_eq_false c1))) (hp.V 6 rfl rfl)) rfl) ?_
   exact .nil
  clear hS
  intro cH w7 hS bZ hp
  have bb : sl _ 19 = .bool (decide (a1 > (l0.length : Int))) := hp 7 (by decide)
  have hS := hS.cons bb
  clear hp bb
  refine bP _ _ ?_
  refine wp_cond_true ((hS.get 0 rfl).trans (bT (decide_eq_true c2))) ?_
  refine wp_seq_k (fun K8 bQ => ?_)
  refine reg_seq (I := I2_ w w7) (ps := [IsV (.slice none 0 0), VI 1]) (by kernel_rfl) ?_ ?_ rfl hS ⟨bZ.1, (bR w7)⟩ ?_ ?_
  ·exact bs2
  ·exact .v (.v (.nil))
  ·refine .on rfl (fun a w hS hI hp => does_val (x_assign rfl (rfl)) rfl) ?_
   refine .on rfl (fun a w hS hI hp => does_val (x_assign rfl (rfl)) rfl) ?_
   exact .nil
  clear hS
  intro cI b4 hS bD hp
  replace hS := hS.nil
  have aB : sl _ 4 = .slice none 0 0 := hp 0 (by decide)
  have aC : sl _ 5 = .int .i64 1 := hp 1 (by decide)
  have hS := hS.cons aB
  have hS := hS.cons aC
  clear hp aB aC
  refine bQ _ _ ?_
  refine wp_ret ?_
  (try simp only [Exit.then, Exit.inBlock, Exit.jump, Exit.noGoto])
  exact bodyPost_ret (v := .tuple #[.slice none 0 0, .int .i64 1]) (results_list (rs := [.tmp 4, .tmp 5]) rfl (by simp) (Vals.at (hS.get 1 rfl) (Vals.at (hS.get 0 rfl) .nil))) hS.nodef ⟨.slice none 0 0, rfl, Kd.R_nil _ _ _ _ _, bD.1⟩
 rw [if_neg c2] at H
 refine calls_of_wp (fn := Try.f30) (by kernel_rfl) rfl ?_
 have hS := St.enter #[.slice A0 l0.length bq, .int .i64 a1] 81 (by simp) [(0, .slice A0 l0.length bq), (1, .int .i64 a1)] (by simp)
 have bH := Below.refl w.heap.size w
 refine wp_seq_k (fun K1 bO => ?_)
 refine reg_seq (I := I1_ w) (ps := [IsV (.slice none 0 0), VI 0]) (by kernel_rfl) ?_ ?_ rfl hS bH ?_ ?_
 ·exact bs1
 ·exact .v (.v (.nil))
 ·refine .on rfl (fun a w hS hI hp => does_val (x_assign rfl (rfl)) rfl) ?_
  refine .on rfl (fun a w hS hI hp => does_val (x_assign rfl (rfl)) rfl) ?_
  exact .nil
 clear hS
 intro cG w3 hS bY hp
 clear hp
 refine bO _ _ ?_
 refine wp_scope_straight ?_
 refine wp_seq_k (fun K4 cm => ?_)
 refine wp_seq_k (fun K5 bP => ?_)
 refine reg_seq (I := I2_ w w3) (ps := [VI a1, VB (decide (a1 < 0)), VB (decide (a1 < 0)), VI a1, IsV (.slice A0 l0.length bq), VI (l0.length : Int), VB (decide (a1 > (l0.length : Int))), VB (decide (a1 > (l0.length : Int)))]) (by kernel_rfl) ?_ ?_ rfl hS ⟨bY, (bR w3)⟩ ?_ ?_
 ·exact bs2
 ·exact .v (.v (.v (.v (.v (.v (.v (.v (.nil))))))))
 ·refine .ms 1 rfl rfl rfl ?_
  refine .on rfl (fun a w hS hI hp => does_val (x_bin rfl (hp.V 0 rfl rfl) (rfl) (b_lss _ _ _ _ _ _)) rfl) ?_
  refine .mv 1 rfl rfl rfl rfl ?_
  refine .oy 2 14 rfl rfl rfl rfl rfl ((decide_eq_false c1)) (fun a w hS hI hp => does_val (x_move rfl (hS.get 1 rfl)) rfl) ?_
  refine .oy 2 14 rfl rfl rfl rfl rfl ((decide_eq_false c1)) (fun a w hS hI hp => does_val (x_move rfl (hS.get 0 rfl)) rfl) ?_
  refine .oy 2 14 rfl rfl rfl rfl rfl ((decide_eq_false c1)) (fun a w hS hI hp => does_val (x_len (e := 5) rfl (by kernel_rfl) (hp.V 4 rfl rfl)) rfl) ?_
  refine .oy 2 14 rfl rfl rfl rfl rfl ((decide_eq_false c1)) (fun a w hS hI hp => does_val (x_bin rfl (hp.V 3 rfl rfl) (hp.V 5 rfl rfl) (b_gtr _ _ _ _ _ _)) rfl) ?_
  refine .on rfl (fun a w hS hI hp => does_val (x_pickF rfl ((hp.V 2 rfl rfl).trans (bF (decide_eq_false c1))) (hp.V 6 rfl rfl)) rfl) ?_
  exact .nil
 clear hS
 intro cH w7 hS bZ hp
 have bb : sl _ 19 = .bool (decide (a1 > (l0.length : Int))) := hp 7 (by decide)
 have hS := hS.cons bb
 clear hp bb
 refine bP _ _ ?_
 refine wp_cond_false ((hS.get 0 rfl).trans (bF (decide_eq_false c2))) ?_
 refine wp_skip ?_
 refine cm _ _ ?_
 refine wp_seq_k (fun K8 bQ => ?_)
 refine reg_seq (I := I2_ w w7) (ps := [IsV (.slice none 0 0)]) (by kernel_rfl) ?_ ?_ rfl hS ⟨bZ.1, (bR w7)⟩ ?_ ?_
 ·exact bs2
 ·exact .v (.nil)
 ·refine .on rfl (fun a w hS hI hp => does_val (x_assign rfl (rfl)) rfl) ?_
  exact .nil
 clear hS
 intro cI b4 hS bD hp
 replace hS := ((hS.nil).cons (hS.get 2 rfl)).cons (hS.get 1 rfl)
 have cJ : sl _ 6 = .slice none 0 0 := hp 0 (by decide)
 have hS := hS.cons cJ
 clear hp cJ
 refine bQ _ _ ?_
 refine wp_seq_k (fun dj cK => ?_)
 refine reg_seq (I := I2_ w b4) (ps := [VI 0]) (by kernel_rfl) ?_ ?_ rfl hS ⟨bD.1, (bR b4)⟩ ?_ ?_
 ·exact bs2
 ·exact .v (.nil)
 ·refine .on rfl (fun a w hS hI hp => does_val (x_assign rfl (rfl)) rfl) ?_
  exact .nil
 clear hS
 intro di dn hS cM hp
 have aY : sl _ 7 = .int .i64 0 := hp 0 (by decide)
 have hS := hS.cons aY
 clear hp aY
 refine cK _ _ ?_
 refine wp_seq_k (fun dk cL => ?_)
 refine wp_label ?_
 refine cL _ _ ?_
 refine wp_seq_k (fun dl bh => ?_)
 refine wp_block ?_
 replace hS := ((((hS.nil).cons (hS.get 0 rfl)).cons (hS.get 1 rfl)).cons (hS.get 3 rfl)).cons (hS.get 2 rfl)
 refine wp_loop_ghost (fun n_ a_ af => ∃ (ac : List Int) (aj : Option Addr) (ak : Nat) (ab : Int) (ae : List (S43)) (ay : Option Addr) (au : Nat) (an : Int), tlv_Get.l1 k n_ ac ab ae an = some (r1, r2) ∧ St 81 [(0, .slice aj ac.length ak), (1, .int .i64 ab), (6, .slice ay ae.length au), (7, .int .i64 an)] a_ ∧ Below w.heap.size w af ∧ ac.length ≤ ak ∧ Kd.C (Kd.int .u8) w aj ac.length ac ∧ ae.length ≤ au ∧ Kd.R k43 43 af w.heap.size (fun _ => True) (.slice ay ae.length au) ae) k ⟨l0, A0, bq, a1, [], none, 0, 0, H, hS, cM.1, HC0, (HR0), (Nat.le_refl _), (Kd.R_nil _ _ _ _ _)⟩ ?_
 clear H hS
 rintro n1 dm af ⟨ac, aj, ak, ab, ae, ay, au, an, H, hS, aI, aR, aK, dg, bS⟩
 rcases n1 with _ | n1
 ·exact absurd H (by simp [tlv_Get.l1])
 rw [tlv_Get.l1] at H
 (try dsimp only at H)
 by_cases c3 : ab < (ac.length : Int)
 rotate_left
 ·rw [if_neg c3] at H
  by_cases c4 : an = 0
  rotate_left
  ·rw [if_neg c4] at H
   simp only [Option.some.injEq, Prod.mk.injEq] at H
   obtain ⟨rfl, rfl⟩ := H
   refine wp_seq_k (fun a4 az => ?_)
   refine wp_seq_k (fun a5 ap => ?_)
   refine reg_seq (I := I2_ w af) (ps := [VI ab, IsV (.slice aj ac.length ak), VI (ac.length : Int), VB (decide (ab < (ac.length : Int)))]) (by kernel_rfl) ?_ ?_ rfl hS ⟨aI, (bR af)⟩ ?_ ?_
   ·exact bs2
   ·exact .v (.v (.v (.v (.nil))))
   ·refine .ms 1 rfl rfl rfl ?_
    refine .ms 0 rfl rfl rfl ?_
    refine .on rfl (fun a w hS hI hp => does_val (x_len (e := 5) rfl (by kernel_rfl) (hp.V 1 rfl rfl)) rfl) ?_
    refine .on rfl (fun a w hS hI hp => does_val (x_bin rfl (hp.V 0 rfl rfl) (hp.V 2 rfl rfl) (b_lss _ _ _ _ _ _)) rfl) ?_
    exact .nil
   clear hS
   intro aT al hS ah hp
   have ar : sl _ 23 = .bool (decide (ab < (ac.length : Int))) := hp 3 (by decide)
   have hS := hS.cons ar
   clear hp ar
   refine ap _ _ ?_
   refine wp_cond_false ((hS.get 0 rfl).trans (bF (decide_eq_false c3))) ?_
   refine wp_exit ?_
   (try simp only [Exit.then, Exit.inBlock, reduceIte])
   refine bh _ _ ?_
   refine wp_seq_k (fun a6 av => ?_)
   refine wp_seq_k (fun cz bA => ?_)
   refine reg_seq (I := I3_ w af al) (ps := [VI an, VB (!decide (an = 0))]) (by kernel_rfl) ?_ ?_ rfl hS ⟨ah.1, ah.2, (bR al)⟩ ?_ ?_
   ·exact bs3
   ·exact .v (.v (.nil))
   ·refine .ms 4 rfl rfl rfl ?_
    refine .on rfl (fun a w hS hI hp => does_val (x_bin rfl (hp.V 0 rfl rfl) (rfl) (b_neq _ _ _ _ _ _)) rfl) ?_
    exact .nil
   clear hS
   intro aU am hS ai hp
   replace hS := ((hS.nil).cons (hS.get 4 rfl)).cons (hS.get 3 rfl)
   have aA : sl _ 78 = .bool (!decide (an = 0)) := hp 1 (by decide)
   have hS := hS.cons aA
   clear hp aA
   refine bA _ _ ?_
   refine wp_cond_true ((hS.get 0 rfl).trans (bT (congrArg (!·) (decide_eq_false c4)))) ?_
   refine wp_seq_k (fun a7 aq => ?_)
   refine reg_seq (I := I3_ w af am) (ps := [VI an, IsV (.slice none 0 0), VI an]) (by kernel_rfl) ?_ ?_ rfl hS ⟨ai.1, ai.2.1, (bR am)⟩ ?_ ?_
   ·exact bs3
   ·exact .v (.v (.v (.nil)))
   ·refine .ms 2 rfl rfl rfl ?_
    refine .on rfl (fun a w hS hI hp => does_val (x_assign rfl (rfl)) rfl) ?_
    refine .asg 0 rfl rfl rfl rfl ?_
    exact .nil
   clear hS
   intro cb cE hS bm hp
   replace hS := hS.nil
   have aB : sl _ 4 = .slice none 0 0 := hp 1 (by decide)
   have aC : sl _ 5 = .int .i64 an := hp 2 (by decide)
   have hS := hS.cons aB
   have hS := hS.cons aC
   clear hp aB aC
   refine aq _ _ ?_
   refine wp_ret ?_
   (try simp only [Exit.then, Exit.inBlock, Exit.jump, Exit.noGoto])
   exact bodyPost_ret (v := .tuple #[.slice none 0 0, .int .i64 an]) (results_list (rs := [.tmp 4, .tmp 5]) rfl (by simp) (Vals.at (hS.get 1 rfl) (Vals.at (hS.get 0 rfl) .nil))) hS.nodef ⟨.slice none 0 0, rfl, Kd.R_nil _ _ _ _ _, bm.1⟩
  rw [if_pos c4] at H
  simp only [Option.some.injEq, Prod.mk.injEq] at H
  obtain ⟨rfl, rfl⟩ := H
  refine wp_seq_k (fun a4 az => ?_)
  refine wp_seq_k (fun a5 ap => ?_)
  refine reg_seq (I := I2_ w af) (ps := [VI ab, IsV (.slice aj ac.length ak), VI (ac.length : Int), VB (decide (ab < (ac.length : Int)))]) (by kernel_rfl) ?_ ?_ rfl hS ⟨aI, (bR af)⟩ ?_ ?_
  ·exact bs2
  ·exact .v (.v (.v (.v (.nil))))
  ·refine .ms 1 rfl rfl rfl ?_
   refine .ms 0 rfl rfl rfl ?_
   refine .on rfl (fun a w hS hI hp => does_val (x_len (e := 5) rfl (by kernel_rfl) (hp.V 1 rfl rfl)) rfl) ?_
   refine .on rfl (fun a w hS hI hp => does_val (x_bin rfl (hp.V 0 rfl rfl) (hp.V 2 rfl rfl) (b_lss _ _ _ _ _ _)) rfl) ?_
   exact .nil
  clear hS
  intro aT al hS ah hp
  have ar : sl _ 23 = .bool (decide (ab < (ac.length : Int))) := hp 3 (by decide)
  have hS := hS.cons ar
  clear hp ar
  refine ap _ _ ?_
  refine wp_cond_false ((hS.get 0 rfl).trans (bF (decide_eq_false c3))) ?_
  refine wp_exit ?_
  (try simp only [Exit.then, Exit.inBlock, reduceIte])
  refine bh _ _ ?_
  refine wp_seq_k (fun a6 av => ?_)
  refine wp_seq_k (fun cz bA => ?_)
  refine reg_seq (I := I3_ w af al) (ps := [VI an, VB (!decide (an = 0))]) (by kernel_rfl) ?_ ?_ rfl hS ⟨ah.1, ah.2, (bR al)⟩ ?_ ?_
  ·exact bs3
  ·exact .v (.v (.nil))
  ·refine .ms 4 rfl rfl rfl ?_
   refine .on rfl (fun a w hS hI hp => does_val (x_bin rfl (hp.V 0 rfl rfl) (rfl) (b_neq _ _ _ _ _ _)) rfl) ?_
   exact .nil
  clear hS
  intro aU am hS ai hp
  replace hS := ((hS.nil).cons (hS.get 4 rfl)).cons (hS.get 3 rfl)
  have aA : sl _ 78 = .bool (!decide (an = 0)) := hp 1 (by decide)
  have hS := hS.cons aA
  clear hp aA
  refine bA _ _ ?_
  refine wp_cond_false ((hS.get 0 rfl).trans (bF (congrArg (!·) (decide_eq_true c4)))) ?_
  refine wp_skip ?_
  refine av _ _ ?_
  refine wp_seq_k (fun a7 aq => ?_)
  refine reg_seq (I := I3_ w af am) (ps := [IsV (.slice ay ae.length au), IsV (.slice ay ae.length au), VI 0]) (by kernel_rfl) ?_ ?_ rfl hS ⟨ai.1, ai.2.1, (bR am)⟩ ?_ ?_
  ·exact bs3
  ·exact .v (.v (.v (.nil)))
  ·refine .ms 1 rfl rfl rfl ?_
   refine .asg 0 rfl rfl rfl rfl ?_
   refine .on rfl (fun a w hS hI hp => does_val (x_assign rfl (rfl)) rfl) ?_
   exact .nil
  clear hS
  intro cb cE hS bm hp
  replace hS := hS.nil
  have aB : sl _ 4 = .slice ay ae.length au := hp 1 (by decide)
  have aC : sl _ 5 = .int .i64 0 := hp 2 (by decide)
  have hS := hS.cons aB
  have hS := hS.cons aC
  clear hp aB aC
  refine aq _ _ ?_
  refine wp_ret ?_
  (try simp only [Exit.then, Exit.inBlock, Exit.jump, Exit.noGoto])
  exact bodyPost_ret (v := .tuple #[.slice ay ae.length au, .int .i64 0]) (results_list (rs := [.tmp 4, .tmp 5]) rfl (by simp) (Vals.at (hS.get 1 rfl) (Vals.at (hS.get 0 rfl) .nil))) hS.nodef ⟨.slice ay ae.length au, rfl, Kd.R_lower (Kd.R_below bS bm.2.1) (Nat.le_refl _), bm.1⟩
 rw [if_pos c3] at H
 obtain ⟨cC, a0, H⟩ := Option.bind_eq_some_iff.mp H
 obtain ⟨aa, ad⟩ := cC
 (try dsimp only at H)
 by_cases c4 : (ae.length : Int) = 8
 ·rw [if_pos c4] at H
  simp only [Option.some.injEq, Prod.mk.injEq] at H
  obtain ⟨rfl, rfl⟩ := H
  refine wp_seq_k (fun a4 az => ?_)
  refine wp_seq_k (fun a5 ap => ?_)
  refine reg_seq (I := I2_ w af) (ps := [VI ab, IsV (.slice aj ac.length ak), VI (ac.length : Int), VB (decide (ab < (ac.length : Int)))]) (by kernel_rfl) ?_ ?_ rfl hS ⟨aI, (bR af)⟩ ?_ ?_
  ·exact bs2
  ·exact .v (.v (.v (.v (.nil))))
  ·refine .ms 1 rfl rfl rfl ?_
   refine .ms 0 rfl rfl rfl ?_
   refine .on rfl (fun a w hS hI hp => does_val (x_len (e := 5) rfl (by kernel_rfl) (hp.V 1 rfl rfl)) rfl) ?_
   refine .on rfl (fun a w hS hI hp => does_val (x_bin rfl (hp.V 0 rfl rfl) (hp.V 2 rfl rfl) (b_lss _ _ _ _ _ _)) rfl) ?_
   exact .nil
  clear hS
  intro aT al hS ah hp
  have ar : sl _ 23 = .bool (decide (ab < (ac.length : Int))) := hp 3 (by decide)
  have hS := hS.cons ar
  clear hp ar
  refine ap _ _ ?_
  refine wp_cond_true ((hS.get 0 rfl).trans (bT (decide_eq_true c3))) ?_
  refine wp_skip ?_
  refine az _ _ ?_
  refine wp_block ?_
  refine wp_seq_k (fun a6 av => ?_)
  refine reg_seq (I := I3_ w af al) (ps := [IsV (.slice aj ac.length ak), VI ab, VI (wrap64 (ab + 2)), IsV (.tuple #[.int .i64 aa, .bool ad]), IsV (.tuple #[.int .i64 aa, .bool ad]), VI aa, VB ad, VI aa, VB ad]) (by kernel_rfl) ?_ ?_ rfl hS ⟨ah.1, ah.2, (bR al)⟩ ?_ ?_
  ·exact bs3
  ·exact .v (.v (.v (.v (.v (.v (.v (.v (.v (.nil)))))))))
  ·refine .ms 1 rfl rfl rfl ?_
   refine .ms 2 rfl rfl rfl ?_
   refine .on rfl (fun a w hS hI hp => does_val (x_bin rfl (hp.V 1 rfl rfl) (rfl) (b_add _ _ _ _ _)) rfl) ?_
   refine .on rfl (fun a w hS hI hp => does_call (by kernel_rfl) (ar3 (hp.V 0 rfl rfl) (hp.V 2 rfl rfl) (rfl)) ((octets_Get.calls k _ _ ac (wrap64 (ab + 2)) 2 aa ad _ (Kd.C_below aK hI.1) aR a0).mono fun _ _ h => ⟨_, h.1, h.2.below, rfl⟩)) ?_
   refine .mv 3 rfl rfl rfl rfl ?_
   iterate 2 refine .on rfl (fun a w hS hI hp => does_val (x_extract rfl (hp.V 4 rfl rfl) rfl) rfl) ?_
   refine .asg 5 rfl rfl rfl rfl ?_
   refine .asg 6 rfl rfl rfl rfl ?_
   exact .nil
  clear hS
  intro aU am hS ai hp
  replace hS := ((((hS.nil).cons (hS.get 4 rfl)).cons (hS.get 3 rfl)).cons (hS.get 2 rfl)).cons (hS.get 1 rfl)
  have aO : sl _ 8 = .int .i64 aa := hp 7 (by decide)
  have aP : sl _ 9 = .bool ad := hp 8 (by decide)
  have hS := hS.cons aO
  have hS := hS.cons aP
  clear hp aO aP
  refine av _ _ ?_
  refine wp_seq_k (fun a7 aq => ?_)
  refine wp_block ?_
  refine wp_seq_k (fun bk aE => ?_)
  refine reg_seq (I := I3_ w af am) (ps := [IsV (.slice ay ae.length au), VI (ae.length : Int), VB (decide ((ae.length : Int) = 8)), VB (decide ((ae.length : Int) = 8))]) (by kernel_rfl) ?_ ?_ rfl hS ⟨ai.1, ai.2.1, (bR am)⟩ ?_ ?_
  ·exact bs3
  ·exact .v (.v (.v (.v (.nil))))
  ·refine .ms 4 rfl rfl rfl ?_
   refine .on rfl (fun a w hS hI hp => does_val (x_len (e := 43) rfl (by kernel_rfl) (hp.V 0 rfl rfl)) rfl) ?_
   refine .on rfl (fun a w hS hI hp => does_val (x_bin rfl (hp.V 1 rfl rfl) (rfl) (b_eql _ _ _ _ _ _)) rfl) ?_
   refine .asg 2 rfl rfl rfl rfl ?_
   exact .nil
  clear hS
  intro a8 ax hS ao hp
  have aF : sl _ 31 = .bool (decide ((ae.length : Int) = 8)) := hp 3 (by decide)
  have hS := hS.cons aF
  clear hp aF
  refine aE _ _ ?_
  refine wp_cond_true ((hS.get 0 rfl).trans (bT (decide_eq_true c4))) ?_
  replace hS := ((((((hS.nil).cons (hS.get 5 rfl)).cons (hS.get 4 rfl)).cons (hS.get 3 rfl)).cons (hS.get 2 rfl)).cons (hS.get 1 rfl)).cons (hS.get 0 rfl)
  refine reg_seq (I := I3_ w af ax) (ps := [VI 7]) (by kernel_rfl) ?_ ?_ rfl hS ⟨ao.1, ao.2.1, (bR ax)⟩ ?_ ?_
  ·exact bs3
  ·exact .v (.nil)
  ·refine .on rfl (fun a w hS hI hp => does_val (x_assign rfl (rfl)) rfl) ?_
   exact .nil
  clear hS
  intro cN b5 hS bU hp
  replace hS := ((((hS.nil).cons (hS.get 5 rfl)).cons (hS.get 4 rfl)).cons (hS.get 3 rfl)).cons (hS.get 2 rfl)
  have aY : sl _ 7 = .int .i64 7 := hp 0 (by decide)
  have hS := hS.cons aY
  clear hp aY
  refine aq _ _ ?_
  refine wp_seq_k (fun db cV => ?_)
  refine wp_seq_k (fun bE aV => ?_)
  refine reg_seq (I := I3_ w af b5) (ps := [VI 7, VB (!decide (7 = 0))]) (by kernel_rfl) ?_ ?_ rfl hS ⟨bU.1, bU.2.1, (bR b5)⟩ ?_ ?_
  ·exact bs3
  ·exact .v (.v (.nil))
  ·refine .ms 0 rfl rfl rfl ?_
   refine .on rfl (fun a w hS hI hp => does_val (x_bin rfl (hp.V 0 rfl rfl) (rfl) (b_neq _ _ _ _ _ _)) rfl) ?_
   exact .nil
  clear hS
  intro bz aM hS aH hp
  have aG : sl _ 52 = .bool (!decide (7 = 0)) := hp 1 (by decide)
  have hS := hS.cons aG
  clear hp aG
  refine aV _ _ ?_
  refine wp_cond_true ((hS.get 0 rfl).trans (bT (congrArg (!·) (decide_eq_false (by decide))))) ?_
  refine wp_exit ?_
  (try simp only [Exit.then, Exit.inBlock, reduceIte])
  refine bh _ _ ?_
  refine wp_seq_k (fun bu aW => ?_)
  refine wp_seq_k (fun b1 a9 => ?_)
  refine reg_seq (I := I3_ w af aM) (ps := [VI 7, VB (!decide (7 = 0))]) (by kernel_rfl) ?_ ?_ rfl hS ⟨aH.1, aH.2.1, (bR aM)⟩ ?_ ?_
  ·exact bs3
  ·exact .v (.v (.nil))
  ·refine .ms 1 rfl rfl rfl ?_
   refine .on rfl (fun a w hS hI hp => does_val (x_bin rfl (hp.V 0 rfl rfl) (rfl) (b_neq _ _ _ _ _ _)) rfl) ?_
   exact .nil
  clear hS
  intro bI aZ hS aQ hp
  replace hS := ((hS.nil).cons (hS.get 5 rfl)).cons (hS.get 1 rfl)
  have aA : sl _ 78 = .bool (!decide (7 = 0)) := hp 1 (by decide)
  have hS := hS.cons aA
  clear hp aA
  refine a9 _ _ ?_
  refine wp_cond_true ((hS.get 0 rfl).trans (bT (congrArg (!·) (decide_eq_false (by decide))))) ?_
  refine wp_seq_k (fun bv aN => ?_)
  refine reg_seq (I := I3_ w af aZ) (ps := [VI 7, IsV (.slice none 0 0), VI 7]) (by kernel_rfl) ?_ ?_ rfl hS ⟨aQ.1, aQ.2.1, (bR aZ)⟩ ?_ ?_
  ·exact bs3
  ·exact .v (.v (.v (.nil)))
  ·refine .ms 1 rfl rfl rfl ?_
   refine .on rfl (fun a w hS hI hp => does_val (x_assign rfl (rfl)) rfl) ?_
   refine .asg 0 rfl rfl rfl rfl ?_
   exact .nil
  clear hS
  intro bJ bg hS aX hp
  replace hS := hS.nil
  have aB : sl _ 4 = .slice none 0 0 := hp 1 (by decide)
  have aC : sl _ 5 = .int .i64 7 := hp 2 (by decide)
  have hS := hS.cons aB
  have hS := hS.cons aC
  clear hp aB aC
  refine aN _ _ ?_
  refine wp_ret ?_
  (try simp only [Exit.then, Exit.inBlock, Exit.jump, Exit.noGoto])
  exact bodyPost_ret (v := .tuple #[.slice none 0 0, .int .i64 7]) (results_list (rs := [.tmp 4, .tmp 5]) rfl (by simp) (Vals.at (hS.get 1 rfl) (Vals.at (hS.get 0 rfl) .nil))) hS.nodef ⟨.slice none 0 0, rfl, Kd.R_nil _ _ _ _ _, aX.1⟩
 rw [if_neg c4] at H
 by_cases c5 : ad = true
 rotate_left
 ·rw [if_neg c5] at H
  simp only [Option.some.injEq, Prod.mk.injEq] at H
  obtain ⟨rfl, rfl⟩ := H
  refine wp_seq_k (fun a4 az => ?_)
  refine wp_seq_k (fun a5 ap => ?_)
  refine reg_seq (I := I2_ w af) (ps := [VI ab, IsV (.slice aj ac.length ak), VI (ac.length : Int), VB (decide (ab < (ac.length : Int)))]) (by kernel_rfl) ?_ ?_ rfl hS ⟨aI, (bR af)⟩ ?_ ?_
  ·exact bs2
  ·exact .v (.v (.v (.v (.nil))))
  ·refine .ms 1 rfl rfl rfl ?_
   refine .ms 0 rfl rfl rfl ?_
   refine .on rfl (fun a w hS hI hp => does_val (x_len (e := 5) rfl (by kernel_rfl) (hp.V 1 rfl rfl)) rfl) ?_
   refine .on rfl (fun a w hS hI hp => does_val (x_bin rfl (hp.V 0 rfl rfl) (hp.V 2 rfl rfl) (b_lss _ _ _ _ _ _)) rfl) ?_
   exact .nil
  clear hS
  intro aT al hS ah hp
  have ar : sl _ 23 = .bool (decide (ab < (ac.length : Int))) := hp 3 (by decide)
  have hS := hS.cons ar
  clear hp ar
  refine ap _ _ ?_
  refine wp_cond_true ((hS.get 0 rfl).trans (bT (decide_eq_true c3))) ?_
  refine wp_skip ?_
  refine az _ _ ?_
  refine wp_block ?_
  refine wp_seq_k (fun a6 av => ?_)
  refine reg_seq (I := I3_ w af al) (ps := [IsV (.slice aj ac.length ak), VI ab, VI (wrap64 (ab + 2)), IsV (.tuple #[.int .i64 aa, .bool ad]), IsV (.tuple #[.int .i64 aa, .bool ad]), VI aa, VB ad, VI aa, VB ad]) (by kernel_rfl) ?_ ?_ rfl hS ⟨ah.1, ah.2, (bR al)⟩ ?_ ?_
  ·exact bs3
  ·exact .v (.v (.v (.v (.v (.v (.v (.v (.v (.nil)))))))))
  ·refine .ms 1 rfl rfl rfl ?_
   refine .ms 2 rfl rfl rfl ?_
   refine .on rfl (fun a w hS hI hp => does_val (x_bin rfl (hp.V 1 rfl rfl) (rfl) (b_add _ _ _ _ _)) rfl) ?_
   refine .on rfl (fun a w hS hI hp => does_call (by kernel_rfl) (ar3 (hp.V 0 rfl rfl) (hp.V 2 rfl rfl) (rfl)) ((octets_Get.calls k _ _ ac (wrap64 (ab + 2)) 2 aa ad _ (Kd.C_below aK hI.1) aR a0).mono fun _ _ h => ⟨_, h.1, h.2.below, rfl⟩)) ?_
   refine .mv 3 rfl rfl rfl rfl ?_
   iterate 2 refine .on rfl (fun a w hS hI hp => does_val (x_extract rfl (hp.V 4 rfl rfl) rfl) rfl) ?_
   refine .asg 5 rfl rfl rfl rfl ?_
   refine .asg 6 rfl rfl rfl rfl ?_
   exact .nil
  clear hS
  intro aU am hS ai hp
  replace hS := ((((hS.nil).cons (hS.get 4 rfl)).cons (hS.get 3 rfl)).cons (hS.get 2 rfl)).cons (hS.get 1 rfl)
  have aO : sl _ 8 = .int .i64 aa := hp 7 (by decide)
  have aP : sl _ 9 = .bool ad := hp 8 (by decide)
  have hS := hS.cons aO
  have hS := hS.cons aP
  clear hp aO aP
  refine av _ _ ?_
  refine wp_seq_k (fun a7 aq => ?_)
  refine wp_block ?_
  refine wp_seq_k (fun bk aE => ?_)
  refine reg_seq (I := I3_ w af am) (ps := [IsV (.slice ay ae.length au), VI (ae.length : Int), VB (decide ((ae.length : Int) = 8)), VB (decide ((ae.length : Int) = 8))]) (by kernel_rfl) ?_ ?_ rfl hS ⟨ai.1, ai.2.1, (bR am)⟩ ?_ ?_
  ·exact bs3
  ·exact .v (.v (.v (.v (.nil))))
  ·refine .ms 4 rfl rfl rfl ?_
   refine .on rfl (fun a w hS hI hp => does_val (x_len (e := 43) rfl (by kernel_rfl) (hp.V 0 rfl rfl)) rfl) ?_
   refine .on rfl (fun a w hS hI hp => does_val (x_bin rfl (hp.V 1 rfl rfl) (rfl) (b_eql _ _ _ _ _ _)) rfl) ?_
   refine .asg 2 rfl rfl rfl rfl ?_
   exact .nil
  clear hS
  intro a8 ax hS ao hp
  have aF : sl _ 31 = .bool (decide ((ae.length : Int) = 8)) := hp 3 (by decide)
  have hS := hS.cons aF
  clear hp aF
  refine aE _ _ ?_
  refine wp_cond_false ((hS.get 0 rfl).trans (bF (decide_eq_false c4))) ?_
  refine wp_seq_k (fun bt aJ => ?_)
  refine reg_seq (I := I3_ w af ax) (ps := [VB ad, VB (!ad), VB (!ad), VU, VU, VU, VU, VU, VU, VU, VB true, VB true]) (by kernel_rfl) ?_ ?_ rfl hS ⟨ao.1, ao.2.1, (bR ax)⟩ ?_ ?_
  ·exact bs3
  ·exact .v (.v (.v (.v (.v (.v (.v (.v (.v (.v (.v (.v (.nil))))))))))))
  ·refine .ms 1 rfl rfl rfl ?_
   refine .on rfl (fun a w hS hI hp => does_val (x_not rfl (hp.V 0 rfl rfl)) rfl) ?_
   refine .mv 1 rfl rfl rfl rfl ?_
   iterate 7 refine .sn 2 38 rfl rfl rfl rfl rfl ((congrArg (!·) (Bool.eq_false_iff.2 c5))) ?_
   refine .on rfl (fun a w hS hI hp => does_val (x_pickT rfl ((hp.V 2 rfl rfl).trans (bT (congrArg (!·) (Bool.eq_false_iff.2 c5)))) (rfl)) rfl) ?_
   refine .asg 10 rfl rfl rfl rfl ?_
   exact .nil
  clear hS
  intro bl aD hS aw hp
  replace hS := (((((hS.nil).cons (hS.get 6 rfl)).cons (hS.get 5 rfl)).cons (hS.get 4 rfl)).cons (hS.get 3 rfl)).cons (hS.get 2 rfl)
  have aL : sl _ 35 = .bool true := hp 11 (by decide)
  have hS := hS.cons aL
  clear hp aL
  refine aJ _ _ ?_
  refine wp_cond_true ((hS.get 0 rfl).trans (bT rfl)) ?_
  replace hS := (((((hS.nil).cons (hS.get 4 rfl)).cons (hS.get 3 rfl)).cons (hS.get 2 rfl)).cons (hS.get 1 rfl)).cons (hS.get 0 rfl)
  refine reg_seq (I := I3_ w af aD) (ps := [VI 2]) (by kernel_rfl) ?_ ?_ rfl hS ⟨aw.1, aw.2.1, (bR aD)⟩ ?_ ?_
  ·exact bs3
  ·exact .v (.nil)
  ·refine .on rfl (fun a w hS hI hp => does_val (x_assign rfl (rfl)) rfl) ?_
   exact .nil
  clear hS
  intro cc bo hS bd hp
  replace hS := ((((hS.nil).cons (hS.get 4 rfl)).cons (hS.get 3 rfl)).cons (hS.get 2 rfl)).cons (hS.get 1 rfl)
  have aY : sl _ 7 = .int .i64 2 := hp 0 (by decide)
  have hS := hS.cons aY
  clear hp aY
  refine aq _ _ ?_
  refine wp_seq_k (fun cA cj => ?_)
  refine wp_seq_k (fun bu aW => ?_)
  refine reg_seq (I := I3_ w af bo) (ps := [VI 2, VB (!decide (2 = 0))]) (by kernel_rfl) ?_ ?_ rfl hS ⟨bd.1, bd.2.1, (bR bo)⟩ ?_ ?_
  ·exact bs3
  ·exact .v (.v (.nil))
  ·refine .ms 0 rfl rfl rfl ?_
   refine .on rfl (fun a w hS hI hp => does_val (x_bin rfl (hp.V 0 rfl rfl) (rfl) (b_neq _ _ _ _ _ _)) rfl) ?_
   exact .nil
  clear hS
  intro cd bp hS be hp
  have aG : sl _ 52 = .bool (!decide (2 = 0)) := hp 1 (by decide)
  have hS := hS.cons aG
  clear hp aG
  refine aW _ _ ?_
  refine wp_cond_true ((hS.get 0 rfl).trans (bT (congrArg (!·) (decide_eq_false (by decide))))) ?_
  refine wp_exit ?_
  (try simp only [Exit.then, Exit.inBlock, reduceIte])
  refine bh _ _ ?_
  refine wp_seq_k (fun b2 bB => ?_)
  refine wp_seq_k (fun bv aN => ?_)
  refine reg_seq (I := I3_ w af bp) (ps := [VI 2, VB (!decide (2 = 0))]) (by kernel_rfl) ?_ ?_ rfl hS ⟨be.1, be.2.1, (bR bp)⟩ ?_ ?_
  ·exact bs3
  ·exact .v (.v (.nil))
  ·refine .ms 1 rfl rfl rfl ?_
   refine .on rfl (fun a w hS hI hp => does_val (x_bin rfl (hp.V 0 rfl rfl) (rfl) (b_neq _ _ _ _ _ _)) rfl) ?_
   exact .nil
  clear hS
  intro bJ bg hS aX hp
  replace hS := ((hS.nil).cons (hS.get 5 rfl)).cons (hS.get 1 rfl)
  have aA : sl _ 78 = .bool (!decide (2 = 0)) := hp 1 (by decide)
  have hS := hS.cons aA
  clear hp aA
  refine aN _ _ ?_
  refine wp_cond_true ((hS.get 0 rfl).trans (bT (congrArg (!·) (decide_eq_false (by decide))))) ?_
  refine wp_seq_k (fun b3 ba => ?_)
  refine reg_seq (I := I3_ w af bg) (ps := [VI 2, IsV (.slice none 0 0), VI 2]) (by kernel_rfl) ?_ ?_ rfl hS ⟨aX.1, aX.2.1, (bR bg)⟩ ?_ ?_
  ·exact bs3
  ·exact .v (.v (.v (.nil)))
  ·refine .ms 1 rfl rfl rfl ?_
   refine .on rfl (fun a w hS hI hp => does_val (x_assign rfl (rfl)) rfl) ?_
   refine .asg 0 rfl rfl rfl rfl ?_
   exact .nil
  clear hS
  intro bK bw hS a2 hp
  replace hS := hS.nil
  have aB : sl _ 4 = .slice none 0 0 := hp 1 (by decide)
  have aC : sl _ 5 = .int .i64 2 := hp 2 (by decide)
  have hS := hS.cons aB
  have hS := hS.cons aC
  clear hp aB aC
  refine ba _ _ ?_
  refine wp_ret ?_
  (try simp only [Exit.then, Exit.inBlock, Exit.jump, Exit.noGoto])
  exact bodyPost_ret (v := .tuple #[.slice none 0 0, .int .i64 2]) (results_list (rs := [.tmp 4, .tmp 5]) rfl (by simp) (Vals.at (hS.get 1 rfl) (Vals.at (hS.get 0 rfl) .nil))) hS.nodef ⟨.slice none 0 0, rfl, Kd.R_nil _ _ _ _ _, a2.1⟩
 rw [if_pos c5] at H
 by_cases c6 : aa > (wrap64 ((wrap64 ((ac.length : Int) - ab)) - 4))
 ·rw [if_pos c6] at H
  simp only [Option.some.injEq, Prod.mk.injEq] at H
  obtain ⟨rfl, rfl⟩ := H
  refine wp_seq_k (fun a4 az => ?_)
  refine wp_seq_k (fun a5 ap => ?_)
  refine reg_seq (I := I2_ w af) (ps := [VI ab, IsV (.slice aj ac.length ak), VI (ac.length : Int), VB (decide (ab < (ac.length : Int)))]) (by kernel_rfl) ?_ ?_ rfl hS ⟨aI, (bR af)⟩ ?_ ?_
  ·exact bs2
  ·exact .v (.v (.v (.v (.nil))))
  ·refine .ms 1 rfl rfl rfl ?_
   refine .ms 0 rfl rfl rfl ?_
   refine .on rfl (fun a w hS hI hp => does_val (x_len (e := 5) rfl (by kernel_rfl) (hp.V 1 rfl rfl)) rfl) ?_
   refine .on rfl (fun a w hS hI hp => does_val (x_bin rfl (hp.V 0 rfl rfl) (hp.V 2 rfl rfl) (b_lss _ _ _ _ _ _)) rfl) ?_
   exact .nil
  clear hS
  intro aT al hS ah hp
  have ar : sl _ 23 = .bool (decide (ab < (ac.length : Int))) := hp 3 (by decide)
  have hS := hS.cons ar
  clear hp ar
  refine ap _ _ ?_
  refine wp_cond_true ((hS.get 0 rfl).trans (bT (decide_eq_true c3))) ?_
  refine wp_skip ?_
  refine az _ _ ?_
  refine wp_block ?_
  refine wp_seq_k (fun a6 av => ?_)
  refine reg_seq (I := I3_ w af al) (ps := [IsV (.slice aj ac.length ak), VI ab, VI (wrap64 (ab + 2)), IsV (.tuple #[.int .i64 aa, .bool ad]), IsV (.tuple #[.int .i64 aa, .bool ad]), VI aa, VB ad, VI aa, VB ad]) (by kernel_rfl) ?_ ?_ rfl hS ⟨ah.1, ah.2, (bR al)⟩ ?_ ?_
  ·exact bs3
  ·exact .v (.v (.v (.v (.v (.v (.v (.v (.v (.nil)))))))))
  ·refine .ms 1 rfl rfl rfl ?_
   refine .ms 2 rfl rfl rfl ?_
   refine .on rfl (fun a w hS hI hp => does_val (x_bin rfl (hp.V 1 rfl rfl) (rfl) (b_add _ _ _ _ _)) rfl) ?_
   refine .on rfl (fun a w hS hI hp => does_call (by kernel_rfl) (ar3 (hp.V 0 rfl rfl) (hp.V 2 rfl rfl) (rfl)) ((octets_Get.calls k _ _ ac (wrap64 (ab + 2)) 2 aa ad _ (Kd.C_below aK hI.1) aR a0).mono fun _ _ h => ⟨_, h.1, h.2.below, rfl⟩)) ?_
   refine .mv 3 rfl rfl rfl rfl ?_
   iterate 2 refine .on rfl (fun a w hS hI hp => does_val (x_extract rfl (hp.V 4 rfl rfl) rfl) rfl) ?_
   refine .asg 5 rfl rfl rfl rfl ?_
   refine .asg 6 rfl rfl rfl rfl ?_
   exact .nil
  clear hS
  intro aU am hS ai hp
  replace hS := ((((hS.nil).cons (hS.get 4 rfl)).cons (hS.get 3 rfl)).cons (hS.get 2 rfl)).cons (hS.get 1 rfl)
  have aO : sl _ 8 = .int .i64 aa := hp 7 (by decide)
  have aP : sl _ 9 = .bool ad := hp 8 (by decide)
  have hS := hS.cons aO
  have hS := hS.cons aP
  clear hp aO aP
  refine av _ _ ?_
  refine wp_seq_k (fun a7 aq => ?_)
  refine wp_block ?_
  refine wp_seq_k (fun bk aE => ?_)
  refine reg_seq (I := I3_ w af am) (ps := [IsV (.slice ay ae.length au), VI (ae.length : Int), VB (decide ((ae.length : Int) = 8)), VB (decide ((ae.length : Int) = 8))]) (by kernel_rfl) ?_ ?_ rfl hS ⟨ai.1, ai.2.1, (bR am)⟩ ?_ ?_
  ·exact bs3
  ·exact .v (.v (.v (.v (.nil))))
  ·refine .ms 4 rfl rfl rfl ?_
   refine .on rfl (fun a w hS hI hp => does_val (x_len (e := 43) rfl (by kernel_rfl) (hp.V 0 rfl rfl)) rfl) ?_
   refine .on rfl (fun a w hS hI hp => does_val (x_bin rfl (hp.V 1 rfl rfl) (rfl) (b_eql _ _ _ _ _ _)) rfl) ?_
   refine .asg 2 rfl rfl rfl rfl ?_
   exact .nil
  clear hS
  intro a8 ax hS ao hp
  have aF : sl _ 31 = .bool (decide ((ae.length : Int) = 8)) := hp 3 (by decide)
  have hS := hS.cons aF
  clear hp aF
  refine aE _ _ ?_
  refine wp_cond_false ((hS.get 0 rfl).trans (bF (decide_eq_false c4))) ?_
  refine wp_seq_k (fun bt aJ => ?_)
  refine reg_seq (I := I3_ w af ax) (ps := [VB ad, VB (!ad), VB (!ad), VI aa, IsV (.slice aj ac.length ak), VI (ac.length : Int), VI ab, VI (wrap64 ((ac.length : Int) - ab)), VI (wrap64 ((wrap64 ((ac.length : Int) - ab)) - 4)), VB (decide (aa > (wrap64 ((wrap64 ((ac.length : Int) - ab)) - 4)))), VB (decide (aa > (wrap64 ((wrap64 ((ac.length : Int) - ab)) - 4)))), VB (decide (aa > (wrap64 ((wrap64 ((ac.length : Int) - ab)) - 4))))]) (by kernel_rfl) ?_ ?_ rfl hS ⟨ao.1, ao.2.1, (bR ax)⟩ ?_ ?_
  ·exact bs3
  ·exact .v (.v (.v (.v (.v (.v (.v (.v (.v (.v (.v (.v (.nil))))))))))))
  ·refine .ms 1 rfl rfl rfl ?_
   refine .on rfl (fun a w hS hI hp => does_val (x_not rfl (hp.V 0 rfl rfl)) rfl) ?_
   refine .mv 1 rfl rfl rfl rfl ?_
   refine .oy 2 38 rfl rfl rfl rfl rfl ((congrArg (!·) c5)) (fun a w hS hI hp => does_val (x_move rfl (hS.get 2 rfl)) rfl) ?_
   refine .oy 2 38 rfl rfl rfl rfl rfl ((congrArg (!·) c5)) (fun a w hS hI hp => does_val (x_move rfl (hS.get 3 rfl)) rfl) ?_
   refine .oy 2 38 rfl rfl rfl rfl rfl ((congrArg (!·) c5)) (fun a w hS hI hp => does_val (x_len (e := 5) rfl (by kernel_rfl) (hp.V 4 rfl rfl)) rfl) ?_
   refine .oy 2 38 rfl rfl rfl rfl rfl ((congrArg (!·) c5)) (fun a w hS hI hp => does_val (x_move rfl (hS.get 4 rfl)) rfl) ?_
   refine .oy 2 38 rfl rfl rfl rfl rfl ((congrArg (!·) c5)) (fun a w hS hI hp => does_val (x_bin rfl (hp.V 5 rfl rfl) (hp.V 6 rfl rfl) (b_sub _ _ _ _ _)) rfl) ?_
   refine .oy 2 38 rfl rfl rfl rfl rfl ((congrArg (!·) c5)) (fun a w hS hI hp => does_val (x_bin rfl (hp.V 7 rfl rfl) (rfl) (b_sub _ _ _ _ _)) rfl) ?_
   refine .oy 2 38 rfl rfl rfl rfl rfl ((congrArg (!·) c5)) (fun a w hS hI hp => does_val (x_bin rfl (hp.V 3 rfl rfl) (hp.V 8 rfl rfl) (b_gtr _ _ _ _ _ _)) rfl) ?_
   refine .on rfl (fun a w hS hI hp => does_val (x_pickF rfl ((hp.V 2 rfl rfl).trans (bF (congrArg (!·) c5))) (hp.V 9 rfl rfl)) rfl) ?_
   refine .asg 10 rfl rfl rfl rfl ?_
   exact .nil
  clear hS
  intro bl aD hS aw hp
  replace hS := (((((hS.nil).cons (hS.get 6 rfl)).cons (hS.get 5 rfl)).cons (hS.get 4 rfl)).cons (hS.get 3 rfl)).cons (hS.get 2 rfl)
  have aL : sl _ 35 = .bool (decide (aa > (wrap64 ((wrap64 ((ac.length : Int) - ab)) - 4)))) := hp 11 (by decide)
  have hS := hS.cons aL
  clear hp aL
  refine aJ _ _ ?_
  refine wp_cond_true ((hS.get 0 rfl).trans (bT (decide_eq_true c6))) ?_
  replace hS := (((((hS.nil).cons (hS.get 4 rfl)).cons (hS.get 3 rfl)).cons (hS.get 2 rfl)).cons (hS.get 1 rfl)).cons (hS.get 0 rfl)
  refine reg_seq (I := I3_ w af aD) (ps := [VI 2]) (by kernel_rfl) ?_ ?_ rfl hS ⟨aw.1, aw.2.1, (bR aD)⟩ ?_ ?_
  ·exact bs3
  ·exact .v (.nil)
  ·refine .on rfl (fun a w hS hI hp => does_val (x_assign rfl (rfl)) rfl) ?_
   exact .nil
  clear hS
  intro cc bo hS bd hp
  replace hS := ((((hS.nil).cons (hS.get 4 rfl)).cons (hS.get 3 rfl)).cons (hS.get 2 rfl)).cons (hS.get 1 rfl)
  have aY : sl _ 7 = .int .i64 2 := hp 0 (by decide)
  have hS := hS.cons aY
  clear hp aY
  refine aq _ _ ?_
  refine wp_seq_k (fun cA cj => ?_)
  refine wp_seq_k (fun bu aW => ?_)
  refine reg_seq (I := I3_ w af bo) (ps := [VI 2, VB (!decide (2 = 0))]) (by kernel_rfl) ?_ ?_ rfl hS ⟨bd.1, bd.2.1, (bR bo)⟩ ?_ ?_
  ·exact bs3
  ·exact .v (.v (.nil))
  ·refine .ms 0 rfl rfl rfl ?_
   refine .on rfl (fun a w hS hI hp => does_val (x_bin rfl (hp.V 0 rfl rfl) (rfl) (b_neq _ _ _ _ _ _)) rfl) ?_
   exact .nil
  clear hS
  intro cd bp hS be hp
  have aG : sl _ 52 = .bool (!decide (2 = 0)) := hp 1 (by decide)
  have hS := hS.cons aG
  clear hp aG
  refine aW _ _ ?_
  refine wp_cond_true ((hS.get 0 rfl).trans (bT (congrArg (!·) (decide_eq_false (by decide))))) ?_
  refine wp_exit ?_
  (try simp only [Exit.then, Exit.inBlock, reduceIte])
  refine bh _ _ ?_
  refine wp_seq_k (fun b2 bB => ?_)
  refine wp_seq_k (fun bv aN => ?_)
  refine reg_seq (I := I3_ w af bp) (ps := [VI 2, VB (!decide (2 = 0))]) (by kernel_rfl) ?_ ?_ rfl hS ⟨be.1, be.2.1, (bR bp)⟩ ?_ ?_
  ·exact bs3
  ·exact .v (.v (.nil))
  ·refine .ms 1 rfl rfl rfl ?_
   refine .on rfl (fun a w hS hI hp => does_val (x_bin rfl (hp.V 0 rfl rfl) (rfl) (b_neq _ _ _ _ _ _)) rfl) ?_
   exact .nil
  clear hS
  intro bJ bg hS aX hp
  replace hS := ((hS.nil).cons (hS.get 5 rfl)).cons (hS.get 1 rfl)
  have aA : sl _ 78 = .bool (!decide (2 = 0)) := hp 1 (by decide)
  have hS := hS.cons aA
  clear hp aA
  refine aN _ _ ?_
  refine wp_cond_true ((hS.get 0 rfl).trans (bT (congrArg (!·) (decide_eq_false (by decide))))) ?_
  refine wp_seq_k (fun b3 ba => ?_)
  refine reg_seq (I := I3_ w af bg) (ps := [VI 2, IsV (.slice none 0 0), VI 2]) (by kernel_rfl) ?_ ?_ rfl hS ⟨aX.1, aX.2.1, (bR bg)⟩ ?_ ?_
  ·exact bs3
  ·exact .v (.v (.v (.nil)))
  ·refine .ms 1 rfl rfl rfl ?_
   refine .on rfl (fun a w hS hI hp => does_val (x_assign rfl (rfl)) rfl) ?_
   refine .asg 0 rfl rfl rfl rfl ?_
   exact .nil
  clear hS
  intro bK bw hS a2 hp
  replace hS := hS.nil
  have aB : sl _ 4 = .slice none 0 0 := hp 1 (by decide)
  have aC : sl _ 5 = .int .i64 2 := hp 2 (by decide)
  have hS := hS.cons aB
  have hS := hS.cons aC
  clear hp aB aC
  refine ba _ _ ?_
  refine wp_ret ?_
  (try simp only [Exit.then, Exit.inBlock, Exit.jump, Exit.noGoto])
  exact bodyPost_ret (v := .tuple #[.slice none 0 0, .int .i64 2]) (results_list (rs := [.tmp 4, .tmp 5]) rfl (by simp) (Vals.at (hS.get 1 rfl) (Vals.at (hS.get 0 rfl) .nil))) hS.nodef ⟨.slice none 0 0, rfl, Kd.R_nil _ _ _ _ _, a2.1⟩
 rw [if_neg c6] at H
 by_cases c7 : (Int.tmod aa 2) = 0
 rotate_left
 ·rw [if_neg c7] at H
  simp only [Option.some.injEq, Prod.mk.injEq] at H
  obtain ⟨rfl, rfl⟩ := H
  refine wp_seq_k (fun a4 az => ?_)
  refine wp_seq_k (fun a5 ap => ?_)
  refine reg_seq (I := I2_ w af) (ps := [VI ab, IsV (.slice aj ac.length ak), VI (ac.length : Int), VB (decide (ab < (ac.length : Int)))]) (by kernel_rfl) ?_ ?_ rfl hS ⟨aI, (bR af)⟩ ?_ ?_
  ·exact bs2
  ·exact .v (.v (.v (.v (.nil))))
  ·refine .ms 1 rfl rfl rfl ?_
   refine .ms 0 rfl rfl rfl ?_
   refine .on rfl (fun a w hS hI hp => does_val (x_len (e := 5) rfl (by kernel_rfl) (hp.V 1 rfl rfl)) rfl) ?_
   refine .on rfl (fun a w hS hI hp => does_val (x_bin rfl (hp.V 0 rfl rfl) (hp.V 2 rfl rfl) (b_lss _ _ _ _ _ _)) rfl) ?_
   exact .nil
  clear hS
  intro aT al hS ah hp
  have ar : sl _ 23 = .bool (decide (ab < (ac.length : Int))) := hp 3 (by decide)
  have hS := hS.cons ar
  clear hp ar
  refine ap _ _ ?_
  refine wp_cond_true ((hS.get 0 rfl).trans (bT (decide_eq_true c3))) ?_
  refine wp_skip ?_
  refine az _ _ ?_
  refine wp_block ?_
  refine wp_seq_k (fun a6 av => ?_)
  refine reg_seq (I := I3_ w af al) (ps := [IsV (.slice aj ac.length ak), VI ab, VI (wrap64 (ab + 2)), IsV (.tuple #[.int .i64 aa, .bool ad]), IsV (.tuple #[.int .i64 aa, .bool ad]), VI aa, VB ad, VI aa, VB ad]) (by kernel_rfl) ?_ ?_ rfl hS ⟨ah.1, ah.2, (bR al)⟩ ?_ ?_
  ·exact bs3
  ·exact .v (.v (.v (.v (.v (.v (.v (.v (.v (.nil)))))))))
  ·refine .ms 1 rfl rfl rfl ?_
   refine .ms 2 rfl rfl rfl ?_
   refine .on rfl (fun a w hS hI hp => does_val (x_bin rfl (hp.V 1 rfl rfl) (rfl) (b_add _ _ _ _ _)) rfl) ?_
   refine .on rfl (fun a w hS hI hp => does_call (by kernel_rfl) (ar3 (hp.V 0 rfl rfl) (hp.V 2 rfl rfl) (rfl)) ((octets_Get.calls k _ _ ac (wrap64 (ab + 2)) 2 aa ad _ (Kd.C_below aK hI.1) aR a0).mono fun _ _ h => ⟨_, h.1, h.2.below, rfl⟩)) ?_
   refine .mv 3 rfl rfl rfl rfl ?_
   iterate 2 refine .on rfl (fun a w hS hI hp => does_val (x_extract rfl (hp.V 4 rfl rfl) rfl) rfl) ?_
   refine .asg 5 rfl rfl rfl rfl ?_
   refine .asg 6 rfl rfl rfl rfl ?_
   exact .nil
  clear hS
  intro aU am hS ai hp
  replace hS := ((((hS.nil).cons (hS.get 4 rfl)).cons (hS.get 3 rfl)).cons (hS.get 2 rfl)).cons (hS.get 1 rfl)
  have aO : sl _ 8 = .int .i64 aa := hp 7 (by decide)
  have aP : sl _ 9 = .bool ad := hp 8 (by decide)
  have hS := hS.cons aO
  have hS := hS.cons aP
  clear hp aO aP
  refine av _ _ ?_
  refine wp_seq_k (fun a7 aq => ?_)
  refine wp_block ?_
  refine wp_seq_k (fun bk aE => ?_)
  refine reg_seq (I := I3_ w af am) (ps := [IsV (.slice ay ae.length au), VI (ae.length : Int), VB (decide ((ae.length : Int) = 8)), VB (decide ((ae.length : Int) = 8))]) (by kernel_rfl) ?_ ?_ rfl hS ⟨ai.1, ai.2.1, (bR am)⟩ ?_ ?_
  ·exact bs3
  ·exact .v (.v (.v (.v (.nil))))
  ·refine .ms 4 rfl rfl rfl ?_
   refine .on rfl (fun a w hS hI hp => does_val (x_len (e := 43) rfl (by kernel_rfl) (hp.V 0 rfl rfl)) rfl) ?_
   refine .on rfl (fun a w hS hI hp => does_val (x_bin rfl (hp.V 1 rfl rfl) (rfl) (b_eql _ _ _ _ _ _)) rfl) ?_
   refine .asg 2 rfl rfl rfl rfl ?_
   exact .nil
  clear hS
  intro a8 ax hS ao hp
  have aF : sl _ 31 = .bool (decide ((ae.length : Int) = 8)) := hp 3 (by decide)
  have hS := hS.cons aF
  clear hp aF
  refine aE _ _ ?_
  refine wp_cond_false ((hS.get 0 rfl).trans (bF (decide_eq_false c4))) ?_
  refine wp_seq_k (fun bt aJ => ?_)
  refine reg_seq (I := I3_ w af ax) (ps := [VB ad, VB (!ad), VB (!ad), VI aa, IsV (.slice aj ac.length ak), VI (ac.length : Int), VI ab, VI (wrap64 ((ac.length : Int) - ab)), VI (wrap64 ((wrap64 ((ac.length : Int) - ab)) - 4)), VB (decide (aa > (wrap64 ((wrap64 ((ac.length : Int) - ab)) - 4)))), VB (decide (aa > (wrap64 ((wrap64 ((ac.length : Int) - ab)) - 4)))), VB (decide (aa > (wrap64 ((wrap64 ((ac.length : Int) - ab)) - 4))))]) (by kernel_rfl) ?_ ?_ rfl hS ⟨ao.1, ao.2.1, (bR ax)⟩ ?_ ?_
  ·exact bs3
  ·exact .v (.v (.v (.v (.v (.v (.v (.v (.v (.v (.v (.v (.nil))))))))))))
  ·refine .ms 1 rfl rfl rfl ?_
   refine .on rfl (fun a w hS hI hp => does_val (x_not rfl (hp.V 0 rfl rfl)) rfl) ?_
   refine .mv 1 rfl rfl rfl rfl ?_
   refine .oy 2 38 rfl rfl rfl rfl rfl ((congrArg (!·) c5)) (fun a w hS hI hp => does_val (x_move rfl (hS.get 2 rfl)) rfl) ?_
   refine .oy 2 38 rfl rfl rfl rfl rfl ((congrArg (!·) c5)) (fun a w hS hI hp => does_val (x_move rfl (hS.get 3 rfl)) rfl) ?_
   refine .oy 2 38 rfl rfl rfl rfl rfl ((congrArg (!·) c5)) (fun a w hS hI hp => does_val (x_len (e := 5) rfl (by kernel_rfl) (hp.V 4 rfl rfl)) rfl) ?_
   refine .oy 2 38 rfl rfl rfl rfl rfl ((congrArg (!·) c5)) (fun a w hS hI hp => does_val (x_move rfl (hS.get 4 rfl)) rfl) ?_
   refine .oy 2 38 rfl rfl rfl rfl rfl ((congrArg (!·) c5)) (fun a w hS hI hp => does_val (x_bin rfl (hp.V 5 rfl rfl) (hp.V 6 rfl rfl) (b_sub _ _ _ _ _)) rfl) ?_
   refine .oy 2 38 rfl rfl rfl rfl rfl ((congrArg (!·) c5)) (fun a w hS hI hp => does_val (x_bin rfl (hp.V 7 rfl rfl) (rfl) (b_sub _ _ _ _ _)) rfl) ?_
   refine .oy 2 38 rfl rfl rfl rfl rfl ((congrArg (!·) c5)) (fun a w hS hI hp => does_val (x_bin rfl (hp.V 3 rfl rfl) (hp.V 8 rfl rfl) (b_gtr _ _ _ _ _ _)) rfl) ?_
   refine .on rfl (fun a w hS hI hp => does_val (x_pickF rfl ((hp.V 2 rfl rfl).trans (bF (congrArg (!·) c5))) (hp.V 9 rfl rfl)) rfl) ?_
   refine .asg 10 rfl rfl rfl rfl ?_
   exact .nil
  clear hS
  intro bl aD hS aw hp
  replace hS := (((((hS.nil).cons (hS.get 6 rfl)).cons (hS.get 5 rfl)).cons (hS.get 4 rfl)).cons (hS.get 3 rfl)).cons (hS.get 2 rfl)
  have aL : sl _ 35 = .bool (decide (aa > (wrap64 ((wrap64 ((ac.length : Int) - ab)) - 4)))) := hp 11 (by decide)
  have hS := hS.cons aL
  clear hp aL
  refine aJ _ _ ?_
  refine wp_cond_false ((hS.get 0 rfl).trans (bF (decide_eq_false c6))) ?_
  refine wp_seq_k (fun bE aV => ?_)
  refine reg_seq (I := I3_ w af aD) (ps := [VI aa, VI (Int.tmod aa 2), VB (!decide ((Int.tmod aa 2) = 0)), VB (!decide ((Int.tmod aa 2) = 0))]) (by kernel_rfl) ?_ ?_ rfl hS ⟨aw.1, aw.2.1, (bR aD)⟩ ?_ ?_
  ·exact bs3
  ·exact .v (.v (.v (.v (.nil))))
  ·refine .ms 1 rfl rfl rfl ?_
   refine .on rfl (fun a w hS hI hp => does_val (x_bin rfl (hp.V 0 rfl rfl) (rfl) (b_rem _ _ _ _ _ _ (by decide))) rfl) ?_
   refine .on rfl (fun a w hS hI hp => does_val (x_bin rfl (hp.V 1 rfl rfl) (rfl) (b_neq _ _ _ _ _ _)) rfl) ?_
   refine .asg 2 rfl rfl rfl rfl ?_
   exact .nil
  clear hS
  intro bz aM hS aH hp
  replace hS := (((((hS.nil).cons (hS.get 5 rfl)).cons (hS.get 4 rfl)).cons (hS.get 3 rfl)).cons (hS.get 2 rfl)).cons (hS.get 1 rfl)
  have bc : sl _ 47 = .bool (!decide ((Int.tmod aa 2) = 0)) := hp 3 (by decide)
  have hS := hS.cons bc
  clear hp bc
  refine aV _ _ ?_
  refine wp_cond_true ((hS.get 0 rfl).trans (bT (congrArg (!·) (decide_eq_false c7)))) ?_
  replace hS := (((((hS.nil).cons (hS.get 4 rfl)).cons (hS.get 3 rfl)).cons (hS.get 2 rfl)).cons (hS.get 1 rfl)).cons (hS.get 0 rfl)
  refine reg_seq (I := I3_ w af aM) (ps := [VI 4]) (by kernel_rfl) ?_ ?_ rfl hS ⟨aH.1, aH.2.1, (bR aM)⟩ ?_ ?_
  ·exact bs3
  ·exact .v (.nil)
  ·refine .on rfl (fun a w hS hI hp => does_val (x_assign rfl (rfl)) rfl) ?_
   exact .nil
  clear hS
  intro cO b6 hS bV hp
  replace hS := ((((hS.nil).cons (hS.get 4 rfl)).cons (hS.get 3 rfl)).cons (hS.get 2 rfl)).cons (hS.get 1 rfl)
  have aY : sl _ 7 = .int .i64 4 := hp 0 (by decide)
  have hS := hS.cons aY
  clear hp aY
  refine aq _ _ ?_
  refine wp_seq_k (fun dc cW => ?_)
  refine wp_seq_k (fun b2 bB => ?_)
  refine reg_seq (I := I3_ w af b6) (ps := [VI 4, VB (!decide (4 = 0))]) (by kernel_rfl) ?_ ?_ rfl hS ⟨bV.1, bV.2.1, (bR b6)⟩ ?_ ?_
  ·exact bs3
  ·exact .v (.v (.nil))
  ·refine .ms 0 rfl rfl rfl ?_
   refine .on rfl (fun a w hS hI hp => does_val (x_bin rfl (hp.V 0 rfl rfl) (rfl) (b_neq _ _ _ _ _ _)) rfl) ?_
   exact .nil
  clear hS
  intro cP b7 hS bW hp
  have aG : sl _ 52 = .bool (!decide (4 = 0)) := hp 1 (by decide)
  have hS := hS.cons aG
  clear hp aG
  refine bB _ _ ?_
  refine wp_cond_true ((hS.get 0 rfl).trans (bT (congrArg (!·) (decide_eq_false (by decide))))) ?_
  refine wp_exit ?_
  (try simp only [Exit.then, Exit.inBlock, reduceIte])
  refine bh _ _ ?_
  refine wp_seq_k (fun de cX => ?_)
  refine wp_seq_k (fun b3 ba => ?_)
  refine reg_seq (I := I3_ w af b7) (ps := [VI 4, VB (!decide (4 = 0))]) (by kernel_rfl) ?_ ?_ rfl hS ⟨bW.1, bW.2.1, (bR b7)⟩ ?_ ?_
  ·exact bs3
  ·exact .v (.v (.nil))
  ·refine .ms 1 rfl rfl rfl ?_
   refine .on rfl (fun a w hS hI hp => does_val (x_bin rfl (hp.V 0 rfl rfl) (rfl) (b_neq _ _ _ _ _ _)) rfl) ?_
   exact .nil
  clear hS
  intro bK bw hS a2 hp
  replace hS := ((hS.nil).cons (hS.get 5 rfl)).cons (hS.get 1 rfl)
  have aA : sl _ 78 = .bool (!decide (4 = 0)) := hp 1 (by decide)
  have hS := hS.cons aA
  clear hp aA
  refine ba _ _ ?_
  refine wp_cond_true ((hS.get 0 rfl).trans (bT (congrArg (!·) (decide_eq_false (by decide))))) ?_
  refine wp_seq_k (fun df cl => ?_)
  refine reg_seq (I := I3_ w af bw) (ps := [VI 4, IsV (.slice none 0 0), VI 4]) (by kernel_rfl) ?_ ?_ rfl hS ⟨a2.1, a2.2.1, (bR bw)⟩ ?_ ?_
  ·exact bs3
  ·exact .v (.v (.v (.nil)))
  ·refine .ms 1 rfl rfl rfl ?_
   refine .on rfl (fun a w hS hI hp => does_val (x_assign rfl (rfl)) rfl) ?_
   refine .asg 0 rfl rfl rfl rfl ?_
   exact .nil
  clear hS
  intro cQ bG hS cu hp
  replace hS := hS.nil
  have aB : sl _ 4 = .slice none 0 0 := hp 1 (by decide)
  have aC : sl _ 5 = .int .i64 4 := hp 2 (by decide)
  have hS := hS.cons aB
  have hS := hS.cons aC
  clear hp aB aC
  refine cl _ _ ?_
  refine wp_ret ?_
  (try simp only [Exit.then, Exit.inBlock, Exit.jump, Exit.noGoto])
  exact bodyPost_ret (v := .tuple #[.slice none 0 0, .int .i64 4]) (results_list (rs := [.tmp 4, .tmp 5]) rfl (by simp) (Vals.at (hS.get 1 rfl) (Vals.at (hS.get 0 rfl) .nil))) hS.nodef ⟨.slice none 0 0, rfl, Kd.R_nil _ _ _ _ _, cu.1⟩
 rw [if_pos c7] at H
 by_cases c8 : an = 0
 rotate_left
 ·rw [if_neg c8] at H
  simp only [Option.some.injEq, Prod.mk.injEq] at H
  obtain ⟨rfl, rfl⟩ := H
  refine wp_seq_k (fun a4 az => ?_)
  refine wp_seq_k (fun a5 ap => ?_)
  refine reg_seq (I := I2_ w af) (ps := [VI ab, IsV (.slice aj ac.length ak), VI (ac.length : Int), VB (decide (ab < (ac.length : Int)))]) (by kernel_rfl) ?_ ?_ rfl hS ⟨aI, (bR af)⟩ ?_ ?_
  ·exact bs2
  ·exact .v (.v (.v (.v (.nil))))
  ·refine .ms 1 rfl rfl rfl ?_
   refine .ms 0 rfl rfl rfl ?_
   refine .on rfl (fun a w hS hI hp => does_val (x_len (e := 5) rfl (by kernel_rfl) (hp.V 1 rfl rfl)) rfl) ?_
   refine .on rfl (fun a w hS hI hp => does_val (x_bin rfl (hp.V 0 rfl rfl) (hp.V 2 rfl rfl) (b_lss _ _ _ _ _ _)) rfl) ?_
   exact .nil
  clear hS
  intro aT al hS ah hp
  have ar : sl _ 23 = .bool (decide (ab < (ac.length : Int))) := hp 3 (by decide)
  have hS := hS.cons ar
  clear hp ar
  refine ap _ _ ?_
  refine wp_cond_true ((hS.get 0 rfl).trans (bT (decide_eq_true c3))) ?_
  refine wp_skip ?_
  refine az _ _ ?_
  refine wp_block ?_
  refine wp_seq_k (fun a6 av => ?_)
  refine reg_seq (I := I3_ w af al) (ps := [IsV (.slice aj ac.length ak), VI ab, VI (wrap64 (ab + 2)), IsV (.tuple #[.int .i64 aa, .bool ad]), IsV (.tuple #[.int .i64 aa, .bool ad]), VI aa, VB ad, VI aa, VB ad]) (by kernel_rfl) ?_ ?_ rfl hS ⟨ah.1, ah.2, (bR al)⟩ ?_ ?_
  ·exact bs3
  ·exact .v (.v (.v (.v (.v (.v (.v (.v (.v (.nil)))))))))
  ·refine .ms 1 rfl rfl rfl ?_
   refine .ms 2 rfl rfl rfl ?_
   refine .on rfl (fun a w hS hI hp => does_val (x_bin rfl (hp.V 1 rfl rfl) (rfl) (b_add _ _ _ _ _)) rfl) ?_
   refine .on rfl (fun a w hS hI hp => does_call (by kernel_rfl) (ar3 (hp.V 0 rfl rfl) (hp.V 2 rfl rfl) (rfl)) ((octets_Get.calls k _ _ ac (wrap64 (ab + 2)) 2 aa ad _ (Kd.C_below aK hI.1) aR a0).mono fun _ _ h => ⟨_, h.1, h.2.below, rfl⟩)) ?_
   refine .mv 3 rfl rfl rfl rfl ?_
   iterate 2 refine .on rfl (fun a w hS hI hp => does_val (x_extract rfl (hp.V 4 rfl rfl) rfl) rfl) ?_
   refine .asg 5 rfl rfl rfl rfl ?_
   refine .asg 6 rfl rfl rfl rfl ?_
   exact .nil
  clear hS
  intro aU am hS ai hp
  replace hS := ((((hS.nil).cons (hS.get 4 rfl)).cons (hS.get 3 rfl)).cons (hS.get 2 rfl)).cons (hS.get 1 rfl)
  have aO : sl _ 8 = .int .i64 aa := hp 7 (by decide)
  have aP : sl _ 9 = .bool ad := hp 8 (by decide)
  have hS := hS.cons aO
  have hS := hS.cons aP
  clear hp aO aP
  refine av _ _ ?_
  refine wp_seq_k (fun a7 aq => ?_)
  refine wp_block ?_
  refine wp_seq_k (fun bk aE => ?_)
  refine reg_seq (I := I3_ w af am) (ps := [IsV (.slice ay ae.length au), VI (ae.length : Int), VB (decide ((ae.length : Int) = 8)), VB (decide ((ae.length : Int) = 8))]) (by kernel_rfl) ?_ ?_ rfl hS ⟨ai.1, ai.2.1, (bR am)⟩ ?_ ?_
  ·exact bs3
  ·exact .v (.v (.v (.v (.nil))))
  ·refine .ms 4 rfl rfl rfl ?_
   refine .on rfl (fun a w hS hI hp => does_val (x_len (e := 43) rfl (by kernel_rfl) (hp.V 0 rfl rfl)) rfl) ?_
   refine .on rfl (fun a w hS hI hp => does_val (x_bin rfl (hp.V 1 rfl rfl) (rfl) (b_eql _ _ _ _ _ _)) rfl) ?_
   refine .asg 2 rfl rfl rfl rfl ?_
   exact .nil
  clear hS
  intro a8 ax hS ao hp
  have aF : sl _ 31 = .bool (decide ((ae.length : Int) = 8)) := hp 3 (by decide)
  have hS := hS.cons aF
  clear hp aF
  refine aE _ _ ?_
  refine wp_cond_false ((hS.get 0 rfl).trans (bF (decide_eq_false c4))) ?_
  refine wp_seq_k (fun bt aJ => ?_)
  refine reg_seq (I := I3_ w af ax) (ps := [VB ad, VB (!ad), VB (!ad), VI aa, IsV (.slice aj ac.length ak), VI (ac.length : Int), VI ab, VI (wrap64 ((ac.length : Int) - ab)), VI (wrap64 ((wrap64 ((ac.length : Int) - ab)) - 4)), VB (decide (aa > (wrap64 ((wrap64 ((ac.length : Int) - ab)) - 4)))), VB (decide (aa > (wrap64 ((wrap64 ((ac.length : Int) - ab)) - 4)))), VB (decide (aa > (wrap64 ((wrap64 ((ac.length : Int) - ab)) - 4))))]) (by kernel_rfl) ?_ ?_ rfl hS ⟨ao.1, ao.2.1, (bR ax)⟩ ?_ ?_
  ·exact bs3
  ·exact .v (.v (.v (.v (.v (.v (.v (.v (.v (.v (.v (.v (.nil))))))))))))
  ·refine .ms 1 rfl rfl rfl ?_
   refine .on rfl (fun a w hS hI hp => does_val (x_not rfl (hp.V 0 rfl rfl)) rfl) ?_
   refine .mv 1 rfl rfl rfl rfl ?_
   refine .oy 2 38 rfl rfl rfl rfl rfl ((congrArg (!·) c5)) (fun a w hS hI hp => does_val (x_move rfl (hS.get 2 rfl)) rfl) ?_
   refine .oy 2 38 rfl rfl rfl rfl rfl ((congrArg (!·) c5)) (fun a w hS hI hp => does_val (x_move rfl (hS.get 3 rfl)) rfl) ?_
   refine .oy 2 38 rfl rfl rfl rfl rfl ((congrArg (!·) c5)) (fun a w hS hI hp => does_val (x_len (e := 5) rfl (by kernel_rfl) (hp.V 4 rfl rfl)) rfl) ?_
   refine .oy 2 38 rfl rfl rfl rfl rfl ((congrArg (!·) c5)) (fun a w hS hI hp => does_val (x_move rfl (hS.get 4 rfl)) rfl) ?_
   refine .oy 2 38 rfl rfl rfl rfl rfl ((congrArg (!·) c5)) (fun a w hS hI hp => does_val (x_bin rfl (hp.V 5 rfl rfl) (hp.V 6 rfl rfl) (b_sub _ _ _ _ _)) rfl) ?_
   refine .oy 2 38 rfl rfl rfl rfl rfl ((congrArg (!·) c5)) (fun a w hS hI hp => does_val (x_bin rfl (hp.V 7 rfl rfl) (rfl) (b_sub _ _ _ _ _)) rfl) ?_
   refine .oy 2 38 rfl rfl rfl rfl rfl ((congrArg (!·) c5)) (fun a w hS hI hp => does_val (x_bin rfl (hp.V 3 rfl rfl) (hp.V 8 rfl rfl) (b_gtr _ _ _ _ _ _)) rfl) ?_
   refine .on rfl (fun a w hS hI hp => does_val (x_pickF rfl ((hp.V 2 rfl rfl).trans (bF (congrArg (!·) c5))) (hp.V 9 rfl rfl)) rfl) ?_
   refine .asg 10 rfl rfl rfl rfl ?_
   exact .nil
  clear hS
  intro bl aD hS aw hp
  replace hS := (((((hS.nil).cons (hS.get 6 rfl)).cons (hS.get 5 rfl)).cons (hS.get 4 rfl)).cons (hS.get 3 rfl)).cons (hS.get 2 rfl)
  have aL : sl _ 35 = .bool (decide (aa > (wrap64 ((wrap64 ((ac.length : Int) - ab)) - 4)))) := hp 11 (by decide)
  have hS := hS.cons aL
  clear hp aL
  refine aJ _ _ ?_
  refine wp_cond_false ((hS.get 0 rfl).trans (bF (decide_eq_false c6))) ?_
  refine wp_seq_k (fun bE aV => ?_)
  refine reg_seq (I := I3_ w af aD) (ps := [VI aa, VI (Int.tmod aa 2), VB (!decide ((Int.tmod aa 2) = 0)), VB (!decide ((Int.tmod aa 2) = 0))]) (by kernel_rfl) ?_ ?_ rfl hS ⟨aw.1, aw.2.1, (bR aD)⟩ ?_ ?_
  ·exact bs3
  ·exact .v (.v (.v (.v (.nil))))
  ·refine .ms 1 rfl rfl rfl ?_
   refine .on rfl (fun a w hS hI hp => does_val (x_bin rfl (hp.V 0 rfl rfl) (rfl) (b_rem _ _ _ _ _ _ (by decide))) rfl) ?_
   refine .on rfl (fun a w hS hI hp => does_val (x_bin rfl (hp.V 1 rfl rfl) (rfl) (b_neq _ _ _ _ _ _)) rfl) ?_
   refine .asg 2 rfl rfl rfl rfl ?_
   exact .nil
  clear hS
  intro bz aM hS aH hp
  replace hS := (((((hS.nil).cons (hS.get 5 rfl)).cons (hS.get 4 rfl)).cons (hS.get 3 rfl)).cons (hS.get 2 rfl)).cons (hS.get 1 rfl)
  have bc : sl _ 47 = .bool (!decide ((Int.tmod aa 2) = 0)) := hp 3 (by decide)
  have hS := hS.cons bc
  clear hp bc
  refine aV _ _ ?_
  refine wp_cond_false ((hS.get 0 rfl).trans (bF (congrArg (!·) (decide_eq_true c7)))) ?_
  refine wp_skip ?_
  refine aq _ _ ?_
  refine wp_seq_k (fun bu aW => ?_)
  refine wp_seq_k (fun b1 a9 => ?_)
  refine reg_seq (I := I3_ w af aM) (ps := [VI an, VB (!decide (an = 0))]) (by kernel_rfl) ?_ ?_ rfl hS ⟨aH.1, aH.2.1, (bR aM)⟩ ?_ ?_
  ·exact bs3
  ·exact .v (.v (.nil))
  ·refine .ms 5 rfl rfl rfl ?_
   refine .on rfl (fun a w hS hI hp => does_val (x_bin rfl (hp.V 0 rfl rfl) (rfl) (b_neq _ _ _ _ _ _)) rfl) ?_
   exact .nil
  clear hS
  intro bI aZ hS aQ hp
  replace hS := (((((hS.nil).cons (hS.get 5 rfl)).cons (hS.get 4 rfl)).cons (hS.get 3 rfl)).cons (hS.get 2 rfl)).cons (hS.get 1 rfl)
  have aG : sl _ 52 = .bool (!decide (an = 0)) := hp 1 (by decide)
  have hS := hS.cons aG
  clear hp aG
  refine a9 _ _ ?_
  refine wp_cond_true ((hS.get 0 rfl).trans (bT (congrArg (!·) (decide_eq_false c8)))) ?_
  refine wp_exit ?_
  (try simp only [Exit.then, Exit.inBlock, reduceIte])
  refine bh _ _ ?_
  refine wp_seq_k (fun bv aN => ?_)
  refine wp_seq_k (fun dd ck => ?_)
  refine reg_seq (I := I3_ w af aZ) (ps := [VI an, VB (!decide (an = 0))]) (by kernel_rfl) ?_ ?_ rfl hS ⟨aQ.1, aQ.2.1, (bR aZ)⟩ ?_ ?_
  ·exact bs3
  ·exact .v (.v (.nil))
  ·refine .ms 5 rfl rfl rfl ?_
   refine .on rfl (fun a w hS hI hp => does_val (x_bin rfl (hp.V 0 rfl rfl) (rfl) (b_neq _ _ _ _ _ _)) rfl) ?_
   exact .nil
  clear hS
  intro ce aS hS bf hp
  replace hS := ((hS.nil).cons (hS.get 5 rfl)).cons (hS.get 4 rfl)
  have aA : sl _ 78 = .bool (!decide (an = 0)) := hp 1 (by decide)
  have hS := hS.cons aA
  clear hp aA
  refine ck _ _ ?_
  refine wp_cond_true ((hS.get 0 rfl).trans (bT (congrArg (!·) (decide_eq_false c8)))) ?_
  refine wp_seq_k (fun cB bC => ?_)
  refine reg_seq (I := I3_ w af aS) (ps := [VI an, IsV (.slice none 0 0), VI an]) (by kernel_rfl) ?_ ?_ rfl hS ⟨bf.1, bf.2.1, (bR aS)⟩ ?_ ?_
  ·exact bs3
  ·exact .v (.v (.v (.nil)))
  ·refine .ms 2 rfl rfl rfl ?_
   refine .on rfl (fun a w hS hI hp => does_val (x_assign rfl (rfl)) rfl) ?_
   refine .asg 0 rfl rfl rfl rfl ?_
   exact .nil
  clear hS
  intro cf bx hS bn hp
  replace hS := hS.nil
  have aB : sl _ 4 = .slice none 0 0 := hp 1 (by decide)
  have aC : sl _ 5 = .int .i64 an := hp 2 (by decide)
  have hS := hS.cons aB
  have hS := hS.cons aC
  clear hp aB aC
  refine bC _ _ ?_
  refine wp_ret ?_
  (try simp only [Exit.then, Exit.inBlock, Exit.jump, Exit.noGoto])
  exact bodyPost_ret (v := .tuple #[.slice none 0 0, .int .i64 an]) (results_list (rs := [.tmp 4, .tmp 5]) rfl (by simp) (Vals.at (hS.get 1 rfl) (Vals.at (hS.get 0 rfl) .nil))) hS.nodef ⟨.slice none 0 0, rfl, Kd.R_nil _ _ _ _ _, bn.1⟩
 rw [if_pos c8] at H
 obtain ⟨cD, ca, H⟩ := Option.bind_eq_some_iff.mp H
 obtain ⟨ag, a3⟩ := cD
 (try dsimp only at H)
 by_cases c9 : 0 ≤ (wrap64 (ab + 4))
 rotate_left
 ·rw [if_neg c9] at H
  exact absurd H (by simp)
 rw [if_pos c9] at H
 by_cases cg : (wrap64 (ab + 4)) ≤ (wrap64 ((wrap64 (ab + 4)) + aa))
 rotate_left
 ·rw [if_neg cg] at H
  exact absurd H (by simp)
 rw [if_pos cg] at H
 by_cases ch : (wrap64 ((wrap64 (ab + 4)) + aa)) ≤ (ac.length : Int)
 rotate_left
 ·rw [if_neg ch] at H
  exact absurd H (by simp)
 rw [if_pos ch] at H
 by_cases ci : (ae.length + [(⟨ag, strOfNums ((ac.take (wrap64 ((wrap64 (ab + 4)) + aa) : Int).toNat).drop (wrap64 (ab + 4) : Int).toNat)⟩ : S43)].length) * 24 ≤ 140737488355328
 rotate_left
 ·rw [if_neg ci] at H
  exact absurd H (by simp)
 rw [if_pos ci] at H
 refine wp_seq_k (fun a4 az => ?_)
 refine wp_seq_k (fun a5 ap => ?_)
 refine reg_seq (I := I2_ w af) (ps := [VI ab, IsV (.slice aj ac.length ak), VI (ac.length : Int), VB (decide (ab < (ac.length : Int)))]) (by kernel_rfl) ?_ ?_ rfl hS ⟨aI, (bR af)⟩ ?_ ?_
 ·exact bs2
 ·exact .v (.v (.v (.v (.nil))))
 ·refine .ms 1 rfl rfl rfl ?_
  refine .ms 0 rfl rfl rfl ?_
  refine .on rfl (fun a w hS hI hp => does_val (x_len (e := 5) rfl (by kernel_rfl) (hp.V 1 rfl rfl)) rfl) ?_
  refine .on rfl (fun a w hS hI hp => does_val (x_bin rfl (hp.V 0 rfl rfl) (hp.V 2 rfl rfl) (b_lss _ _ _ _ _ _)) rfl) ?_
  exact .nil
 clear hS
 intro aT al hS ah hp
 have ar : sl _ 23 = .bool (decide (ab < (ac.length : Int))) := hp 3 (by decide)
 have hS := hS.cons ar
 clear hp ar
 refine ap _ _ ?_
 refine wp_cond_true ((hS.get 0 rfl).trans (bT (decide_eq_true c3))) ?_
 refine wp_skip ?_
 refine az _ _ ?_
 refine wp_block ?_
 refine wp_seq_k (fun a6 av => ?_)
 refine reg_seq (I := I3_ w af al) (ps := [IsV (.slice aj ac.length ak), VI ab, VI (wrap64 (ab + 2)), IsV (.tuple #[.int .i64 aa, .bool ad]), IsV (.tuple #[.int .i64 aa, .bool ad]), VI aa, VB ad, VI aa, VB ad]) (by kernel_rfl) ?_ ?_ rfl hS ⟨ah.1, ah.2, (bR al)⟩ ?_ ?_
 ·exact bs3
 ·exact .v (.v (.v (.v (.v (.v (.v (.v (.v (.nil)))))))))
 ·refine .ms 1 rfl rfl rfl ?_
  refine .ms 2 rfl rfl rfl ?_
  refine .on rfl (fun a w hS hI hp => does_val (x_bin rfl (hp.V 1 rfl rfl) (rfl) (b_add _ _ _ _ _)) rfl) ?_
  refine .on rfl (fun a w hS hI hp => does_call (by kernel_rfl) (ar3 (hp.V 0 rfl rfl) (hp.V 2 rfl rfl) (rfl)) ((octets_Get.calls k _ _ ac (wrap64 (ab + 2)) 2 aa ad _ (Kd.C_below aK hI.1) aR a0).mono fun _ _ h => ⟨_, h.1, h.2.below, rfl⟩)) ?_
  refine .mv 3 rfl rfl rfl rfl ?_
  iterate 2 refine .on rfl (fun a w hS hI hp => does_val (x_extract rfl (hp.V 4 rfl rfl) rfl) rfl) ?_
  refine .asg 5 rfl rfl rfl rfl ?_
  refine .asg 6 rfl rfl rfl rfl ?_
  exact .nil
 clear hS
 intro aU am hS ai hp
 replace hS := ((((hS.nil).cons (hS.get 4 rfl)).cons (hS.get 3 rfl)).cons (hS.get 2 rfl)).cons (hS.get 1 rfl)
 have aO : sl _ 8 = .int .i64 aa := hp 7 (by decide)
 have aP : sl _ 9 = .bool ad := hp 8 (by decide)
 have hS := hS.cons aO
 have hS := hS.cons aP
 clear hp aO aP
 refine av _ _ ?_
 refine wp_seq_k (fun a7 aq => ?_)
 refine wp_block ?_
 refine wp_seq_k (fun bk aE => ?_)
 refine reg_seq (I := I3_ w af am) (ps := [IsV (.slice ay ae.length au), VI (ae.length : Int), VB (decide ((ae.length : Int) = 8)), VB (decide ((ae.length : Int) = 8))]) (by kernel_rfl) ?_ ?_ rfl hS ⟨ai.1, ai.2.1, (bR am)⟩ ?_ ?_
 ·exact bs3
 ·exact .v (.v (.v (.v (.nil))))
 ·refine .ms 4 rfl rfl rfl ?_
  refine .on rfl (fun a w hS hI hp => does_val (x_len (e := 43) rfl (by kernel_rfl) (hp.V 0 rfl rfl)) rfl) ?_
  refine .on rfl (fun a w hS hI hp => does_val (x_bin rfl (hp.V 1 rfl rfl) (rfl) (b_eql _ _ _ _ _ _)) rfl) ?_
  refine .asg 2 rfl rfl rfl rfl ?_
  exact .nil
 clear hS
 intro a8 ax hS ao hp
 have aF : sl _ 31 = .bool (decide ((ae.length : Int) = 8)) := hp 3 (by decide)
 have hS := hS.cons aF
 clear hp aF
 refine aE _ _ ?_
 refine wp_cond_false ((hS.get 0 rfl).trans (bF (decide_eq_false c4))) ?_
 refine wp_seq_k (fun bt aJ => ?_)
 refine reg_seq (I := I3_ w af ax) (ps := [VB ad, VB (!ad), VB (!ad), VI aa, IsV (.slice aj ac.length ak), VI (ac.length : Int), VI ab, VI (wrap64 ((ac.length : Int) - ab)), VI (wrap64 ((wrap64 ((ac.length : Int) - ab)) - 4)), VB (decide (aa > (wrap64 ((wrap64 ((ac.length : Int) - ab)) - 4)))), VB (decide (aa > (wrap64 ((wrap64 ((ac.length : Int) - ab)) - 4)))), VB (decide (aa > (wrap64 ((wrap64 ((ac.length : Int) - ab)) - 4))))]) (by kernel_rfl) ?_ ?_ rfl hS ⟨ao.1, ao.2.1, (bR ax)⟩ ?_ ?_
 ·exact bs3
 ·exact .v (.v (.v (.v (.v (.v (.v (.v (.v (.v (.v (.v (.nil))))))))))))
 ·refine .ms 1 rfl rfl rfl ?_
  refine .on rfl (fun a w hS hI hp => does_val (x_not rfl (hp.V 0 rfl rfl)) rfl) ?_
  refine .mv 1 rfl rfl rfl rfl ?_
  refine .oy 2 38 rfl rfl rfl rfl rfl ((congrArg (!·) c5)) (fun a w hS hI hp => does_val (x_move rfl (hS.get 2 rfl)) rfl) ?_
  refine .oy 2 38 rfl rfl rfl rfl rfl ((congrArg (!·) c5)) (fun a w hS hI hp => does_val (x_move rfl (hS.get 3 rfl)) rfl) ?_
  refine .oy 2 38 rfl rfl rfl rfl rfl ((congrArg (!·) c5)) (fun a w hS hI hp => does_val (x_len (e := 5) rfl (by kernel_rfl) (hp.V 4 rfl rfl)) rfl) ?_
  refine .oy 2 38 rfl rfl rfl rfl rfl ((congrArg (!·) c5)) (fun a w hS hI hp => does_val (x_move rfl (hS.get 4 rfl)) rfl) ?_
  refine .oy 2 38 rfl rfl rfl rfl rfl ((congrArg (!·) c5)) (fun a w hS hI hp => does_val (x_bin rfl (hp.V 5 rfl rfl) (hp.V 6 rfl rfl) (b_sub _ _ _ _ _)) rfl) ?_
  refine .oy 2 38 rfl rfl rfl rfl rfl ((congrArg (!·) c5)) (fun a w hS hI hp => does_val (x_bin rfl (hp.V 7 rfl rfl) (rfl) (b_sub _ _ _ _ _)) rfl) ?_
  refine .oy 2 38 rfl rfl rfl rfl rfl ((congrArg (!·) c5)) (fun a w hS hI hp => does_val (x_bin rfl (hp.V 3 rfl rfl) (hp.V 8 rfl rfl) (b_gtr _ _ _ _ _ _)) rfl) ?_
  refine .on rfl (fun a w hS hI hp => does_val (x_pickF rfl ((hp.V 2 rfl rfl).trans (bF (congrArg (!·) c5))) (hp.V 9 rfl rfl)) rfl) ?_
  refine .asg 10 rfl rfl rfl rfl ?_
  exact .nil
 clear hS
 intro bl aD hS aw hp
 replace hS := (((((hS.nil).cons (hS.get 6 rfl)).cons (hS.get 5 rfl)).cons (hS.get 4 rfl)).cons (hS.get 3 rfl)).cons (hS.get 2 rfl)
 have aL : sl _ 35 = .bool (decide (aa > (wrap64 ((wrap64 ((ac.length : Int) - ab)) - 4)))) := hp 11 (by decide)
 have hS := hS.cons aL
 clear hp aL
 refine aJ _ _ ?_
 refine wp_cond_false ((hS.get 0 rfl).trans (bF (decide_eq_false c6))) ?_
 refine wp_seq_k (fun bE aV => ?_)
 refine reg_seq (I := I3_ w af aD) (ps := [VI aa, VI (Int.tmod aa 2), VB (!decide ((Int.tmod aa 2) = 0)), VB (!decide ((Int.tmod aa 2) = 0))]) (by kernel_rfl) ?_ ?_ rfl hS ⟨aw.1, aw.2.1, (bR aD)⟩ ?_ ?_
 ·exact bs3
 ·exact .v (.v (.v (.v (.nil))))
 ·refine .ms 1 rfl rfl rfl ?_
  refine .on rfl (fun a w hS hI hp => does_val (x_bin rfl (hp.V 0 rfl rfl) (rfl) (b_rem _ _ _ _ _ _ (by decide))) rfl) ?_
  refine .on rfl (fun a w hS hI hp => does_val (x_bin rfl (hp.V 1 rfl rfl) (rfl) (b_neq _ _ _ _ _ _)) rfl) ?_
  refine .asg 2 rfl rfl rfl rfl ?_
  exact .nil
 clear hS
 intro bz aM hS aH hp
 replace hS := (((((hS.nil).cons (hS.get 5 rfl)).cons (hS.get 4 rfl)).cons (hS.get 3 rfl)).cons (hS.get 2 rfl)).cons (hS.get 1 rfl)
 have bc : sl _ 47 = .bool (!decide ((Int.tmod aa 2) = 0)) := hp 3 (by decide)
 have hS := hS.cons bc
 clear hp bc
 refine aV _ _ ?_
 refine wp_cond_false ((hS.get 0 rfl).trans (bF (congrArg (!·) (decide_eq_true c7)))) ?_
 refine wp_skip ?_
 refine aq _ _ ?_
 refine wp_seq_k (fun bu aW => ?_)
 refine wp_seq_k (fun b1 a9 => ?_)
 refine reg_seq (I := I3_ w af aM) (ps := [VI an, VB (!decide (an = 0))]) (by kernel_rfl) ?_ ?_ rfl hS ⟨aH.1, aH.2.1, (bR aM)⟩ ?_ ?_
 ·exact bs3
 ·exact .v (.v (.nil))
 ·refine .ms 5 rfl rfl rfl ?_
  refine .on rfl (fun a w hS hI hp => does_val (x_bin rfl (hp.V 0 rfl rfl) (rfl) (b_neq _ _ _ _ _ _)) rfl) ?_
  exact .nil
 clear hS
 intro bI aZ hS aQ hp
 replace hS := (((((hS.nil).cons (hS.get 5 rfl)).cons (hS.get 4 rfl)).cons (hS.get 3 rfl)).cons (hS.get 2 rfl)).cons (hS.get 1 rfl)
 have aG : sl _ 52 = .bool (!decide (an = 0)) := hp 1 (by decide)
 have hS := hS.cons aG
 clear hp aG
 refine a9 _ _ ?_
 refine wp_cond_false ((hS.get 0 rfl).trans (bF (congrArg (!·) (decide_eq_true c8)))) ?_
 refine wp_skip ?_
 refine aW _ _ ?_
 refine wp_seq_k (fun bv aN => ?_)
 refine reg_seq (I := I3_ w af aZ) (ps := [IsV (.slice aj ac.length ak), VI ab, IsV (.tuple #[.int .i64 ag, .bool a3]), IsV (.tuple #[.int .i64 ag, .bool a3]), VI ag, VB a3, VI ag, VB a3]) (by kernel_rfl) ?_ ?_ rfl hS ⟨aQ.1, aQ.2.1, (bR aZ)⟩ ?_ ?_
 ·exact bs3
 ·exact .v (.v (.v (.v (.v (.v (.v (.v (.nil))))))))
 ·refine .ms 2 rfl rfl rfl ?_
  refine .ms 3 rfl rfl rfl ?_
  refine .on rfl (fun a w hS hI hp => does_call (by kernel_rfl) (ar3 (hp.V 0 rfl rfl) (hp.V 1 rfl rfl) (rfl)) ((octets_Get.calls k _ _ ac ab 2 ag a3 _ (Kd.C_below aK hI.1) aR ca).mono fun _ _ h => ⟨_, h.1, h.2.below, rfl⟩)) ?_
  refine .mv 2 rfl rfl rfl rfl ?_
  iterate 2 refine .on rfl (fun a w hS hI hp => does_val (x_extract rfl (hp.V 3 rfl rfl) rfl) rfl) ?_
  refine .asg 4 rfl rfl rfl rfl ?_
  refine .asg 5 rfl rfl rfl rfl ?_
  exact .nil
 clear hS
 intro ce aS hS bf hp
 replace hS := (((((hS.nil).cons (hS.get 5 rfl)).cons (hS.get 4 rfl)).cons (hS.get 3 rfl)).cons (hS.get 2 rfl)).cons (hS.get 1 rfl)
 have cq : sl _ 10 = .int .i64 ag := hp 6 (by decide)
 have hS := hS.cons cq
 clear hp cq
 refine aN _ _ ?_
 refine wp_seq_k (fun cB bC => ?_)
 refine reg_seq_tail 13 (I := I3_ w af aS) (ps := [IsV (.slice ay ae.length au), VI ag, IsV (.slice aj ac.length ak), VI ab, VI (wrap64 (ab + 4)), VI ab, VI (wrap64 (ab + 4)), VI aa, VI (wrap64 ((wrap64 (ab + 4)) + aa)), IsC (Kd.int .u8) ((ac.take (wrap64 ((wrap64 (ab + 4)) + aa) : Int).toNat).drop (wrap64 (ab + 4) : Int).toNat), IsV (.string (strOfNums ((ac.take (wrap64 ((wrap64 (ab + 4)) + aa) : Int).toNat).drop (wrap64 (ab + 4) : Int).toNat))), IsV (.agg #[.int .i64 ag, .string (strOfNums ((ac.take (wrap64 ((wrap64 (ab + 4)) + aa) : Int).toNat).drop (wrap64 (ab + 4) : Int).toNat))]), IsR k43 43 aS.heap.size [(⟨ag, strOfNums ((ac.take (wrap64 ((wrap64 (ab + 4)) + aa) : Int).toNat).drop (wrap64 (ab + 4) : Int).toNat)⟩ : S43)]]) (by kernel_rfl) ?_ ?_ rfl hS ⟨bf.1, bf.2.1, (bR aS)⟩ ?_ ?_
 ·exact bs3
 ·exact .v (.v (.v (.v (.v (.v (.v (.v (.v (.cons (Stays.c _ _) (.v (.v (.cons (Stays.r _ _ _ _) (.nil)))))))))))))
 ·refine .ms 4 rfl rfl rfl ?_
  refine .ms 0 rfl rfl rfl ?_
  refine .ms 2 rfl rfl rfl ?_
  refine .ms 3 rfl rfl rfl ?_
  refine .on rfl (fun a w hS hI hp => does_val (x_bin rfl (hp.V 3 rfl rfl) (rfl) (b_add _ _ _ _ _)) rfl) ?_
  refine .ms 3 rfl rfl rfl ?_
  refine .on rfl (fun a w hS hI hp => does_val (x_bin rfl (hp.V 5 rfl rfl) (rfl) (b_add _ _ _ _ _)) rfl) ?_
  refine .ms 1 rfl rfl rfl ?_
  refine .on rfl (fun a w hS hI hp => does_val (x_bin rfl (hp.V 6 rfl rfl) (hp.V 7 rfl rfl) (b_add _ _ _ _ _)) rfl) ?_
  refine .on rfl (fun a w hS hI hp => does_cut (i := wrap64 (ab + 4)) (j := wrap64 ((wrap64 (ab + 4)) + aa)) rfl (e := 5) (by kernel_rfl) (by kernel_rfl) (hp.V 2 rfl rfl) (.inr ⟨_, rfl, (hp.V 4 rfl rfl)⟩) (.inr ⟨_, rfl, (hp.V 8 rfl rfl)⟩) c9 cg ch aR ((Kd.C_below aK hI.1))) ?_
  refine .on rfl (fun a w hS hI hp => (hp.V 9 rfl rfl).elim fun A_ h_ => h_.elim fun c_ h_ => h_.elim fun hv_ h_ => h_.elim fun hl_ hc_ => does_val (x_conv rfl hv_ (Kd.C_string (by kernel_rfl) (e := 5) (by kernel_rfl) (by kernel_rfl) hc_)) rfl) ?_
  refine .on rfl (fun a w hS hI hp => does_val (x_build (vs := [(0, .int .i64 ag), (1, .string (strOfNums ((ac.take (wrap64 ((wrap64 (ab + 4)) + aa) : Int).toNat).drop (wrap64 (ab + 4) : Int).toNat)))]) rfl (by rw [Array.toList_map]; exact (show [(0, a.eval (.tmp 60)), (1, a.eval (.tmp 69))] = _ from (li_cons (hp.V 1 rfl rfl) (li_cons (hp.V 10 rfl rfl) rfl)))) (by kernel_rfl)) rfl) ?_
  refine .on rfl (fun a w hS hI hp => does_litT tlv_Get.flat43 aS.heap.size 29 43 _ [(0, .agg #[.int .i64 ag, .string (strOfNums ((ac.take (wrap64 ((wrap64 (ab + 4)) + aa) : Int).toNat).drop (wrap64 (ab + 4) : Int).toNat))])] (⟨ag, strOfNums ((ac.take (wrap64 ((wrap64 (ab + 4)) + aa) : Int).toNat).drop (wrap64 (ab + 4) : Int).toNat)⟩ : S43) rfl (by kernel_rfl) (by rw [Array.toList_map]; exact (show [(0, a.eval (.tmp 70))] = _ from (li_cons (hp.V 11 rfl rfl) rfl))) (by kernel_rfl) (hI.2.2).size) ?_
  exact .nil
 clear hS
 intro cf bx hS bn hp
 replace hS := (((((hS.nil).cons (hS.get 5 rfl)).cons (hS.get 4 rfl)).cons (hS.get 3 rfl)).cons (hS.get 2 rfl)).cons (hS.get 1 rfl)
 have cr : sl _ 59 = .slice ay ae.length au := hp 0 (by decide)
 obtain ⟨cx, cy, b0, cZ, cn⟩ := Kd.R_reads (show Kd.R k43 43 bx aS.heap.size (fun _ => True) (sl _ 71) [(⟨ag, strOfNums ((ac.take (wrap64 ((wrap64 (ab + 4)) + aa) : Int).toNat).drop (wrap64 (ab + 4) : Int).toNat)⟩ : S43)] from hp 12 (by decide))
 have c0 : Kd.R k43 43 bx aS.heap.size (fun _ => True) (.slice cx [(⟨ag, strOfNums ((ac.take (wrap64 ((wrap64 (ab + 4)) + aa) : Int).toNat).drop (wrap64 (ab + 4) : Int).toNat)⟩ : S43)].length cy) [(⟨ag, strOfNums ((ac.take (wrap64 ((wrap64 (ab + 4)) + aa) : Int).toNat).drop (wrap64 (ab + 4) : Int).toNat)⟩ : S43)] := b0 ▸ (hp 12 (by decide))
 have hS := hS.cons cr
 have hS := hS.cons b0
 clear hp cr b0
 show wpList _ _ _ [_, _] _ _
 refine list_step rfl (does_moreT tlv_Get.flat43 (W := w) (.tmp 59) (.tmp 71) 29 43 (.agg #[(.int .i64 0), (.string ⟨#[]⟩)]) 24 rfl (by kernel_rfl) (by kernel_rfl) rfl (by decide) (by decide) _ ae [(⟨ag, strOfNums ((ac.take (wrap64 ((wrap64 (ab + 4)) + aa) : Int).toNat).drop (wrap64 (ab + 4) : Int).toNat)⟩ : S43)] _ _ _ (hS.get 1 rfl) (hS.get 0 rfl) (Kd.R_below bS bn.2.1) (Kd.C_below cn (bR bx)) bn.1 ci) ?_
 rintro da bG ⟨hb, hr, hk⟩
 clear hk
 have bL := hb
 replace hS := ((((hS.nil).cons (hS.get 6 rfl)).cons (hS.get 4 rfl)).cons (hS.get 3 rfl)).cons (hS.get 2 rfl)
 obtain ⟨bi, bj, rfl, co, cY⟩ := Kd.R_reads hr
 have cp := hr
 clear hr
 refine hS.next (v := .slice bi ((ae ++ [(⟨ag, strOfNums ((ac.take (wrap64 ((wrap64 (ab + 4)) + aa) : Int).toNat).drop (wrap64 (ab + 4) : Int).toNat)⟩ : S43)] : List S43).length) bj) (d := 72) rfl (by decide) (by rfl) ?_
 clear hS
 intro cR hS
 refine list_step rfl (R := fun v w' => Below _ _ w' ∧ (IsV (.slice bi ((ae ++ [(⟨ag, strOfNums ((ac.take (wrap64 ((wrap64 (ab + 4)) + aa) : Int).toNat).drop (wrap64 (ab + 4) : Int).toNat)⟩ : S43)] : List S43).length) bj)) v w') (does_val (x_assign rfl (hS.get 0 rfl)) rfl) ?_
 rintro cv b8 ⟨hb, he⟩
 have bM := below_step bL hb
 have br := below_step (bR bG) hb
 obtain rfl : cv = .slice bi ((ae ++ [(⟨ag, strOfNums ((ac.take (wrap64 ((wrap64 (ab + 4)) + aa) : Int).toNat).drop (wrap64 (ab + 4) : Int).toNat)⟩ : S43)] : List S43).length) bj := he
 refine hS.next (v := .slice bi ((ae ++ [(⟨ag, strOfNums ((ac.take (wrap64 ((wrap64 (ab + 4)) + aa) : Int).toNat).drop (wrap64 (ab + 4) : Int).toNat)⟩ : S43)] : List S43).length) bj) (d := 6) rfl (by decide) (by rfl) ?_
 clear hS
 intro cS hS
 refine wpList_nil ?_
 refine bC _ _ ?_
 refine reg_seq_tail 4 (I := I3_ w bG b8) (ps := [VI ab, VI aa, VI (wrap64 (4 + aa)), VI (wrap64 (ab + (wrap64 (4 + aa))))]) (by kernel_rfl) ?_ ?_ rfl hS ⟨bM, br, (bR b8)⟩ ?_ ?_
 ·exact bs3
 ·exact .v (.v (.v (.v (.nil))))
 ·refine .ms 4 rfl rfl rfl ?_
  refine .ms 2 rfl rfl rfl ?_
  refine .on rfl (fun a w hS hI hp => does_val (x_bin rfl (rfl) (hp.V 1 rfl rfl) (b_add _ _ _ _ _)) rfl) ?_
  refine .on rfl (fun a w hS hI hp => does_val (x_bin rfl (hp.V 0 rfl rfl) (hp.V 2 rfl rfl) (b_add _ _ _ _ _)) rfl) ?_
  exact .nil
 clear hS
 intro cT cF hS bX hp
 replace hS := ((((hS.nil).cons (hS.get 5 rfl)).cons (hS.get 4 rfl)).cons (hS.get 3 rfl)).cons (hS.get 0 rfl)
 have ct : sl _ 76 = .int .i64 (wrap64 (ab + (wrap64 (4 + aa)))) := hp 3 (by decide)
 have hS := hS.cons ct
 clear hp ct
 show wpList _ _ _ [_] _ _
 refine list_step rfl (R := fun v w' => Below _ _ w' ∧ (VI (wrap64 (ab + (wrap64 (4 + aa))))) v w') (does_val (x_assign rfl (hS.get 0 rfl)) rfl) ?_
 rintro cw dh ⟨hb, he⟩
 have bN := below_step bX.1 hb
 have bs := below_step bX.2.1 hb
 have b9 := below_step (bR cF) hb
 obtain rfl : cw = .int .i64 (wrap64 (ab + (wrap64 (4 + aa)))) := he
 replace hS := ((((hS.nil).cons (hS.get 4 rfl)).cons (hS.get 2 rfl)).cons (hS.get 1 rfl)).cons (hS.get 0 rfl)
 refine hS.next (v := .int .i64 (wrap64 (ab + (wrap64 (4 + aa))))) (d := 1) rfl (by decide) (by rfl) ?_
 clear hS
 intro cU hS
 refine wpList_nil ?_
 replace hS := ((((hS.nil).cons (hS.get 4 rfl)).cons (hS.get 2 rfl)).cons (hS.get 0 rfl)).cons (hS.get 3 rfl)
 (try simp only [Exit.then, Exit.inBlock])
 exact ⟨n1, Nat.lt_succ_self _, ac, aj, ak, wrap64 (ab + (wrap64 (4 + aa))), (ae ++ [(⟨ag, strOfNums ((ac.take (wrap64 ((wrap64 (ab + 4)) + aa) : Int).toNat).drop (wrap64 (ab + 4) : Int).toNat)⟩ : S43)] : List S43), bi, bj, an, H, hS, bN, aR, (aK), co, (Kd.R_lower (Kd.R_below cp bs) (Nat.le_refl _))⟩
end Go.Proofs.Ytiomlbkakiienaa.P
