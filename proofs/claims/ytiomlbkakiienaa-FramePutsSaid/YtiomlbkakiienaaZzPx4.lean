/- Functions and loops of the given program as Lean functions, and that the code comes to what they say: written by this session's own program; Lean checks it. -/
import Derived.Test.YtiomlbkakiienaaZzPx0
import Derived.Test.YtiomlbkakiienaaZzPx1
import Derived.Test.YtiomlbkakiienaaZzPx2
import Derived.Test.YtiomlbkakiienaaZzPx3
namespace Go.Proofs.Ytiomlbkakiienaa.P
open Go.RowKit Go.Proofs.YtiomlbkakiienaaW.PrintWords Go.Proofs.YtiomlbkakiienaaW.PrintLast Go.Proofs.YtiomlbkakiienaaW.PrintMore
attribute [local go_sem] max2_int min2_int max_two min_two max_three min_three max_four min_four   -- for this text's walks alone
set_option linter.unusedVariables false
set_option linter.unusedSimpArgs false
def tlv_Put.l1 (k : Nat) : Nat → (List Int) → (List Int) → (List (S43)) → Int → Int → Option (List Int × Bool)
  | 0, _, _, _, _, _ => none
  | n1 + 1, y1_0, y1_6, y1_19, x1_20, x1_21 => if x1_21 < x1_20 then (if 0 ≤ x1_21 then (if x1_21 < (y1_19.length : Int) then ((tlv_Check.f ((rd_T43 y1_19 x1_21).f0) ((rd_T43 y1_19 x1_21).f1)).bind fun t1013 => (if t1013 = true then ((octets_Put.f y1_6 ((rd_T43 y1_19 x1_21).f0) 2).bind fun t1016 => ((octets_Put.f t1016 (((rd_T43 y1_19 x1_21).f1).size : Int) 2).bind fun t1017 => (if t1017.length + ((rd_T43 y1_19 x1_21).f1).size ≤ 140737488355328 then (tlv_Put.l1 k n1 y1_0 (t1017 ++ bytesOf ((rd_T43 y1_19 x1_21).f1) : List Int) y1_19 x1_20 (wrap64 (x1_21 + 1))) else (none)))) else (some (y1_0, false)))) else (none)) else (none)) else (some (y1_6, true))
def tlv_Put.f (k : Nat) (l0 : List Int) (l1 : List (S43)) : Option (List Int × Bool) := if (l1.length : Int) > 8 then (some (l0, false)) else (tlv_Put.l1 k k l0 l0 l1 (l1.length : Int) 0)
open Go.Proofs.Ytiomlbkakiienaa.E in
theorem tlv_Put.flat43 : Flat k43 (fun x => [.int .i64 x.f0, .string x.f1]) := ⟨fun w x cs h => k43_open h, fun w base x => k43_mkM w base _ x⟩
open Go.Proofs.Ytiomlbkakiienaa.E in
set_option maxHeartbeats 60000000 in
set_option maxRecDepth 100000 in
theorem tlv_Put.calls (k : Nat) (A0 : Option Addr) (aA : Nat) (l0 : List Int) (A1 : Option Addr) (aN : Nat) (l1 : List (S43)) (r1 : List Int) (r2 : Bool) (w : World) (HR0 : Kd.C (Kd.int .u8) w A0 l0.length l0) (HC0 : l0.length ≤ aA) (HR1 : Kd.C k43 w A1 l1.length l1) (HC1 : l1.length ≤ aN) (h : tlv_Put.f k l0 l1 = some (r1, r2)) :
    Calls Try.prog 21 #[.slice A0 l0.length aA, .slice A1 l1.length aN] w fun e w' => ∃ v0_ : Value, e = .returned (.tuple #[v0_, .bool r2]) ∧ IsC (Kd.int .u8) r1 v0_ w' ∧ Below w.heap.size w w' := by
 have H := h
 clear h
 unfold tlv_Put.f at H
 by_cases c1 : (l1.length : Int) > 8
 ·rw [if_pos c1] at H
  simp only [Option.some.injEq, Prod.mk.injEq] at H
  obtain ⟨rfl, rfl⟩ := H
  refine calls_of_wp (fn := Try.f21) (by kernel_rfl) rfl ?_
  have hS := St.enter #[.slice A0 l0.length aA, .slice A1 l1.length aN] 42 (by simp) [(0, .slice A0 l0.length aA), (1, .slice A1 l1.length aN)] (by simp)
  have bx := Below.refl w.heap.size w
  refine wp_seq_k (fun K1 bB => ?_)
  refine reg_seq (I := I1_ w) (ps := [IsV (.slice none 0 0), VB false]) (by kernel_rfl) ?_ ?_ rfl hS bx ?_ ?_
  ·exact bs1
  ·exact .v (.v (.nil))
  ·refine .on rfl (fun a w hS hI hp => does_val (x_assign rfl (rfl)) rfl) ?_
   refine .on rfl (fun a w hS hI hp => does_val (x_assign rfl (rfl)) rfl) ?_
   exact .nil
  clear hS
  intro ch w3 hS bS hp
  clear hp
  refine bB _ _ ?_
  refine wp_seq_k (fun K4 b6 => ?_)
  refine wp_seq_k (fun K5 bD => ?_)
  refine reg_seq (I := I2_ w w3) (ps := [IsV (.slice A1 l1.length aN), VI (l1.length : Int), VB (decide ((l1.length : Int) > 8))]) (by kernel_rfl) ?_ ?_ rfl hS ⟨bS, (bR w3)⟩ ?_ ?_
  ·exact bs2
  ·exact .v (.v (.v (.nil)))
  ·refine .ms 1 rfl rfl rfl ?_
   refine .on rfl (fun a w hS hI hp => does_val (x_len (e := 43) rfl (by kernel_rfl) (hp.V 0 rfl rfl)) rfl) ?_
   refine .on rfl (fun a w hS hI hp => does_val (x_bin rfl (hp.V 1 rfl rfl) (rfl) (b_gtr _ _ _ _ _ _)) rfl) ?_
   exact .nil
  clear hS
  intro ci w7 hS bU hp
  have a0 : sl _ 11 = .bool (decide ((l1.length : Int) > 8)) := hp 2 (by decide)
  have hS := hS.cons a0
  clear hp a0
  refine bD _ _ ?_
  refine wp_cond_true ((hS.get 0 rfl).trans (bT (decide_eq_true c1))) ?_
  refine wp_seq_k (fun K8 bE => ?_)
  refine reg_seq (I := I2_ w w7) (ps := [IsV (.slice A0 l0.length aA), IsV (.slice A0 l0.length aA), VB false]) (by kernel_rfl) ?_ ?_ rfl hS ⟨bU.1, (bR w7)⟩ ?_ ?_
  ·exact bs2
  ·exact .v (.v (.v (.nil)))
  ·refine .ms 1 rfl rfl rfl ?_
   refine .asg 0 rfl rfl rfl ?_
   refine .on rfl (fun a w hS hI hp => does_val (x_assign rfl (rfl)) rfl) ?_
   exact .nil
  clear hS
  intro cj bY hS a4 hp
  replace hS := hS.nil
  have aO : sl _ 4 = .slice A0 l0.length aA := hp 1 (by decide)
  have aP : sl _ 5 = .bool false := hp 2 (by decide)
  have hS := hS.cons aO
  have hS := hS.cons aP
  clear hp aO aP
  refine bE _ _ ?_
  refine wp_ret ?_
  (try simp only [Exit.then, Exit.inBlock, Exit.jump, Exit.noGoto])
  exact bodyPost_ret (v := .tuple #[.slice A0 l0.length aA, .bool false]) (results_list (rs := [.tmp 4, .tmp 5]) rfl (by simp) (Vals.at (hS.get 1 rfl) (Vals.at (hS.get 0 rfl) .nil))) hS.nodef ⟨.slice A0 l0.length aA, rfl, ⟨_, _, rfl, HC0, Kd.C_below HR0 a4.1⟩, a4.1⟩
 rw [if_neg c1] at H
 refine calls_of_wp (fn := Try.f21) (by kernel_rfl) rfl ?_
 have hS := St.enter #[.slice A0 l0.length aA, .slice A1 l1.length aN] 42 (by simp) [(0, .slice A0 l0.length aA), (1, .slice A1 l1.length aN)] (by simp)
 have bx := Below.refl w.heap.size w
 refine wp_seq_k (fun K1 bB => ?_)
 refine reg_seq (I := I1_ w) (ps := [IsV (.slice none 0 0), VB false]) (by kernel_rfl) ?_ ?_ rfl hS bx ?_ ?_
 ·exact bs1
 ·exact .v (.v (.nil))
 ·refine .on rfl (fun a w hS hI hp => does_val (x_assign rfl (rfl)) rfl) ?_
  refine .on rfl (fun a w hS hI hp => does_val (x_assign rfl (rfl)) rfl) ?_
  exact .nil
 clear hS
 intro ch w3 hS bS hp
 clear hp
 refine bB _ _ ?_
 refine wp_seq_k (fun K4 b6 => ?_)
 refine wp_seq_k (fun K5 bD => ?_)
 refine reg_seq (I := I2_ w w3) (ps := [IsV (.slice A1 l1.length aN), VI (l1.length : Int), VB (decide ((l1.length : Int) > 8))]) (by kernel_rfl) ?_ ?_ rfl hS ⟨bS, (bR w3)⟩ ?_ ?_
 ·exact bs2
 ·exact .v (.v (.v (.nil)))
 ·refine .ms 1 rfl rfl rfl ?_
  refine .on rfl (fun a w hS hI hp => does_val (x_len (e := 43) rfl (by kernel_rfl) (hp.V 0 rfl rfl)) rfl) ?_
  refine .on rfl (fun a w hS hI hp => does_val (x_bin rfl (hp.V 1 rfl rfl) (rfl) (b_gtr _ _ _ _ _ _)) rfl) ?_
  exact .nil
 clear hS
 intro ci w7 hS bU hp
 have a0 : sl _ 11 = .bool (decide ((l1.length : Int) > 8)) := hp 2 (by decide)
 have hS := hS.cons a0
 clear hp a0
 refine bD _ _ ?_
 refine wp_cond_false ((hS.get 0 rfl).trans (bF (decide_eq_false c1))) ?_
 refine wp_skip ?_
 refine b6 _ _ ?_
 refine wp_seq_k (fun K8 bE => ?_)
 refine reg_seq (I := I2_ w w7) (ps := [IsV (.slice A0 l0.length aA), IsV (.slice A0 l0.length aA), VI (l0.length : Int), IsV (.slice A0 l0.length aA), VI (l0.length : Int), IsV (.slice A0 l0.length l0.length), IsV (.slice A0 l0.length l0.length)]) (by kernel_rfl) ?_ ?_ rfl hS ⟨bU.1, (bR w7)⟩ ?_ ?_
 ·exact bs2
 ·exact .v (.v (.v (.v (.v (.v (.v (.nil)))))))
 ·refine .ms 1 rfl rfl rfl ?_
  refine .ms 1 rfl rfl rfl ?_
  refine .on rfl (fun a w hS hI hp => does_val (x_len (e := 5) rfl (by kernel_rfl) (hp.V 1 rfl rfl)) rfl) ?_
  refine .ms 1 rfl rfl rfl ?_
  refine .on rfl (fun a w hS hI hp => does_val (x_len (e := 5) rfl (by kernel_rfl) (hp.V 3 rfl rfl)) rfl) ?_
  refine .on rfl (fun a w hS hI hp => does_val (x_cutcap (e := 5) (n := l0.length) (c := aA) (j := (l0.length : Int)) (k := (l0.length : Int)) rfl (by kernel_rfl) (by kernel_rfl) (hp.V 0 rfl rfl) (hp.V 2 rfl rfl) (hp.V 4 rfl rfl) (Int.natCast_nonneg _) (Int.le_refl _) (Int.ofNat_le.2 HC0)) rfl) ?_
  refine .asg 5 rfl rfl rfl ?_
  exact .nil
 clear hS
 intro cj bY hS a4 hp
 replace hS := ((hS.nil).cons (hS.get 2 rfl)).cons (hS.get 1 rfl)
 have b7 : sl _ 6 = .slice A0 l0.length l0.length := hp 6 (by decide)
 have hS := hS.cons b7
 clear hp b7
 refine bE _ _ ?_
 refine wp_seq_k (fun cu b8 => ?_)
 refine wp_seq_k (fun cv b9 => ?_)
 refine reg_seq (I := I2_ w bY) (ps := [IsV (.slice A1 l1.length aN), VI (l1.length : Int), VI 0]) (by kernel_rfl) ?_ ?_ rfl hS ⟨a4.1, (bR bY)⟩ ?_ ?_
 ·exact bs2
 ·exact .v (.v (.v (.nil)))
 ·refine .ms 2 rfl rfl rfl ?_
  refine .on rfl (fun a w hS hI hp => does_val (x_len (e := 43) rfl (by kernel_rfl) (hp.V 0 rfl rfl)) rfl) ?_
  refine .on rfl (fun a w hS hI hp => does_val (x_move rfl (rfl)) rfl) ?_
  exact .nil
 clear hS
 intro ct cx hS bQ hp
 replace hS := ((hS.nil).cons (hS.get 1 rfl)).cons (hS.get 0 rfl)
 have bK : sl _ 19 = .slice A1 l1.length aN := hp 0 (by decide)
 have bL : sl _ 20 = .int .i64 (l1.length : Int) := hp 1 (by decide)
 have bM : sl _ 21 = .int .i64 0 := hp 2 (by decide)
 have hS := hS.cons bK
 have hS := hS.cons bL
 have hS := hS.cons bM
 clear hp bK bL bM
 refine b9 _ _ ?_
 refine wp_block ?_
 replace hS := (((((hS.nil).cons (hS.get 0 rfl)).cons (hS.get 1 rfl)).cons (hS.get 2 rfl)).cons (hS.get 3 rfl)).cons (hS.get 4 rfl)
 refine wp_loop_ghost (fun n_ a_ ap => ∃ (ao : List Int) (aq : Option Addr) (au : Nat) (am : List Int) (ar : Option Addr) (av : Nat) (ab : List (S43)) (aG : Option Addr) (aI : Nat) (al aa : Int), tlv_Put.l1 k n_ ao am ab al aa = some (r1, r2) ∧ St 42 [(0, .slice aq ao.length au), (6, .slice ar am.length av), (19, .slice aG ab.length aI), (20, .int .i64 al), (21, .int .i64 aa)] a_ ∧ Below w.heap.size w ap ∧ ao.length ≤ au ∧ Kd.C (Kd.int .u8) w aq ao.length ao ∧ am.length ≤ av ∧ Kd.C (Kd.int .u8) ap ar am.length am ∧ ab.length ≤ aI ∧ Kd.C k43 w aG ab.length ab) k ⟨l0, A0, aA, l0, A0, l0.length, l1, A1, aN, (l1.length : Int), 0, H, hS, bQ.1, HC0, (HR0), (Nat.le_refl _), (Kd.C_below HR0 bQ.1), HC1, (HR1)⟩ ?_
 clear H hS
 rintro n1 cw ap ⟨ao, aq, au, am, ar, av, ab, aG, aI, al, aa, H, hS, aL, bn, be, bo, bf, bJ, aM⟩
 rcases n1 with _ | n1
 ·exact absurd H (by simp [tlv_Put.l1])
 rw [tlv_Put.l1] at H
 (try dsimp only at H)
 by_cases c2 : aa < al
 rotate_left
 ·rw [if_neg c2] at H
  simp only [Option.some.injEq, Prod.mk.injEq] at H
  obtain ⟨rfl, rfl⟩ := H
  refine wp_seq_k (fun bk aC => ?_)
  refine reg_seq (I := I2_ w ap) (ps := [VB (decide (aa < al))]) (by kernel_rfl) ?_ ?_ rfl hS ⟨aL, (bR ap)⟩ ?_ ?_
  ·exact bs2
  ·exact .v (.nil)
  ·refine .on rfl (fun a w hS hI hp => does_val (x_bin rfl (hS.get 4 rfl) (hS.get 3 rfl) (b_lss _ _ _ _ _ _)) rfl) ?_
   exact .nil
  clear hS
  intro a9 af hS ag hp
  have aD : sl _ 22 = .bool (decide (aa < al)) := hp 0 (by decide)
  have hS := hS.cons aD
  clear hp aD
  refine aC _ _ ?_
  refine wp_seq_k (fun bl aJ => ?_)
  refine wp_cond_false ((hS.get 0 rfl).trans (bF (decide_eq_false c2))) ?_
  refine wp_exit ?_
  (try simp only [Exit.then, Exit.inBlock, reduceIte])
  refine b8 _ _ ?_
  refine wp_seq_k (fun bm aK => ?_)
  refine reg_seq (I := I3_ w ap af) (ps := [IsV (.slice ar am.length av), IsV (.slice ar am.length av), VB true]) (by kernel_rfl) ?_ ?_ rfl hS ⟨ag.1, ag.2, (bR af)⟩ ?_ ?_
  ·exact bs3
  ·exact .v (.v (.v (.nil)))
  ·refine .ms 2 rfl rfl rfl ?_
   refine .asg 0 rfl rfl rfl ?_
   refine .on rfl (fun a w hS hI hp => does_val (x_assign rfl (rfl)) rfl) ?_
   exact .nil
  clear hS
  intro ca cp hS bh hp
  replace hS := hS.nil
  have aO : sl _ 4 = .slice ar am.length av := hp 1 (by decide)
  have aP : sl _ 5 = .bool true := hp 2 (by decide)
  have hS := hS.cons aO
  have hS := hS.cons aP
  clear hp aO aP
  refine aK _ _ ?_
  refine wp_ret ?_
  (try simp only [Exit.then, Exit.inBlock, Exit.jump, Exit.noGoto])
  exact bodyPost_ret (v := .tuple #[.slice ar am.length av, .bool true]) (results_list (rs := [.tmp 4, .tmp 5]) rfl (by simp) (Vals.at (hS.get 1 rfl) (Vals.at (hS.get 0 rfl) .nil))) hS.nodef ⟨.slice ar am.length av, rfl, ⟨_, _, rfl, bo, Kd.C_below bf bh.2.1⟩, bh.1⟩
 rw [if_pos c2] at H
 by_cases c3 : 0 ≤ aa
 rotate_left
 ·rw [if_neg c3] at H
  exact absurd H (by simp)
 rw [if_pos c3] at H
 by_cases c4 : aa < (ab.length : Int)
 rotate_left
 ·rw [if_neg c4] at H
  exact absurd H (by simp)
 rw [if_pos c4] at H
 obtain ⟨aw, a8, H⟩ := Option.bind_eq_some_iff.mp H
 by_cases c5 : aw = true
 rotate_left
 ·rw [if_neg c5] at H
  simp only [Option.some.injEq, Prod.mk.injEq] at H
  obtain ⟨rfl, rfl⟩ := H
  refine wp_seq_k (fun bk aC => ?_)
  refine reg_seq (I := I2_ w ap) (ps := [VB (decide (aa < al))]) (by kernel_rfl) ?_ ?_ rfl hS ⟨aL, (bR ap)⟩ ?_ ?_
  ·exact bs2
  ·exact .v (.nil)
  ·refine .on rfl (fun a w hS hI hp => does_val (x_bin rfl (hS.get 4 rfl) (hS.get 3 rfl) (b_lss _ _ _ _ _ _)) rfl) ?_
   exact .nil
  clear hS
  intro a9 af hS ag hp
  have aD : sl _ 22 = .bool (decide (aa < al)) := hp 0 (by decide)
  have hS := hS.cons aD
  clear hp aD
  refine aC _ _ ?_
  refine wp_seq_k (fun bl aJ => ?_)
  refine wp_cond_true ((hS.get 0 rfl).trans (bT (decide_eq_true c2))) ?_
  refine wp_skip ?_
  refine aJ _ _ ?_
  refine wp_seq_k (fun bm aK => ?_)
  refine wp_block ?_
  refine wp_seq_k (fun b2 aY => ?_)
  refine reg_seq_tail 3 (I := I3_ w ap af) (ps := [IsAT [.int .i64 ((rd_T43 ab aa).f0), .string ((rd_T43 ab aa).f1)], IsV (.agg #[.int .i64 ((rd_T43 ab aa).f0), .string ((rd_T43 ab aa).f1)]), IsB #[.int .i64 0, .string (⟨#[]⟩ : ByteArray)] 43 af.heap.size]) (by kernel_rfl) ?_ ?_ rfl hS ⟨ag.1, ag.2, (bR af)⟩ ?_ ?_
  ·exact bs3
  ·exact .cons (Stays.at_ _) (.v (.cons (Stays.b _ _ _) (.nil)))
  ·refine .on rfl (fun a w hS hI hp => does_indexT tlv_Put.flat43 (e := 43) (xs := ab) (i := aa) z43 rfl (hS.get 3 rfl) (hS.get 5 rfl) (by kernel_rfl) (by kernel_rfl) c3 c4 c4 (by decide) ((Kd.C_below aM hI.1))) ?_
   refine .on rfl (fun a w hS hI hp => does_loadT (cs := [.int .i64 ((rd_T43 ab aa).f0), .string ((rd_T43 ab aa).f1)]) rfl (hp.V 0 rfl rfl) Try.underlying43 rfl (by kernel_rfl)) ?_
   refine .on rfl (fun a w hS hI hp => does_var (x_alloc rfl (by kernel_rfl)) (hI.2.2).size) ?_
   exact .nil
  clear hS
  intro bz a6 hS ad hp
  replace hS := (((((hS.nil).cons (hS.get 5 rfl)).cons (hS.get 4 rfl)).cons (hS.get 3 rfl)).cons (hS.get 2 rfl)).cons (hS.get 1 rfl)
  have a1 : sl _ 24 = .agg #[.int .i64 ((rd_T43 ab aa).f0), .string ((rd_T43 ab aa).f1)] := hp 1 (by decide)
  obtain ⟨ah, bg, aj, ax⟩ := (show IsB _ 43 _ (sl _ 8) _ from hp 2 (by decide))
  have hS := hS.cons a1
  have hS := hS.cons bg
  clear hp a1 bg
  show wpList _ _ _ [_] _ _
  refine list_step rfl (does_storeAll (g := ah) (cs := #[.int .i64 ((rd_T43 ab aa).f0), .string ((rd_T43 ab aa).f1)]) rfl (hS.get 0 rfl) (hS.get 1 rfl) (((bR a6).block ah (blk_lt ax)).trans ax) (by kernel_rfl) (by kernel_rfl) (by kernel_rfl)) ?_
  rintro bV ay ⟨rfl, ac, hT⟩
  have aB := hT.below ad.1 (Nat.le_trans (ag.1).size aj) (ad.1).size
  have az := hT.below ad.2.1 (Nat.le_trans (ag.2).size aj) (ad.2.1).size
  have an := hT.below ad.2.2 aj (ad.2.2).size
  clear hT
  refine wpList_nil ?_
  refine aY _ _ ?_
  refine wp_seq_k (fun b3 bd => ?_)
  refine wp_seq_k (fun b4 aZ => ?_)
  refine reg_seq (I := I4_ w ap af ay) (ps := [IsV (.agg #[.int .i64 ((rd_T43 ab aa).f0), .string ((rd_T43 ab aa).f1)]), VB aw, VB (!aw)]) (by kernel_rfl) ?_ ?_ rfl hS ⟨aB, az, an, (bR ay)⟩ ?_ ?_
  ·exact bs4
  ·exact .v (.v (.v (.nil)))
  ·refine .on rfl (fun a w hS hI hp => does_loadrow rfl (hS.get 0 rfl) (((hI.2.2.2).block ah (blk_lt ac)).trans ac) Try.underlying43 rfl (by kernel_rfl) rfl) ?_
   refine .on rfl (fun a w hS hI hp => does_call (by kernel_rfl) (ar1 (hp.V 0 rfl rfl)) ((tlv_Check.calls ((rd_T43 ab aa).f0) ((rd_T43 ab aa).f1) aw _  a8).mono fun _ _ h => ⟨_, h.1, h.2, rfl⟩)) ?_
   refine .on rfl (fun a w hS hI hp => does_val (x_not rfl (hp.V 1 rfl rfl)) rfl) ?_
   exact .nil
  clear hS
  intro bA ak hS ae hp
  replace hS := ((((((hS.nil).cons (hS.get 6 rfl)).cons (hS.get 5 rfl)).cons (hS.get 4 rfl)).cons (hS.get 3 rfl)).cons (hS.get 2 rfl)).cons (hS.get 0 rfl)
  have a2 : sl _ 27 = .bool (!aw) := hp 2 (by decide)
  have hS := hS.cons a2
  clear hp a2
  refine aZ _ _ ?_
  refine wp_cond_true ((hS.get 0 rfl).trans (bT (congrArg (!·) (Bool.eq_false_iff.2 c5)))) ?_
  refine wp_seq_k (fun co bC => ?_)
  refine reg_seq (I := I5_ w ap af ay ak) (ps := [IsV (.slice aq ao.length au), IsV (.slice aq ao.length au), VB false]) (by kernel_rfl) ?_ ?_ rfl hS ⟨ae.1, ae.2.1, ae.2.2.1, ae.2.2.2, (bR ak)⟩ ?_ ?_
  ·exact bs5
  ·exact .v (.v (.v (.nil)))
  ·refine .ms 2 rfl rfl rfl ?_
   refine .asg 0 rfl rfl rfl ?_
   refine .on rfl (fun a w hS hI hp => does_val (x_assign rfl (rfl)) rfl) ?_
   exact .nil
  clear hS
  intro cb cq hS bi hp
  replace hS := hS.nil
  have aO : sl _ 4 = .slice aq ao.length au := hp 1 (by decide)
  have aP : sl _ 5 = .bool false := hp 2 (by decide)
  have hS := hS.cons aO
  have hS := hS.cons aP
  clear hp aO aP
  refine bC _ _ ?_
  refine wp_ret ?_
  (try simp only [Exit.then, Exit.inBlock, Exit.jump, Exit.noGoto])
  exact bodyPost_ret (v := .tuple #[.slice aq ao.length au, .bool false]) (results_list (rs := [.tmp 4, .tmp 5]) rfl (by simp) (Vals.at (hS.get 1 rfl) (Vals.at (hS.get 0 rfl) .nil))) hS.nodef ⟨.slice aq ao.length au, rfl, ⟨_, _, rfl, bn, Kd.C_below be bi.1⟩, bi.1⟩
 rw [if_pos c5] at H
 obtain ⟨a5, bv, H⟩ := Option.bind_eq_some_iff.mp H
 obtain ⟨ai, bw, H⟩ := Option.bind_eq_some_iff.mp H
 by_cases c6 : ai.length + ((rd_T43 ab aa).f1).size ≤ 140737488355328
 rotate_left
 ·rw [if_neg c6] at H
  exact absurd H (by simp)
 rw [if_pos c6] at H
 refine wp_seq_k (fun bk aC => ?_)
 refine reg_seq (I := I2_ w ap) (ps := [VB (decide (aa < al))]) (by kernel_rfl) ?_ ?_ rfl hS ⟨aL, (bR ap)⟩ ?_ ?_
 ·exact bs2
 ·exact .v (.nil)
 ·refine .on rfl (fun a w hS hI hp => does_val (x_bin rfl (hS.get 4 rfl) (hS.get 3 rfl) (b_lss _ _ _ _ _ _)) rfl) ?_
  exact .nil
 clear hS
 intro a9 af hS ag hp
 have aD : sl _ 22 = .bool (decide (aa < al)) := hp 0 (by decide)
 have hS := hS.cons aD
 clear hp aD
 refine aC _ _ ?_
 refine wp_seq_k (fun bl aJ => ?_)
 refine wp_cond_true ((hS.get 0 rfl).trans (bT (decide_eq_true c2))) ?_
 refine wp_skip ?_
 refine aJ _ _ ?_
 refine wp_seq_k (fun bm aK => ?_)
 refine wp_block ?_
 refine wp_seq_k (fun b2 aY => ?_)
 refine reg_seq_tail 3 (I := I3_ w ap af) (ps := [IsAT [.int .i64 ((rd_T43 ab aa).f0), .string ((rd_T43 ab aa).f1)], IsV (.agg #[.int .i64 ((rd_T43 ab aa).f0), .string ((rd_T43 ab aa).f1)]), IsB #[.int .i64 0, .string (⟨#[]⟩ : ByteArray)] 43 af.heap.size]) (by kernel_rfl) ?_ ?_ rfl hS ⟨ag.1, ag.2, (bR af)⟩ ?_ ?_
 ·exact bs3
 ·exact .cons (Stays.at_ _) (.v (.cons (Stays.b _ _ _) (.nil)))
 ·refine .on rfl (fun a w hS hI hp => does_indexT tlv_Put.flat43 (e := 43) (xs := ab) (i := aa) z43 rfl (hS.get 3 rfl) (hS.get 5 rfl) (by kernel_rfl) (by kernel_rfl) c3 c4 c4 (by decide) ((Kd.C_below aM hI.1))) ?_
  refine .on rfl (fun a w hS hI hp => does_loadT (cs := [.int .i64 ((rd_T43 ab aa).f0), .string ((rd_T43 ab aa).f1)]) rfl (hp.V 0 rfl rfl) Try.underlying43 rfl (by kernel_rfl)) ?_
  refine .on rfl (fun a w hS hI hp => does_var (x_alloc rfl (by kernel_rfl)) (hI.2.2).size) ?_
  exact .nil
 clear hS
 intro bz a6 hS ad hp
 replace hS := (((((hS.nil).cons (hS.get 5 rfl)).cons (hS.get 4 rfl)).cons (hS.get 3 rfl)).cons (hS.get 2 rfl)).cons (hS.get 1 rfl)
 have a1 : sl _ 24 = .agg #[.int .i64 ((rd_T43 ab aa).f0), .string ((rd_T43 ab aa).f1)] := hp 1 (by decide)
 obtain ⟨ah, bg, aj, ax⟩ := (show IsB _ 43 _ (sl _ 8) _ from hp 2 (by decide))
 have hS := hS.cons a1
 have hS := hS.cons bg
 clear hp a1 bg
 show wpList _ _ _ [_] _ _
 refine list_step rfl (does_storeAll (g := ah) (cs := #[.int .i64 ((rd_T43 ab aa).f0), .string ((rd_T43 ab aa).f1)]) rfl (hS.get 0 rfl) (hS.get 1 rfl) (((bR a6).block ah (blk_lt ax)).trans ax) (by kernel_rfl) (by kernel_rfl) (by kernel_rfl)) ?_
 rintro bV ay ⟨rfl, ac, hT⟩
 have aB := hT.below ad.1 (Nat.le_trans (ag.1).size aj) (ad.1).size
 have az := hT.below ad.2.1 (Nat.le_trans (ag.2).size aj) (ad.2.1).size
 have an := hT.below ad.2.2 aj (ad.2.2).size
 clear hT
 refine wpList_nil ?_
 refine aY _ _ ?_
 refine wp_seq_k (fun b3 bd => ?_)
 refine wp_seq_k (fun b4 aZ => ?_)
 refine reg_seq (I := I4_ w ap af ay) (ps := [IsV (.agg #[.int .i64 ((rd_T43 ab aa).f0), .string ((rd_T43 ab aa).f1)]), VB aw, VB (!aw)]) (by kernel_rfl) ?_ ?_ rfl hS ⟨aB, az, an, (bR ay)⟩ ?_ ?_
 ·exact bs4
 ·exact .v (.v (.v (.nil)))
 ·refine .on rfl (fun a w hS hI hp => does_loadrow rfl (hS.get 0 rfl) (((hI.2.2.2).block ah (blk_lt ac)).trans ac) Try.underlying43 rfl (by kernel_rfl) rfl) ?_
  refine .on rfl (fun a w hS hI hp => does_call (by kernel_rfl) (ar1 (hp.V 0 rfl rfl)) ((tlv_Check.calls ((rd_T43 ab aa).f0) ((rd_T43 ab aa).f1) aw _  a8).mono fun _ _ h => ⟨_, h.1, h.2, rfl⟩)) ?_
  refine .on rfl (fun a w hS hI hp => does_val (x_not rfl (hp.V 1 rfl rfl)) rfl) ?_
  exact .nil
 clear hS
 intro bA ak hS ae hp
 replace hS := ((((((hS.nil).cons (hS.get 6 rfl)).cons (hS.get 5 rfl)).cons (hS.get 4 rfl)).cons (hS.get 3 rfl)).cons (hS.get 2 rfl)).cons (hS.get 0 rfl)
 have a2 : sl _ 27 = .bool (!aw) := hp 2 (by decide)
 have hS := hS.cons a2
 clear hp a2
 refine aZ _ _ ?_
 refine wp_cond_false ((hS.get 0 rfl).trans (bF (congrArg (!·) c5))) ?_
 refine wp_skip ?_
 refine bd _ _ ?_
 refine reg_any_tail 10 [0, 0, 2, 7, 0, 16, 48, 127, 0, 256, 1023, 2047] (I := I5_ w ap af ay ak) (ps := [IsV (.slice ar am.length av), VP ah 0, VI ((rd_T43 ab aa).f0), IsR (Kd.int .u8) 5 ak.heap.size a5, VP ah 1, IsV (.string ((rd_T43 ab aa).f1)), VI (((rd_T43 ab aa).f1).size : Int), IsR (Kd.int .u8) 5 ak.heap.size ai, VP ah 1, IsV (.string ((rd_T43 ab aa).f1))]) (by kernel_rfl) (by kernel_rfl) (by kernel_rfl) (by decide) ?_ ?_ rfl hS ⟨ae.1, ae.2.1, ae.2.2.1, ae.2.2.2, (bR ak)⟩ ?_ ?_
 ·exact bs5
 ·exact .v (.v (.v (.cons (Stays.r _ _ _ _) (.v (.v (.v (.cons (Stays.r _ _ _ _) (.v (.v (.nil))))))))))
 ·refine .ms 3 rfl rfl rfl ?_
  refine .on rfl (fun a w hS hI hp => does_val (x_fieldE (b := 0) rfl (hS.get 1 rfl) Try.underlying43 rfl rfl (by kernel_rfl)) rfl) ?_
  refine .on rfl (fun a w hS hI hp => does_val (x_load1 (d := .int .i64) rfl (hp.V 1 rfl rfl) (by kernel_rfl) rfl ((blk_cell (((hI.2.2.2.1).block ah (blk_lt ac)).trans ac) 0).trans rfl)) rfl) ?_
  refine .on rfl (fun a w hS hI hp => does_call (by kernel_rfl) (ar3 (hp.V 0 rfl rfl) (hp.V 2 rfl rfl) (rfl)) ((octets_Put.calls _ _ am ((rd_T43 ab aa).f0) 2 a5 _ (Kd.C_below bf hI.2.1) bo bv).mono fun _ _ h => h.elim fun v0 h => ⟨v0, h.1, h.2.2, Kd.R_lower h.2.1 hI.2.2.2.2.size⟩)) ?_
  refine .on rfl (fun a w hS hI hp => does_val (x_fieldE (b := 0) rfl (hS.get 1 rfl) Try.underlying43 rfl rfl (by kernel_rfl)) rfl) ?_
  refine .on rfl (fun a w hS hI hp => does_val (x_load1 (d := .string) rfl (hp.V 4 rfl rfl) (by kernel_rfl) rfl ((blk_cell (((hI.2.2.2.1).block ah (blk_lt ac)).trans ac) 1).trans rfl)) rfl) ?_
  refine .on rfl (fun a w hS hI hp => does_val (x_lenS rfl (by kernel_rfl) (hp.V 5 rfl rfl)) rfl) ?_
  refine .on rfl (fun a w hS hI hp => (IsC.of_r (hp.V 3 rfl rfl)).elim fun A_ h_ => h_.elim fun c_ h_ => h_.elim fun hv_ h_ => h_.elim fun hl_ hc_ => does_call (by kernel_rfl) (ar3 (hv_) (hp.V 6 rfl rfl) (rfl)) ((octets_Put.calls _ _ a5 (((rd_T43 ab aa).f1).size : Int) 2 ai _ hc_ hl_ bw).mono fun _ _ h => h.elim fun v0 h => ⟨v0, h.1, h.2.2, Kd.R_lower h.2.1 hI.2.2.2.2.size⟩)) ?_
  refine .on rfl (fun a w hS hI hp => does_val (x_fieldE (b := 0) rfl (hS.get 1 rfl) Try.underlying43 rfl rfl (by kernel_rfl)) rfl) ?_
  refine .on rfl (fun a w hS hI hp => does_val (x_load1 (d := .string) rfl (hp.V 8 rfl rfl) (by kernel_rfl) rfl ((blk_cell (((hI.2.2.2.1).block ah (blk_lt ac)).trans ac) 1).trans rfl)) rfl) ?_
  exact .nil
 clear hS
 intro cc a7 hS bP hp
 replace hS := (((((hS.nil).cons (hS.get 6 rfl)).cons (hS.get 5 rfl)).cons (hS.get 4 rfl)).cons (hS.get 3 rfl)).cons (hS.get 2 rfl)
 obtain ⟨b0, b1, bj, cl, ck⟩ := Kd.R_reads (show Kd.R (Kd.int .u8) 5 a7 ak.heap.size (fun _ => True) (sl _ 36) ai from hp 7 (by decide))
 have bI : Kd.R (Kd.int .u8) 5 a7 ak.heap.size (fun _ => True) (.slice b0 ai.length b1) ai := bj ▸ (hp 7 (by decide))
 have bN : sl _ 38 = .string ((rd_T43 ab aa).f1) := hp 9 (by decide)
 have hS := hS.cons bj
 have hS := hS.cons bN
 clear hp bj bN
 show wpList _ _ _ [_, _] _ _
 refine list_step rfl (does_moreS (W := ak) (.tmp 36) (.tmp 38) 36 9 5 rfl (by kernel_rfl) (by kernel_rfl) (by kernel_rfl) _ ai ((rd_T43 ab aa).f1) (hS.get 1 rfl) (hS.get 0 rfl) (Kd.R_below bI (bR a7)) (bP.2.2.2.2) c6) ?_
 rintro cn bp ⟨hb, hr, hk⟩
 clear hk
 have ba := below_step ae.1 hb
 have a3 := below_step ae.2.1 hb
 have aQ := below_step ae.2.2.1 hb
 have aR := below_step ae.2.2.2 hb
 have aS := hb
 replace hS := ((((((hS.nil).cons (hS.get 6 rfl)).cons (hS.get 5 rfl)).cons (hS.get 4 rfl)).cons (hS.get 3 rfl)).cons (hS.get 2 rfl)).cons (hS.get 0 rfl)
 obtain ⟨aF, aH, rfl, bH, bG⟩ := Kd.R_reads hr
 have cm := hr
 clear hr
 refine hS.next (v := .slice aF ((ai ++ bytesOf ((rd_T43 ab aa).f1) : List Int).length) aH) (d := 39) rfl (by decide) (by rfl) ?_
 clear hS
 intro cd hS
 refine list_step rfl (R := fun v w' => Below _ _ w' ∧ (IsV (.slice aF ((ai ++ bytesOf ((rd_T43 ab aa).f1) : List Int).length) aH)) v w') (does_val (x_assign rfl (hS.get 0 rfl)) rfl) ?_
 rintro bW bq ⟨hb, he⟩
 have bb := below_step ba hb
 have bZ := below_step a3 hb
 have aT := below_step aQ hb
 have aU := below_step aR hb
 have aV := below_step aS hb
 have aW := below_step (bR bp) hb
 obtain rfl : bW = .slice aF ((ai ++ bytesOf ((rd_T43 ab aa).f1) : List Int).length) aH := he
 replace hS := ((((((hS.nil).cons (hS.get 6 rfl)).cons (hS.get 5 rfl)).cons (hS.get 4 rfl)).cons (hS.get 2 rfl)).cons (hS.get 1 rfl)).cons (hS.get 0 rfl)
 refine hS.next (v := .slice aF ((ai ++ bytesOf ((rd_T43 ab aa).f1) : List Int).length) aH) (d := 6) rfl (by decide) (by rfl) ?_
 clear hS
 intro ce hS
 refine wpList_nil ?_
 refine aK _ _ ?_
 refine reg_seq_tail 1 (I := I6_ w af ay ak bp bq) (ps := [VI (wrap64 (aa + 1))]) (by kernel_rfl) ?_ ?_ rfl hS ⟨bb, aT, aU, aV, aW, (bR bq)⟩ ?_ ?_
 ·exact bs6
 ·exact .v (.nil)
 ·refine .on rfl (fun a w hS hI hp => does_val (x_bin rfl (hS.get 6 rfl) (rfl) (b_add _ _ _ _ _)) rfl) ?_
  exact .nil
 clear hS
 intro cf b5 hS aE hp
 replace hS := (((((hS.nil).cons (hS.get 6 rfl)).cons (hS.get 5 rfl)).cons (hS.get 4 rfl)).cons (hS.get 3 rfl)).cons (hS.get 0 rfl)
 have bO : sl _ 40 = .int .i64 (wrap64 (aa + 1)) := hp 0 (by decide)
 have hS := hS.cons bO
 clear hp bO
 show wpList _ _ _ [_] _ _
 refine list_step rfl (R := fun v w' => Below _ _ w' ∧ (VI (wrap64 (aa + 1))) v w') (does_val (x_move rfl (hS.get 0 rfl)) rfl) ?_
 rintro bX cr ⟨hb, he⟩
 have bc := below_step aE.1 hb
 have br := below_step aE.2.1 hb
 have bs := below_step aE.2.2.1 hb
 have bt := below_step aE.2.2.2.1 hb
 have aX := below_step aE.2.2.2.2.1 hb
 have bu := below_step (bR b5) hb
 obtain rfl : bX = .int .i64 (wrap64 (aa + 1)) := he
 replace hS := (((((hS.nil).cons (hS.get 4 rfl)).cons (hS.get 3 rfl)).cons (hS.get 2 rfl)).cons (hS.get 1 rfl)).cons (hS.get 0 rfl)
 refine hS.next (v := .int .i64 (wrap64 (aa + 1))) (d := 21) rfl (by decide) (by rfl) ?_
 clear hS
 intro cg hS
 refine wpList_nil ?_
 replace hS := (((((hS.nil).cons (hS.get 0 rfl)).cons (hS.get 5 rfl)).cons (hS.get 4 rfl)).cons (hS.get 2 rfl)).cons (hS.get 3 rfl)
 (try simp only [Exit.then, Exit.inBlock])
 exact ⟨n1, Nat.lt_succ_self _, ao, aq, au, (ai ++ bytesOf ((rd_T43 ab aa).f1) : List Int), aF, aH, ab, aG, aI, al, wrap64 (aa + 1), H, hS, bc, bn, (be), bH, (Kd.C_below bG aX), bJ, (aM)⟩
def header_control.f (a0 : Int) : Option (Int) := if a0 = 0 then (some 0) else (if a0 = 1 then (some 1) else (if a0 = 8 then (some 2) else (if a0 = 9 then (some 3) else (if a0 = 13 then (some 4) else (some 5)))))
set_option maxHeartbeats 8000000 in
set_option maxRecDepth 100000 in
theorem header_control.calls (a0 : Int) (r : Int) (w : World) (h : header_control.f a0 = some r) :
    Calls Try.prog 45 #[.int .i64 a0] w fun e w' => e = .returned (.int .i64 r) ∧ Drawn0 w w' := by
  have H : (if a0 = 0 then (some 0) else (if a0 = 1 then (some 1) else (if a0 = 8 then (some 2) else (if a0 = 9 then (some 3) else (if a0 = 13 then (some 4) else (some 5)))))) = some r := h
  clear h
  by_cases c2 : a0 = 0
  · rw [if_pos c2] at H
    have c2b0 : (a0 == 0) = true := beq_iff_eq.mpr c2
    have c2b1 : (a0 != 0) = false := bne_eq_false_iff_eq.mpr c2
    clear c2
    obtain rfl := Option.some.inj H
    go_enter Try.func45, Try.ntmps45
    go_wp2
    all_goals
      go_ret
      exact ⟨by first | rfl | (simp; done) | (simp [*]; done), by repeat (first | exact Drawn0.refl _ | apply Drawn0.step)⟩
  · rw [if_neg c2] at H
    have c2b0 : (a0 == 0) = false := beq_eq_false_iff_ne.mpr c2
    have c2b1 : (a0 != 0) = true := bne_iff_ne.mpr c2
    by_cases c3 : a0 = 1
    · rw [if_pos c3] at H
      have c3b0 : (a0 == 1) = true := beq_iff_eq.mpr c3
      have c3b1 : (a0 != 1) = false := bne_eq_false_iff_eq.mpr c3
      clear c3
      obtain rfl := Option.some.inj H
      go_enter Try.func45, Try.ntmps45
      go_wp2
      all_goals
        go_ret
        exact ⟨by first | rfl | (simp; done) | (simp [*]; done), by repeat (first | exact Drawn0.refl _ | apply Drawn0.step)⟩
    · rw [if_neg c3] at H
      have c3b0 : (a0 == 1) = false := beq_eq_false_iff_ne.mpr c3
      have c3b1 : (a0 != 1) = true := bne_iff_ne.mpr c3
      by_cases c4 : a0 = 8
      · rw [if_pos c4] at H
        have c4b0 : (a0 == 8) = true := beq_iff_eq.mpr c4
        have c4b1 : (a0 != 8) = false := bne_eq_false_iff_eq.mpr c4
        clear c4
        obtain rfl := Option.some.inj H
        go_enter Try.func45, Try.ntmps45
        go_wp2
        all_goals
          go_ret
          exact ⟨by first | rfl | (simp; done) | (simp [*]; done), by repeat (first | exact Drawn0.refl _ | apply Drawn0.step)⟩
      · rw [if_neg c4] at H
        have c4b0 : (a0 == 8) = false := beq_eq_false_iff_ne.mpr c4
        have c4b1 : (a0 != 8) = true := bne_iff_ne.mpr c4
        by_cases c5 : a0 = 9
        · rw [if_pos c5] at H
          have c5b0 : (a0 == 9) = true := beq_iff_eq.mpr c5
          have c5b1 : (a0 != 9) = false := bne_eq_false_iff_eq.mpr c5
          clear c5
          obtain rfl := Option.some.inj H
          go_enter Try.func45, Try.ntmps45
          go_wp2
          all_goals
            go_ret
            exact ⟨by first | rfl | (simp; done) | (simp [*]; done), by repeat (first | exact Drawn0.refl _ | apply Drawn0.step)⟩
        · rw [if_neg c5] at H
          have c5b0 : (a0 == 9) = false := beq_eq_false_iff_ne.mpr c5
          have c5b1 : (a0 != 9) = true := bne_iff_ne.mpr c5
          by_cases c6 : a0 = 13
          · rw [if_pos c6] at H
            have c6b0 : (a0 == 13) = true := beq_iff_eq.mpr c6
            have c6b1 : (a0 != 13) = false := bne_eq_false_iff_eq.mpr c6
            clear c6
            obtain rfl := Option.some.inj H
            go_enter Try.func45, Try.ntmps45
            go_wp2
            all_goals
              go_ret
              exact ⟨by first | rfl | (simp; done) | (simp [*]; done), by repeat (first | exact Drawn0.refl _ | apply Drawn0.step)⟩
          · rw [if_neg c6] at H
            have c6b0 : (a0 == 13) = false := beq_eq_false_iff_ne.mpr c6
            have c6b1 : (a0 != 13) = true := bne_iff_ne.mpr c6
            obtain rfl := Option.some.inj H
            go_enter Try.func45, Try.ntmps45
            go_wp2
            all_goals
              go_ret
              exact ⟨by first | rfl | (simp; done) | (simp [*]; done), by repeat (first | exact Drawn0.refl _ | apply Drawn0.step)⟩
def header_Put.f (k : Nat) (a0_0 a0_1 a0_2 a0_3 a0_4 a0_5 a0_6 a0_7 a0_8 a0_9 a0_10 a0_11 a0_12 a0_13 a0_14 a0_15 a0_16 a0_17 a0_18 a0_19 a0_20 a0_21 a0_22 a1 : Int) : Option (List Int × Bool) := (header_Check.f k a0_0 a0_1 a0_2 a0_3 a0_4 a0_5 a0_6 a0_7 a0_8 a0_9 a0_10 a0_11 a0_12 a0_13 a0_14 a0_15 a0_16 a0_17 a0_18 a0_19 a0_20 a0_21 a0_22).bind fun t7 => (if t7 = true then ((header_in.f a1 34 400).bind fun t8 => (if t8 = true then ((octets_Put.f [IntKind.u8.wrap a0_0, 18] a1 2).bind fun t12 => ((octets_Put.f t12 a0_1 1).bind fun t17 => ((octets_Put.f t17 0 1).bind fun t18 => ((octets_Put.f t18 a0_2 2).bind fun t25 => ((octets_Put.f t25 a0_3 8).bind fun t26 => ((octets_Put.f t26 0 4).bind fun t33 => ((ident_Put.f t33 a0_4 a0_5).bind fun t34 => ((octets_Put.f t34 a0_6 2).bind fun t41 => ((header_control.f a0_0).bind fun t42 => ((octets_Put.f t41 t42 1).bind fun t43 => ((octets_Put.f t43 a0_7 1).bind fun t44 => (some (t44, true))))))))))))) else (some ([], false)))) else (some ([], false)))
abbrev header_Put.v0 (x0 x1 x2 x3 x4 x5 x6 x7 x8 x9 x10 x11 x12 x13 x14 x15 x16 x17 x18 x19 x20 x21 x22 : Int) : Value := .agg #[.int .i64 x0, .int .i64 x1, .int .i64 x2, .int .i64 x3, .int .u64 x4, .int .i64 x5, .int .i64 x6, .int .i64 x7, .int .i64 x8, .int .u64 x9, .int .i64 x10, .int .i64 x11, .int .i64 x12, .int .i64 x13, .int .i64 x14, .int .i64 x15, .int .i64 x16, .int .u64 x17, .int .i64 x18, .int .i64 x19, .int .i64 x20, .int .i64 x21, .int .i64 x22]
abbrev header_Put.c1 (x0 x1 x2 x3 x4 x5 x6 x7 x8 x9 x10 x11 x12 x13 x14 x15 x16 x17 x18 x19 x20 x21 x22 : Int) : Array Value := #[.int .i64 x0, .int .i64 x1, .int .i64 x2, .int .i64 x3, .int .u64 x4, .int .i64 x5, .int .i64 x6, .int .i64 x7, .int .i64 x8, .int .u64 x9, .int .i64 x10, .int .i64 x11, .int .i64 x12, .int .i64 x13, .int .i64 x14, .int .i64 x15, .int .i64 x16, .int .u64 x17, .int .i64 x18, .int .i64 x19, .int .i64 x20, .int .i64 x21, .int .i64 x22]
open Go.Proofs.Ytiomlbkakiienaa.E in
set_option maxHeartbeats 60000000 in
set_option maxRecDepth 100000 in
theorem header_Put.calls (k : Nat) (ab ar au av ap aq aw ax ay az ac ad ae af ag ah ai aj ak al am an ao a1 : Int) (r1 : List Int) (r2 : Bool) (w : World) (h : header_Put.f k ab ar au av ap aq aw ax ay az ac ad ae af ag ah ai aj ak al am an ao a1 = some (r1, r2)) :
    Calls Try.prog 22 #[.agg #[.int .i64 ab, .int .i64 ar, .int .i64 au, .int .i64 av, .int .u64 ap, .int .i64 aq, .int .i64 aw, .int .i64 ax, .int .i64 ay, .int .u64 az, .int .i64 ac, .int .i64 ad, .int .i64 ae, .int .i64 af, .int .i64 ag, .int .i64 ah, .int .i64 ai, .int .u64 aj, .int .i64 ak, .int .i64 al, .int .i64 am, .int .i64 an, .int .i64 ao], .int .i64 a1] w fun e w' => ∃ v0_ : Value, e = .returned (.tuple #[v0_, .bool r2]) ∧ Kd.R (Kd.int .u8) 5 w' w.heap.size (fun _ => True) v0_ r1 ∧ Below w.heap.size w w' := by
 have H := h
 clear h
 unfold header_Put.f at H
 obtain ⟨t7, bp, H⟩ := Option.bind_eq_some_iff.mp H
 by_cases c1 : t7 = true
 rotate_left
 ·rw [if_neg c1] at H
  simp only [Option.some.injEq, Prod.mk.injEq] at H
  obtain ⟨rfl, rfl⟩ := H
  refine calls_of_wp (fn := Try.f22) (by kernel_rfl) rfl ?_
  have hS := St.enter #[(header_Put.v0 ab ar au av ap aq aw ax ay az ac ad ae af ag ah ai aj ak al am an ao), .int .i64 a1] 49 (by simp) [(0, (header_Put.v0 ab ar au av ap aq aw ax ay az ac ad ae af ag ah ai aj ak al am an ao)), (1, .int .i64 a1)] (by simp)
  have aZ := Below.refl w.heap.size w
  refine wp_seq_k (fun K1 a7 => ?_)
  refine reg_seq (I := I1_ w) (ps := [IsB (header_Put.c1 ab ar au av ap aq aw ax ay az ac ad ae af ag ah ai aj ak al am an ao) 28 w.heap.size, IsV (.slice none 0 0), VB false]) (by kernel_rfl) ?_ ?_ rfl hS aZ ?_ ?_
  ·exact bs1
  ·exact .cons (Stays.b _ _ _) (.v (.v (.nil)))
  ·refine .on rfl (fun a w hS hI hp => does_var (x_box rfl (congrArg Value.cells (hS.get 0 rfl))) (hI).size) ?_
   iterate 2 refine .on rfl (fun a w hS hI hp => does_val (x_assign rfl (rfl)) rfl) ?_
   exact .nil
  clear hS
  intro bE w3 hS a9 hp
  replace hS := (hS.nil).cons (hS.get 1 rfl)
  obtain ⟨g4, aH, bi, aa⟩ := (show IsB _ 28 _ (sl _ 2) _ from hp 0 (by decide))
  have hS := hS.cons aH
  clear hp aH
  refine a7 _ _ ?_
  refine wp_seq_k (fun K5 br => ?_)
  refine wp_seq_k (fun K6 a8 => ?_)
  refine reg_seq (I := I2_ w w3) (ps := [IsV ((header_Put.v0 ab ar au av ap aq aw ax ay az ac ad ae af ag ah ai aj ak al am an ao)), VB t7, VB (!t7), VB (!t7), VU, VU, VU, VB true]) (by kernel_rfl) ?_ ?_ rfl hS ⟨a9, (bR w3)⟩ ?_ ?_
  ·exact bs2
  ·exact .v (.v (.v (.v (.v (.v (.v (.v (.nil))))))))
  ·refine .on rfl (fun a w hS hI hp => does_loadrow rfl (hS.get 0 rfl) (((hI.2).block g4 (blk_lt aa)).trans aa) Try.underlying28 rfl (by kernel_rfl) rfl) ?_
   refine .on rfl (fun a w hS hI hp => does_call (by kernel_rfl) (ar1 (hp.V 0 rfl rfl)) ((header_Check.calls (w := _) (h := bp)).mono fun _ _ h => ⟨_, h.1, h.2, rfl⟩)) ?_
   refine .on rfl (fun a w hS hI hp => does_val (x_not rfl (hp.V 1 rfl rfl)) rfl) ?_
   refine .mv 2 rfl rfl rfl ?_
   iterate 3 refine .sn 3 10 rfl rfl ((congrArg (!·) (Bool.eq_false_iff.2 c1))) ?_
   refine .on rfl (fun a w hS hI hp => does_val (x_pickT rfl ((hp.V 3 rfl rfl).trans (bT (congrArg (!·) (Bool.eq_false_iff.2 c1)))) (rfl)) rfl) ?_
   exact .nil
  clear hS
  intro cH w9 hS bL hp
  have aB : sl _ 14 = .bool true := hp 7 (by decide)
  have hS := hS.cons aB
  clear hp aB
  refine a8 _ _ ?_
  refine wp_cond_true ((hS.get 0 rfl).trans (bT rfl)) ?_
  refine wp_seq_k (fun cC bZ => ?_)
  refine reg_seq (I := I3_ w w3 w9) (ps := [IsV (.slice none 0 0), VB false]) (by kernel_rfl) ?_ ?_ rfl hS ⟨bL.1, bL.2, (bR w9)⟩ ?_ ?_
  ·exact bs3
  ·exact .v (.v (.nil))
  ·refine .on rfl (fun a w hS hI hp => does_val (x_assign rfl (rfl)) rfl) ?_
   refine .on rfl (fun a w hS hI hp => does_val (x_assign rfl (rfl)) rfl) ?_
   exact .nil
  clear hS
  intro cl cI hS cd hp
  replace hS := hS.nil
  have aF : sl _ 4 = .slice none 0 0 := hp 0 (by decide)
  have aI : sl _ 5 = .bool false := hp 1 (by decide)
  have hS := hS.cons aF
  have hS := hS.cons aI
  clear hp aF aI
  refine bZ _ _ ?_
  refine wp_ret ?_
  (try simp only [Exit.then, Exit.inBlock, Exit.jump, Exit.noGoto])
  exact bodyPost_ret (v := .tuple #[.slice none 0 0, .bool false]) (results_list (rs := [.tmp 4, .tmp 5]) rfl (by simp) (Vals.at (hS.get 1 rfl) (Vals.at (hS.get 0 rfl) .nil))) hS.nodef ⟨.slice none 0 0, rfl, Kd.R_nil _ _ _ _ _, cd.1⟩
 rw [if_pos c1] at H
 obtain ⟨t8, bC, H⟩ := Option.bind_eq_some_iff.mp H
 by_cases c2 : t8 = true
 rotate_left
 ·rw [if_neg c2] at H
  simp only [Option.some.injEq, Prod.mk.injEq] at H
  obtain ⟨rfl, rfl⟩ := H
  refine calls_of_wp (fn := Try.f22) (by kernel_rfl) rfl ?_
  have hS := St.enter #[(header_Put.v0 ab ar au av ap aq aw ax ay az ac ad ae af ag ah ai aj ak al am an ao), .int .i64 a1] 49 (by simp) [(0, (header_Put.v0 ab ar au av ap aq aw ax ay az ac ad ae af ag ah ai aj ak al am an ao)), (1, .int .i64 a1)] (by simp)
  have aZ := Below.refl w.heap.size w
  refine wp_seq_k (fun K1 a7 => ?_)
  refine reg_seq (I := I1_ w) (ps := [IsB (header_Put.c1 ab ar au av ap aq aw ax ay az ac ad ae af ag ah ai aj ak al am an ao) 28 w.heap.size, IsV (.slice none 0 0), VB false]) (by kernel_rfl) ?_ ?_ rfl hS aZ ?_ ?_
  ·exact bs1
  ·exact .cons (Stays.b _ _ _) (.v (.v (.nil)))
  ·refine .on rfl (fun a w hS hI hp => does_var (x_box rfl (congrArg Value.cells (hS.get 0 rfl))) (hI).size) ?_
   iterate 2 refine .on rfl (fun a w hS hI hp => does_val (x_assign rfl (rfl)) rfl) ?_
   exact .nil
  clear hS
  intro bE w3 hS a9 hp
  replace hS := (hS.nil).cons (hS.get 1 rfl)
  obtain ⟨g4, aH, bi, aa⟩ := (show IsB _ 28 _ (sl _ 2) _ from hp 0 (by decide))
  have hS := hS.cons aH
  clear hp aH
  refine a7 _ _ ?_
  refine wp_seq_k (fun K5 br => ?_)
  refine wp_seq_k (fun K6 a8 => ?_)
  refine reg_seq (I := I2_ w w3) (ps := [IsV ((header_Put.v0 ab ar au av ap aq aw ax ay az ac ad ae af ag ah ai aj ak al am an ao)), VB t7, VB (!t7), VB (!t7), VI a1, VB t8, VB (!t8), VB (!t8)]) (by kernel_rfl) ?_ ?_ rfl hS ⟨a9, (bR w3)⟩ ?_ ?_
  ·exact bs2
  ·exact .v (.v (.v (.v (.v (.v (.v (.v (.nil))))))))
  ·refine .on rfl (fun a w hS hI hp => does_loadrow rfl (hS.get 0 rfl) (((hI.2).block g4 (blk_lt aa)).trans aa) Try.underlying28 rfl (by kernel_rfl) rfl) ?_
   refine .on rfl (fun a w hS hI hp => does_call (by kernel_rfl) (ar1 (hp.V 0 rfl rfl)) ((header_Check.calls (w := _) (h := bp)).mono fun _ _ h => ⟨_, h.1, h.2, rfl⟩)) ?_
   refine .on rfl (fun a w hS hI hp => does_val (x_not rfl (hp.V 1 rfl rfl)) rfl) ?_
   refine .mv 2 rfl rfl rfl ?_
   refine .oy 3 10 rfl rfl ((congrArg (!·) c1)) (fun a w hS hI hp => does_val (x_move rfl (hS.get 1 rfl)) rfl) ?_
   refine .oy 3 10 rfl rfl ((congrArg (!·) c1)) (fun a w hS hI hp => does_call (by kernel_rfl) (ar3 (hp.V 4 rfl rfl) (rfl) (rfl)) ((header_in.calls a1 34 400 t8 _  bC).mono fun _ _ h => ⟨_, h.1, h.2.below, rfl⟩)) ?_
   refine .oy 3 10 rfl rfl ((congrArg (!·) c1)) (fun a w hS hI hp => does_val (x_not rfl (hp.V 5 rfl rfl)) rfl) ?_
   refine .on rfl (fun a w hS hI hp => does_val (x_pickF rfl ((hp.V 3 rfl rfl).trans (bF (congrArg (!·) c1))) (hp.V 6 rfl rfl)) rfl) ?_
   exact .nil
  clear hS
  intro ck aA hS aM hp
  have aB : sl _ 14 = .bool (!t8) := hp 7 (by decide)
  have hS := hS.cons aB
  clear hp aB
  refine a8 _ _ ?_
  refine wp_cond_true ((hS.get 0 rfl).trans (bT (congrArg (!·) (Bool.eq_false_iff.2 c2)))) ?_
  refine wp_seq_k (fun cj bd => ?_)
  refine reg_seq (I := I3_ w w3 aA) (ps := [IsV (.slice none 0 0), VB false]) (by kernel_rfl) ?_ ?_ rfl hS ⟨aM.1, aM.2, (bR aA)⟩ ?_ ?_
  ·exact bs3
  ·exact .v (.v (.nil))
  ·refine .on rfl (fun a w hS hI hp => does_val (x_assign rfl (rfl)) rfl) ?_
   refine .on rfl (fun a w hS hI hp => does_val (x_assign rfl (rfl)) rfl) ?_
   exact .nil
  clear hS
  intro cm cJ hS ce hp
  replace hS := hS.nil
  have aF : sl _ 4 = .slice none 0 0 := hp 0 (by decide)
  have aI : sl _ 5 = .bool false := hp 1 (by decide)
  have hS := hS.cons aF
  have hS := hS.cons aI
  clear hp aF aI
  refine bd _ _ ?_
  refine wp_ret ?_
  (try simp only [Exit.then, Exit.inBlock, Exit.jump, Exit.noGoto])
  exact bodyPost_ret (v := .tuple #[.slice none 0 0, .bool false]) (results_list (rs := [.tmp 4, .tmp 5]) rfl (by simp) (Vals.at (hS.get 1 rfl) (Vals.at (hS.get 0 rfl) .nil))) hS.nodef ⟨.slice none 0 0, rfl, Kd.R_nil _ _ _ _ _, ce.1⟩
 rw [if_pos c2] at H
 obtain ⟨aJ, bM, H⟩ := Option.bind_eq_some_iff.mp H
 obtain ⟨bt, bN, H⟩ := Option.bind_eq_some_iff.mp H
 obtain ⟨aC, bO, H⟩ := Option.bind_eq_some_iff.mp H
 obtain ⟨bu, bP, H⟩ := Option.bind_eq_some_iff.mp H
 obtain ⟨aD, bQ, H⟩ := Option.bind_eq_some_iff.mp H
 obtain ⟨bv, bS, H⟩ := Option.bind_eq_some_iff.mp H
 obtain ⟨aE, bU, H⟩ := Option.bind_eq_some_iff.mp H
 obtain ⟨bw, bV, H⟩ := Option.bind_eq_some_iff.mp H
 obtain ⟨bx, bW, H⟩ := Option.bind_eq_some_iff.mp H
 obtain ⟨bz, bX, H⟩ := Option.bind_eq_some_iff.mp H
 obtain ⟨aK, bY, H⟩ := Option.bind_eq_some_iff.mp H
 simp only [Option.some.injEq, Prod.mk.injEq] at H
 obtain ⟨rfl, rfl⟩ := H
 refine calls_of_wp (fn := Try.f22) (by kernel_rfl) rfl ?_
 have hS := St.enter #[(header_Put.v0 ab ar au av ap aq aw ax ay az ac ad ae af ag ah ai aj ak al am an ao), .int .i64 a1] 49 (by simp) [(0, (header_Put.v0 ab ar au av ap aq aw ax ay az ac ad ae af ag ah ai aj ak al am an ao)), (1, .int .i64 a1)] (by simp)
 have aZ := Below.refl w.heap.size w
 refine wp_seq_k (fun K1 a7 => ?_)
 refine reg_seq (I := I1_ w) (ps := [IsB (header_Put.c1 ab ar au av ap aq aw ax ay az ac ad ae af ag ah ai aj ak al am an ao) 28 w.heap.size, IsV (.slice none 0 0), VB false]) (by kernel_rfl) ?_ ?_ rfl hS aZ ?_ ?_
 ·exact bs1
 ·exact .cons (Stays.b _ _ _) (.v (.v (.nil)))
 ·refine .on rfl (fun a w hS hI hp => does_var (x_box rfl (congrArg Value.cells (hS.get 0 rfl))) (hI).size) ?_
  iterate 2 refine .on rfl (fun a w hS hI hp => does_val (x_assign rfl (rfl)) rfl) ?_
  exact .nil
 clear hS
 intro bE w3 hS a9 hp
 replace hS := (hS.nil).cons (hS.get 1 rfl)
 obtain ⟨g4, aH, bi, aa⟩ := (show IsB _ 28 _ (sl _ 2) _ from hp 0 (by decide))
 have hS := hS.cons aH
 clear hp aH
 refine a7 _ _ ?_
 refine wp_seq_k (fun K5 br => ?_)
 refine wp_seq_k (fun K6 a8 => ?_)
 refine reg_seq (I := I2_ w w3) (ps := [IsV ((header_Put.v0 ab ar au av ap aq aw ax ay az ac ad ae af ag ah ai aj ak al am an ao)), VB t7, VB (!t7), VB (!t7), VI a1, VB t8, VB (!t8), VB (!t8)]) (by kernel_rfl) ?_ ?_ rfl hS ⟨a9, (bR w3)⟩ ?_ ?_
 ·exact bs2
 ·exact .v (.v (.v (.v (.v (.v (.v (.v (.nil))))))))
 ·refine .on rfl (fun a w hS hI hp => does_loadrow rfl (hS.get 0 rfl) (((hI.2).block g4 (blk_lt aa)).trans aa) Try.underlying28 rfl (by kernel_rfl) rfl) ?_
  refine .on rfl (fun a w hS hI hp => does_call (by kernel_rfl) (ar1 (hp.V 0 rfl rfl)) ((header_Check.calls (w := _) (h := bp)).mono fun _ _ h => ⟨_, h.1, h.2, rfl⟩)) ?_
  refine .on rfl (fun a w hS hI hp => does_val (x_not rfl (hp.V 1 rfl rfl)) rfl) ?_
  refine .mv 2 rfl rfl rfl ?_
  refine .oy 3 10 rfl rfl ((congrArg (!·) c1)) (fun a w hS hI hp => does_val (x_move rfl (hS.get 1 rfl)) rfl) ?_
  refine .oy 3 10 rfl rfl ((congrArg (!·) c1)) (fun a w hS hI hp => does_call (by kernel_rfl) (ar3 (hp.V 4 rfl rfl) (rfl) (rfl)) ((header_in.calls a1 34 400 t8 _  bC).mono fun _ _ h => ⟨_, h.1, h.2.below, rfl⟩)) ?_
  refine .oy 3 10 rfl rfl ((congrArg (!·) c1)) (fun a w hS hI hp => does_val (x_not rfl (hp.V 5 rfl rfl)) rfl) ?_
  refine .on rfl (fun a w hS hI hp => does_val (x_pickF rfl ((hp.V 3 rfl rfl).trans (bF (congrArg (!·) c1))) (hp.V 6 rfl rfl)) rfl) ?_
  exact .nil
 clear hS
 intro ck aA hS aM hp
 have aB : sl _ 14 = .bool (!t8) := hp 7 (by decide)
 have hS := hS.cons aB
 clear hp aB
 refine a8 _ _ ?_
 refine wp_cond_false ((hS.get 0 rfl).trans (bF (congrArg (!·) c2))) ?_
 refine wp_skip ?_
 refine br _ _ ?_
 refine wp_seq_k (fun cj bd => ?_)
 refine reg_seq (I := I3_ w w3 aA) (ps := [VP g4 0, VI ab, IsV (.int .u8 (IntKind.u8.wrap ab)), IsR (Kd.int .u8) 5 aA.heap.size [IntKind.u8.wrap ab, 18], VI a1, IsR (Kd.int .u8) 5 aA.heap.size aJ, IsR (Kd.int .u8) 5 aA.heap.size aJ]) (by kernel_rfl) ?_ ?_ rfl hS ⟨aM.1, aM.2, (bR aA)⟩ ?_ ?_
 ·exact bs3
 ·exact .v (.v (.v (.cons (Stays.r _ _ _ _) (.v (.cons (Stays.r _ _ _ _) (.cons (Stays.r _ _ _ _) (.nil)))))))
 ·refine .on rfl (fun a w hS hI hp => does_val (x_fieldE (b := 0) rfl (hS.get 1 rfl) Try.underlying28 rfl rfl (by kernel_rfl)) rfl) ?_
  refine .on rfl (fun a w hS hI hp => does_val (x_load1 (d := .int .i64) rfl (hp.V 0 rfl rfl) (by kernel_rfl) rfl ((blk_cell (((hI.2.1).block g4 (blk_lt aa)).trans aa) 0).trans rfl)) rfl) ?_
  refine .on rfl (fun a w hS hI hp => does_val (x_convI rfl (by kernel_rfl) (by kernel_rfl) (hp.V 1 rfl rfl)) rfl) ?_
  refine .on rfl (fun a w hS hI hp => does_lit aA.heap.size 36 5 2 _ [(0, .int .u8 (IntKind.u8.wrap ab)), (1, .int .u8 18)] [IntKind.u8.wrap ab, 18] rfl (by kernel_rfl) (by rw [Array.toList_map]; exact (show [(0, a.eval (.tmp 17)), (1, a.eval (.const (.int .u8 18)))] = _ from (li_cons (hp.V 2 rfl rfl) (li_cons (rfl) rfl)))) (by kernel_rfl) rfl (hI.2.2).size (Nat.le_of_ble_eq_true rfl)) ?_
  refine .ms 2 rfl rfl rfl ?_
  refine .on rfl (fun a w hS hI hp => (IsC.of_r (hp.V 3 rfl rfl)).elim fun A_ h_ => h_.elim fun c_ h_ => h_.elim fun hv_ h_ => h_.elim fun hl_ hc_ => does_call (by kernel_rfl) (ar3 (hv_) (hp.V 4 rfl rfl) (rfl)) ((octets_Put.calls _ _ [IntKind.u8.wrap ab, 18] a1 2 aJ _ hc_ hl_ bM).mono fun _ _ h => h.elim fun v0 h => ⟨v0, h.1, h.2.2, Kd.R_lower h.2.1 hI.2.2.size⟩)) ?_
  refine .on rfl (fun a w hS hI hp => does_val (x_assign rfl rfl) (hp.V 5 rfl rfl)) ?_
  exact .nil
 clear hS
 intro cn aG hS bh hp
 replace hS := (hS.nil).cons (hS.get 1 rfl)
 obtain ⟨bB, bD, bs, b8, b4⟩ := Kd.R_reads (show Kd.R (Kd.int .u8) 5 aG aA.heap.size (fun _ => True) (sl _ 6) aJ from hp 6 (by decide))
 have cy : Kd.R (Kd.int .u8) 5 aG aA.heap.size (fun _ => True) (.slice bB aJ.length bD) aJ := bs ▸ (hp 6 (by decide))
 have hS := hS.cons bs
 clear hp bs
 refine bd _ _ ?_
 refine wp_seq_k (fun cD b0 => ?_)
 refine reg_seq_tail 5 (I := I4_ w w3 aA aG) (ps := [IsV (.slice bB aJ.length bD), VP g4 1, VI ar, IsR (Kd.int .u8) 5 aG.heap.size bt, IsR (Kd.int .u8) 5 aG.heap.size aC]) (by kernel_rfl) ?_ ?_ rfl hS ⟨bh.1, bh.2.1, bh.2.2, (bR aG)⟩ ?_ ?_
 ·exact bs4
 ·exact .v (.v (.v (.cons (Stays.r _ _ _ _) (.cons (Stays.r _ _ _ _) (.nil)))))
 ·refine .ms 0 rfl rfl rfl ?_
  refine .on rfl (fun a w hS hI hp => does_val (x_fieldE (b := 0) rfl (hS.get 1 rfl) Try.underlying28 rfl rfl (by kernel_rfl)) rfl) ?_
  refine .on rfl (fun a w hS hI hp => does_val (x_load1 (d := .int .i64) rfl (hp.V 1 rfl rfl) (by kernel_rfl) rfl ((blk_cell (((hI.2.1).block g4 (blk_lt aa)).trans aa) 1).trans rfl)) rfl) ?_
  refine .on rfl (fun a w hS hI hp => does_call (by kernel_rfl) (ar3 (hp.V 0 rfl rfl) (hp.V 2 rfl rfl) (rfl)) ((octets_Put.calls _ _ aJ ar 1 bt _ (Kd.C_below b4 hI.2.2.2) b8 bN).mono fun _ _ h => h.elim fun v0 h => ⟨v0, h.1, h.2.2, Kd.R_lower h.2.1 hI.2.2.2.size⟩)) ?_
  refine .on rfl (fun a w hS hI hp => (IsC.of_r (hp.V 3 rfl rfl)).elim fun A_ h_ => h_.elim fun c_ h_ => h_.elim fun hv_ h_ => h_.elim fun hl_ hc_ => does_call (by kernel_rfl) (ar3 (hv_) (rfl) (rfl)) ((octets_Put.calls _ _ bt 0 1 aC _ hc_ hl_ bO).mono fun _ _ h => h.elim fun v0 h => ⟨v0, h.1, h.2.2, Kd.R_lower h.2.1 hI.2.2.2.size⟩)) ?_
  exact .nil
 clear hS
 intro co bj hS aS hp
 obtain ⟨aT, aW, be, b9, b5⟩ := Kd.R_reads (show Kd.R (Kd.int .u8) 5 bj aG.heap.size (fun _ => True) (sl _ 25) aC from hp 4 (by decide))
 have cz : Kd.R (Kd.int .u8) 5 bj aG.heap.size (fun _ => True) (.slice aT aC.length aW) aC := be ▸ (hp 4 (by decide))
 have hS := hS.cons be
 clear hp be
 show wpList _ _ _ [_] _ _
 refine list_step rfl (R := fun v w' => Below _ _ w' ∧ (IsV (.slice aT aC.length aW)) v w') (does_val (x_assign rfl (hS.get 0 rfl)) rfl) ?_
 rintro cg aP ⟨hb, he⟩
 have bm := below_step aS.1 hb
 have ba := below_step aS.2.1 hb
 have bG := below_step aS.2.2.1 hb
 have a0 := below_step aS.2.2.2 hb
 have a2 := below_step (bR bj) hb
 obtain rfl : cg = .slice aT aC.length aW := he
 replace hS := ((hS.nil).cons (hS.get 2 rfl)).cons (hS.get 0 rfl)
 refine hS.next (v := .slice aT aC.length aW) (d := 6) rfl (by decide) (by rfl) ?_
 clear hS
 intro cp hS
 refine wpList_nil ?_
 refine b0 _ _ ?_
 refine wp_seq_k (fun cE b1 => ?_)
 refine reg_any_tail 7 [0, 0, 2, 7, 0, 16, 63, 127] (I := I5_ w w3 aG bj aP) (ps := [IsV (.slice aT aC.length aW), VP g4 2, VI au, IsR (Kd.int .u8) 5 aP.heap.size bu, VP g4 3, VI av, IsR (Kd.int .u8) 5 aP.heap.size aD]) (by kernel_rfl) (by kernel_rfl) (by kernel_rfl) (by decide) ?_ ?_ rfl hS ⟨bm, ba, a0, a2, (bR aP)⟩ ?_ ?_
 ·exact bs5
 ·exact .v (.v (.v (.cons (Stays.r _ _ _ _) (.v (.v (.cons (Stays.r _ _ _ _) (.nil)))))))
 ·refine .ms 0 rfl rfl rfl ?_
  refine .on rfl (fun a w hS hI hp => does_val (x_fieldE (b := 0) rfl (hS.get 2 rfl) Try.underlying28 rfl rfl (by kernel_rfl)) rfl) ?_
  refine .on rfl (fun a w hS hI hp => does_val (x_load1 (d := .int .i64) rfl (hp.V 1 rfl rfl) (by kernel_rfl) rfl ((blk_cell (((hI.2.1).block g4 (blk_lt aa)).trans aa) 2).trans rfl)) rfl) ?_
  refine .on rfl (fun a w hS hI hp => does_call (by kernel_rfl) (ar3 (hp.V 0 rfl rfl) (hp.V 2 rfl rfl) (rfl)) ((octets_Put.calls _ _ aC au 2 bu _ (Kd.C_below b5 hI.2.2.2.1) b9 bP).mono fun _ _ h => h.elim fun v0 h => ⟨v0, h.1, h.2.2, Kd.R_lower h.2.1 hI.2.2.2.2.size⟩)) ?_
  refine .on rfl (fun a w hS hI hp => does_val (x_fieldE (b := 0) rfl (hS.get 2 rfl) Try.underlying28 rfl rfl (by kernel_rfl)) rfl) ?_
  refine .on rfl (fun a w hS hI hp => does_val (x_load1 (d := .int .i64) rfl (hp.V 4 rfl rfl) (by kernel_rfl) rfl ((blk_cell (((hI.2.1).block g4 (blk_lt aa)).trans aa) 3).trans rfl)) rfl) ?_
  refine .on rfl (fun a w hS hI hp => (IsC.of_r (hp.V 3 rfl rfl)).elim fun A_ h_ => h_.elim fun c_ h_ => h_.elim fun hv_ h_ => h_.elim fun hl_ hc_ => does_call (by kernel_rfl) (ar3 (hv_) (hp.V 5 rfl rfl) (rfl)) ((octets_Put.calls _ _ bu av 8 aD _ hc_ hl_ bQ).mono fun _ _ h => h.elim fun v0 h => ⟨v0, h.1, h.2.2, Kd.R_lower h.2.1 hI.2.2.2.2.size⟩)) ?_
  exact .nil
 clear hS
 intro cq bk hS aN hp
 replace hS := ((hS.nil).cons (hS.get 2 rfl)).cons (hS.get 0 rfl)
 obtain ⟨aU, aX, bf, ca, b6⟩ := Kd.R_reads (show Kd.R (Kd.int .u8) 5 bk aP.heap.size (fun _ => True) (sl _ 32) aD from hp 6 (by decide))
 have cA : Kd.R (Kd.int .u8) 5 bk aP.heap.size (fun _ => True) (.slice aU aD.length aX) aD := bf ▸ (hp 6 (by decide))
 have hS := hS.cons bf
 clear hp bf
 show wpList _ _ _ [_] _ _
 refine list_step rfl (R := fun v w' => Below _ _ w' ∧ (IsV (.slice aU aD.length aX)) v w') (does_val (x_assign rfl (hS.get 0 rfl)) rfl) ?_
 rintro ch aQ ⟨hb, he⟩
 have bn := below_step aN.1 hb
 have bb := below_step aN.2.1 hb
 have bH := below_step aN.2.2.1 hb
 have bI := below_step aN.2.2.2.1 hb
 have a3 := below_step aN.2.2.2.2 hb
 have a4 := below_step (bR bk) hb
 obtain rfl : ch = .slice aU aD.length aX := he
 replace hS := ((hS.nil).cons (hS.get 2 rfl)).cons (hS.get 0 rfl)
 refine hS.next (v := .slice aU aD.length aX) (d := 6) rfl (by decide) (by rfl) ?_
 clear hS
 intro cr hS
 refine wpList_nil ?_
 refine b1 _ _ ?_
 refine wp_seq_k (fun cF b2 => ?_)
 refine reg_any_tail 5 [0, 1, 0, 4, 15, 31] (I := I5_ w w3 aP bk aQ) (ps := [IsV (.slice aU aD.length aX), IsR (Kd.int .u8) 5 aQ.heap.size bv, VP g4 4, IsV (.agg #[.int .u64 ap, .int .i64 aq]), IsR (Kd.int .u8) 5 aQ.heap.size aE]) (by kernel_rfl) (by kernel_rfl) (by kernel_rfl) (by decide) ?_ ?_ rfl hS ⟨bn, bb, a3, a4, (bR aQ)⟩ ?_ ?_
 ·exact bs5
 ·exact .v (.cons (Stays.r _ _ _ _) (.v (.v (.cons (Stays.r _ _ _ _) (.nil)))))
 ·refine .ms 0 rfl rfl rfl ?_
  refine .on rfl (fun a w hS hI hp => does_call (by kernel_rfl) (ar3 (hp.V 0 rfl rfl) (rfl) (rfl)) ((octets_Put.calls _ _ aD 0 4 bv _ (Kd.C_below b6 hI.2.2.2.1) ca bS).mono fun _ _ h => h.elim fun v0 h => ⟨v0, h.1, h.2.2, Kd.R_lower h.2.1 hI.2.2.2.2.size⟩)) ?_
  refine .on rfl (fun a w hS hI hp => does_val (x_fieldE (b := 0) rfl (hS.get 2 rfl) Try.underlying28 rfl rfl (by kernel_rfl)) rfl) ?_
  refine .on rfl (fun a w hS hI hp => does_loadmid (cs := [.int .u64 ap, .int .i64 aq]) rfl (hp.V 2 rfl rfl) (((hI.2.1).block g4 (blk_lt aa)).trans aa) (by kernel_rfl) Try.underlying24 rfl (by kernel_rfl) rfl) ?_
  refine .on rfl (fun a w hS hI hp => (IsC.of_r (hp.V 1 rfl rfl)).elim fun A_ h_ => h_.elim fun c_ h_ => h_.elim fun hv_ h_ => h_.elim fun hl_ hc_ => does_call (by kernel_rfl) (ar2 (hv_) (hp.V 3 rfl rfl)) ((ident_Put.calls _ _ bv ap aq aE _ hc_ hl_ bU).mono fun _ _ h => h.elim fun v0 h => ⟨v0, h.1, h.2.2, Kd.R_lower h.2.1 hI.2.2.2.2.size⟩)) ?_
  exact .nil
 clear hS
 intro ct bl hS aO hp
 replace hS := ((hS.nil).cons (hS.get 2 rfl)).cons (hS.get 0 rfl)
 obtain ⟨aV, aY, bg, cb, b7⟩ := Kd.R_reads (show Kd.R (Kd.int .u8) 5 bl aQ.heap.size (fun _ => True) (sl _ 37) aE from hp 4 (by decide))
 have cB : Kd.R (Kd.int .u8) 5 bl aQ.heap.size (fun _ => True) (.slice aV aE.length aY) aE := bg ▸ (hp 4 (by decide))
 have hS := hS.cons bg
 clear hp bg
 show wpList _ _ _ [_] _ _
 refine list_step rfl (R := fun v w' => Below _ _ w' ∧ (IsV (.slice aV aE.length aY)) v w') (does_val (x_assign rfl (hS.get 0 rfl)) rfl) ?_
 rintro ci aL ⟨hb, he⟩
 have aR := below_step aO.1 hb
 have bc := below_step aO.2.1 hb
 have bJ := below_step aO.2.2.1 hb
 have bK := below_step aO.2.2.2.1 hb
 have a5 := below_step aO.2.2.2.2 hb
 have a6 := below_step (bR bl) hb
 obtain rfl : ci = .slice aV aE.length aY := he
 replace hS := ((hS.nil).cons (hS.get 2 rfl)).cons (hS.get 0 rfl)
 refine hS.next (v := .slice aV aE.length aY) (d := 6) rfl (by decide) (by rfl) ?_
 clear hS
 intro cu hS
 refine wpList_nil ?_
 refine b2 _ _ ?_
 refine wp_seq_k (fun cG b3 => ?_)
 refine reg_any (I := I5_ w w3 aQ bl aL) (ps := [IsV (.slice aV aE.length aY), VP g4 6, VI aw, IsR (Kd.int .u8) 5 aL.heap.size bw, VP g4 0, VI ab, VI bx, IsR (Kd.int .u8) 5 aL.heap.size bz, VP g4 7, VI ax, IsR (Kd.int .u8) 5 aL.heap.size aK, IsR (Kd.int .u8) 5 aL.heap.size aK, VB true]) (by kernel_rfl) (by kernel_rfl) ?_ ?_ rfl hS ⟨aR, bc, a5, a6, (bR aL)⟩ ?_ ?_
 ·exact bs5
 ·exact .v (.v (.v (.cons (Stays.r _ _ _ _) (.v (.v (.v (.cons (Stays.r _ _ _ _) (.v (.v (.cons (Stays.r _ _ _ _) (.cons (Stays.r _ _ _ _) (.v (.nil)))))))))))))
 ·refine .ms 0 rfl rfl rfl ?_
  refine .on rfl (fun a w hS hI hp => does_val (x_fieldE (b := 0) rfl (hS.get 2 rfl) Try.underlying28 rfl rfl (by kernel_rfl)) rfl) ?_
  refine .on rfl (fun a w hS hI hp => does_val (x_load1 (d := .int .i64) rfl (hp.V 1 rfl rfl) (by kernel_rfl) rfl ((blk_cell (((hI.2.1).block g4 (blk_lt aa)).trans aa) 6).trans rfl)) rfl) ?_
  refine .on rfl (fun a w hS hI hp => does_call (by kernel_rfl) (ar3 (hp.V 0 rfl rfl) (hp.V 2 rfl rfl) (rfl)) ((octets_Put.calls _ _ aE aw 2 bw _ (Kd.C_below b7 hI.2.2.2.1) cb bV).mono fun _ _ h => h.elim fun v0 h => ⟨v0, h.1, h.2.2, Kd.R_lower h.2.1 hI.2.2.2.2.size⟩)) ?_
  refine .on rfl (fun a w hS hI hp => does_val (x_fieldE (b := 0) rfl (hS.get 2 rfl) Try.underlying28 rfl rfl (by kernel_rfl)) rfl) ?_
  refine .on rfl (fun a w hS hI hp => does_val (x_load1 (d := .int .i64) rfl (hp.V 4 rfl rfl) (by kernel_rfl) rfl ((blk_cell (((hI.2.1).block g4 (blk_lt aa)).trans aa) 0).trans rfl)) rfl) ?_
  refine .on rfl (fun a w hS hI hp => does_call (by kernel_rfl) (ar1 (hp.V 5 rfl rfl)) ((header_control.calls ab bx _  bW).mono fun _ _ h => ⟨_, h.1, h.2.below, rfl⟩)) ?_
  refine .on rfl (fun a w hS hI hp => (IsC.of_r (hp.V 3 rfl rfl)).elim fun A_ h_ => h_.elim fun c_ h_ => h_.elim fun hv_ h_ => h_.elim fun hl_ hc_ => does_call (by kernel_rfl) (ar3 (hv_) (hp.V 6 rfl rfl) (rfl)) ((octets_Put.calls _ _ bw bx 1 bz _ hc_ hl_ bX).mono fun _ _ h => h.elim fun v0 h => ⟨v0, h.1, h.2.2, Kd.R_lower h.2.1 hI.2.2.2.2.size⟩)) ?_
  refine .on rfl (fun a w hS hI hp => does_val (x_fieldE (b := 0) rfl (hS.get 2 rfl) Try.underlying28 rfl rfl (by kernel_rfl)) rfl) ?_
  refine .on rfl (fun a w hS hI hp => does_val (x_load1 (d := .int .i64) rfl (hp.V 8 rfl rfl) (by kernel_rfl) rfl ((blk_cell (((hI.2.1).block g4 (blk_lt aa)).trans aa) 7).trans rfl)) rfl) ?_
  refine .on rfl (fun a w hS hI hp => (IsC.of_r (hp.V 7 rfl rfl)).elim fun A_ h_ => h_.elim fun c_ h_ => h_.elim fun hv_ h_ => h_.elim fun hl_ hc_ => does_call (by kernel_rfl) (ar3 (hv_) (hp.V 9 rfl rfl) (rfl)) ((octets_Put.calls _ _ bz ax 1 aK _ hc_ hl_ bY).mono fun _ _ h => h.elim fun v0 h => ⟨v0, h.1, h.2.2, Kd.R_lower h.2.1 hI.2.2.2.2.size⟩)) ?_
  refine .on rfl (fun a w hS hI hp => does_val (x_assign rfl rfl) (hp.V 10 rfl rfl)) ?_
  refine .on rfl (fun a w hS hI hp => does_val (x_assign rfl (rfl)) rfl) ?_
  exact .nil
 clear hS
 intro cv bA hS cf hp
 replace hS := hS.nil
 obtain ⟨bo, bq, aF, cx, cw⟩ := Kd.R_reads (show Kd.R (Kd.int .u8) 5 bA aL.heap.size (fun _ => True) (sl _ 4) aK from hp 11 (by decide))
 have cc : Kd.R (Kd.int .u8) 5 bA aL.heap.size (fun _ => True) (.slice bo aK.length bq) aK := aF ▸ (hp 11 (by decide))
 have aI : sl _ 5 = .bool true := hp 12 (by decide)
 have hS := hS.cons aF
 have hS := hS.cons aI
 clear hp aF aI
 refine b3 _ _ ?_
 refine wp_ret ?_
 (try simp only [Exit.then, Exit.inBlock, Exit.jump, Exit.noGoto])
 exact bodyPost_ret (v := .tuple #[.slice bo aK.length bq, .bool true]) (results_list (rs := [.tmp 4, .tmp 5]) rfl (by simp) (Vals.at (hS.get 1 rfl) (Vals.at (hS.get 0 rfl) .nil))) hS.nodef ⟨.slice bo aK.length bq, rfl, Kd.R_lower (Kd.R_below cc (bR bA)) (aR).size, cf.1⟩
def frame_Put.j1 (k : Nat)  : Option (ByteArray × Bool) := some ((⟨#[]⟩ : ByteArray), false)
def frame_Put.f (k : Nat) (a0_0 a0_1 a0_2 a0_3 a0_4 a0_5 a0_6 a0_7 a0_8 a0_9 a0_10 a0_11 a0_12 a0_13 a0_14 a0_15 a0_16 a0_17 a0_18 a0_19 a0_20 a0_21 a0_22 : Int) (l1 : List (S43)) : Option (ByteArray × Bool) := (body_Put.f k [] a0_0 a0_1 a0_2 a0_3 a0_4 a0_5 a0_6 a0_7 a0_8 a0_9 a0_10 a0_11 a0_12 a0_13 a0_14 a0_15 a0_16 a0_17 a0_18 a0_19 a0_20 a0_21 a0_22).bind fun t9 => (if t9.2 = true then ((tlv_Put.f k t9.1 l1).bind fun t19 => (if t19.2 = true then ((header_Put.f k a0_0 a0_1 a0_2 a0_3 a0_4 a0_5 a0_6 a0_7 a0_8 a0_9 a0_10 a0_11 a0_12 a0_13 a0_14 a0_15 a0_16 a0_17 a0_18 a0_19 a0_20 a0_21 a0_22 (wrap64 (34 + (t19.1.length : Int)))).bind fun t32 => (if t32.2 = true then (if (strOfNums t32.1).size + (strOfNums t19.1).size ≤ 9223372036854775807 then (some ((strOfNums t32.1) ++ (strOfNums t19.1), true)) else (none)) else (frame_Put.j1 k ))) else (frame_Put.j1 k ))) else (frame_Put.j1 k ))
abbrev frame_Put.v0 (x0 x1 x2 x3 x4 x5 x6 x7 x8 x9 x10 x11 x12 x13 x14 x15 x16 x17 x18 x19 x20 x21 x22 : Int) : Value := .agg #[.int .i64 x0, .int .i64 x1, .int .i64 x2, .int .i64 x3, .int .u64 x4, .int .i64 x5, .int .i64 x6, .int .i64 x7, .int .i64 x8, .int .u64 x9, .int .i64 x10, .int .i64 x11, .int .i64 x12, .int .i64 x13, .int .i64 x14, .int .i64 x15, .int .i64 x16, .int .u64 x17, .int .i64 x18, .int .i64 x19, .int .i64 x20, .int .i64 x21, .int .i64 x22]
abbrev frame_Put.c1 (x0 x1 x2 x3 x4 x5 x6 x7 x8 x9 x10 x11 x12 x13 x14 x15 x16 x17 x18 x19 x20 x21 x22 : Int) : Array Value := #[.int .i64 x0, .int .i64 x1, .int .i64 x2, .int .i64 x3, .int .u64 x4, .int .i64 x5, .int .i64 x6, .int .i64 x7, .int .i64 x8, .int .u64 x9, .int .i64 x10, .int .i64 x11, .int .i64 x12, .int .i64 x13, .int .i64 x14, .int .i64 x15, .int .i64 x16, .int .u64 x17, .int .i64 x18, .int .i64 x19, .int .i64 x20, .int .i64 x21, .int .i64 x22]
open Go.Proofs.Ytiomlbkakiienaa.E in
set_option maxHeartbeats 60000000 in
set_option maxRecDepth 100000 in
theorem frame_Put.calls (k : Nat) (aC aD aE aF aG aH aI aJ aK aL ah ai aj ak al am an ao ap aq ar au av : Int) (A1 : Option Addr) (bB : Nat) (l1 : List (S43)) (r1 : ByteArray) (r2 : Bool) (w : World) (HR1 : Kd.C k43 w A1 l1.length l1) (HC1 : l1.length ≤ bB) (h : frame_Put.f k aC aD aE aF aG aH aI aJ aK aL ah ai aj ak al am an ao ap aq ar au av l1 = some (r1, r2)) :
    Calls Try.prog 11 #[.agg #[.int .i64 aC, .int .i64 aD, .int .i64 aE, .int .i64 aF, .int .u64 aG, .int .i64 aH, .int .i64 aI, .int .i64 aJ, .int .i64 aK, .int .u64 aL, .int .i64 ah, .int .i64 ai, .int .i64 aj, .int .i64 ak, .int .i64 al, .int .i64 am, .int .i64 an, .int .u64 ao, .int .i64 ap, .int .i64 aq, .int .i64 ar, .int .i64 au, .int .i64 av], .slice A1 l1.length bB] w fun e w' => e = .returned (.tuple #[.string r1, .bool r2]) ∧ Below w.heap.size w w' := by
 have H := h
 clear h
 unfold frame_Put.f at H
 refine calls_of_wp (fn := Try.f11) (by kernel_rfl) rfl ?_
 have hS := St.enter #[(frame_Put.v0 aC aD aE aF aG aH aI aJ aK aL ah ai aj ak al am an ao ap aq ar au av), .slice A1 l1.length bB] 39 (by simp) [(0, (frame_Put.v0 aC aD aE aF aG aH aI aJ aK aL ah ai aj ak al am an ao ap aq ar au av)), (1, .slice A1 l1.length bB)] (by simp)
 have b7 := Below.refl w.heap.size w
 refine wp_seq_k (fun K1 cc => ?_)
 refine reg_seq (I := I1_ w) (ps := [IsB (frame_Put.c1 aC aD aE aF aG aH aI aJ aK aL ah ai aj ak al am an ao ap aq ar au av) 28 w.heap.size, IsV (.string (⟨#[]⟩ : ByteArray)), VB false]) (by kernel_rfl) ?_ ?_ rfl hS b7 ?_ ?_
 ·exact bs1
 ·exact .cons (Stays.b _ _ _) (.v (.v (.nil)))
 ·refine .on rfl (fun a w hS hI hp => does_var (x_box rfl (congrArg Value.cells (hS.get 0 rfl))) (hI).size) ?_
  iterate 2 refine .on rfl (fun a w hS hI hp => does_val (x_assign rfl (rfl)) rfl) ?_
  exact .nil
 clear hS
 intro cm w3 hS bC hp
 replace hS := (hS.nil).cons (hS.get 1 rfl)
 obtain ⟨g4, b0, cg, aw⟩ := (show IsB _ 28 _ (sl _ 2) _ from hp 0 (by decide))
 have hS := hS.cons b0
 clear hp b0
 refine cc _ _ ?_
 refine wp_scope_fwd 0 (fun bZ bD => frame_Put.j1 k  = some (r1, r2) ∧ St 39 [] bZ ∧ Below w.heap.size w bD) rfl ?_ (fun J1 => ?_)
 ·clear H hS
  rintro bZ bD ⟨H, hS, bE⟩
  unfold frame_Put.j1 at H
  (try dsimp only at H)
  simp only [Option.some.injEq, Prod.mk.injEq] at H
  obtain ⟨rfl, rfl⟩ := H
  refine wp_seq_k (fun cf bO => ?_)
  refine reg_seq (I := I2_ w bD) (ps := [IsV (.string (⟨#[]⟩ : ByteArray)), VB false]) (by kernel_rfl) ?_ ?_ rfl hS ⟨bE, (bR bD)⟩ ?_ ?_
  ·exact bs2
  ·exact .v (.v (.nil))
  ·refine .on rfl (fun a w hS hI hp => does_val (x_assign rfl (rfl)) rfl) ?_
   refine .on rfl (fun a w hS hI hp => does_val (x_assign rfl (rfl)) rfl) ?_
   exact .nil
  clear hS
  intro cb ch hS bU hp
  have bo : sl _ 4 = .string (⟨#[]⟩ : ByteArray) := hp 0 (by decide)
  have bp : sl _ 5 = .bool false := hp 1 (by decide)
  have hS := hS.cons bo
  have hS := hS.cons bp
  clear hp bo bp
  refine bO _ _ ?_
  refine wp_ret ?_
  (try simp only [Exit.then, Exit.inBlock, Exit.jump, Exit.noGoto])
  exact bodyPost_ret (v := .tuple #[.string (⟨#[]⟩ : ByteArray), .bool false]) (results_list (rs := [.tmp 4, .tmp 5]) rfl (by simp) (Vals.at (hS.get 1 rfl) (Vals.at (hS.get 0 rfl) .nil))) hS.nodef ⟨rfl, bU.1⟩
 obtain ⟨t9, bz, H⟩ := Option.bind_eq_some_iff.mp H
 obtain ⟨ad, ac⟩ := t9
 (try dsimp only at H)
 by_cases c1 : ac = true
 rotate_left
 ·rw [if_neg c1] at H
  refine wp_seq_k (fun K5 bf => ?_)
  refine reg_seq (I := I2_ w w3) (ps := [IsV (.slice none 0 0)]) (by kernel_rfl) ?_ ?_ rfl hS ⟨bC, (bR w3)⟩ ?_ ?_
  ·exact bs2
  ·exact .v (.nil)
  ·refine .on rfl (fun a w hS hI hp => does_val (x_assign rfl (rfl)) rfl) ?_
   exact .nil
  clear hS
  intro bN w7 hS a2 hp
  clear hp
  refine bf _ _ ?_
  refine wp_seq_k (fun K8 bg => ?_)
  refine reg_seq (I := I3_ w w3 w7) (ps := [IsV ((frame_Put.v0 aC aD aE aF aG aH aI aJ aK aL ah ai aj ak al am an ao ap aq ar au av)), IsT (fun v0_ => #[v0_, .bool ac]) (IsC (Kd.int .u8) ad), IsT (fun v0_ => #[v0_, .bool ac]) (IsC (Kd.int .u8) ad), IsC (Kd.int .u8) ad, VB ac, IsC (Kd.int .u8) ad, VB ac]) (by kernel_rfl) ?_ ?_ rfl hS ⟨a2.1, a2.2, (bR w7)⟩ ?_ ?_
  ·exact bs3
  ·exact .v (.cons (Stays.t _ (Stays.c _ _)) (.cons (Stays.t _ (Stays.c _ _)) (.cons (Stays.c _ _) (.v (.cons (Stays.c _ _) (.v (.nil)))))))
  ·refine .on rfl (fun a w hS hI hp => does_loadrow rfl (hS.get 0 rfl) (((hI.2.1).block g4 (blk_lt aw)).trans aw) Try.underlying28 rfl (by kernel_rfl) rfl) ?_
   refine .on rfl (fun a w hS hI hp => does_call (by kernel_rfl) (ar2 (rfl) (hp.V 0 rfl rfl)) ((body_Put.calls k _ _ [] aC aD aE aF aG aH aI aJ aK aL ah ai aj ak al am an ao ap aq ar au av ad ac _ (Kd.C_nil _ _) (Nat.le_refl _) bz).mono fun _ _ h => h.elim fun v0 h => ⟨_, h.1, h.2.2, v0, rfl, h.2.1⟩)) ?_
   refine .on rfl (fun a w hS hI hp => does_val (x_move rfl rfl) (hp.V 1 rfl rfl)) ?_
   refine .on rfl (fun a w hS hI hp => (hp.V 2 rfl rfl).elim fun v0 h0 => does_val (x_extract rfl h0.1 rfl) h0.2) ?_
   refine .on rfl (fun a w hS hI hp => (hp.V 2 rfl rfl).elim fun v0 h0 => does_val (x_extract rfl h0.1 rfl) rfl) ?_
   refine .on rfl (fun a w hS hI hp => does_val (x_assign rfl rfl) (hp.V 3 rfl rfl)) ?_
   refine .asg 4 rfl rfl rfl ?_
   exact .nil
  clear hS
  intro bs ax hS aQ hp
  obtain ⟨bl, bm, a1, a9, a8⟩ := (show IsC (Kd.int .u8) ad (sl _ 7) ax from hp 5 (by decide))
  have aB : sl _ 8 = .bool ac := hp 6 (by decide)
  have hS := hS.cons a1
  have hS := hS.cons aB
  clear hp a1 aB
  refine bg _ _ ?_
  refine wp_seq_k (fun bH a7 => ?_)
  refine wp_seq_k (fun bI a4 => ?_)
  refine reg_seq (I := I3_ w w3 ax) (ps := [VB ac, VB (!ac)]) (by kernel_rfl) ?_ ?_ rfl hS ⟨aQ.1, aQ.2.1, (bR ax)⟩ ?_ ?_
  ·exact bs3
  ·exact .v (.v (.nil))
  ·refine .ms 0 rfl rfl rfl ?_
   refine .on rfl (fun a w hS hI hp => does_val (x_not rfl (hp.V 0 rfl rfl)) rfl) ?_
   exact .nil
  clear hS
  intro bt a6 hS ay hp
  replace hS := (((hS.nil).cons (hS.get 3 rfl)).cons (hS.get 2 rfl)).cons (hS.get 1 rfl)
  have aP : sl _ 15 = .bool (!ac) := hp 1 (by decide)
  have hS := hS.cons aP
  clear hp aP
  refine a4 _ _ ?_
  refine wp_cond_true ((hS.get 0 rfl).trans (bT (congrArg (!·) (Bool.eq_false_iff.2 c1)))) ?_
  refine wp_goto ?_
  (try simp only [Exit.then, Exit.inBlock])
  replace hS := hS.nil
  exact ⟨rfl, H, hS, ay.1⟩
 rw [if_pos c1] at H
 obtain ⟨cd, br, H⟩ := Option.bind_eq_some_iff.mp H
 obtain ⟨aa, ab⟩ := cd
 (try dsimp only at H)
 by_cases c2 : ab = true
 rotate_left
 ·rw [if_neg c2] at H
  refine wp_seq_k (fun K5 bf => ?_)
  refine reg_seq (I := I2_ w w3) (ps := [IsV (.slice none 0 0)]) (by kernel_rfl) ?_ ?_ rfl hS ⟨bC, (bR w3)⟩ ?_ ?_
  ·exact bs2
  ·exact .v (.nil)
  ·refine .on rfl (fun a w hS hI hp => does_val (x_assign rfl (rfl)) rfl) ?_
   exact .nil
  clear hS
  intro bN w7 hS a2 hp
  clear hp
  refine bf _ _ ?_
  refine wp_seq_k (fun K8 bg => ?_)
  refine reg_seq (I := I3_ w w3 w7) (ps := [IsV ((frame_Put.v0 aC aD aE aF aG aH aI aJ aK aL ah ai aj ak al am an ao ap aq ar au av)), IsT (fun v0_ => #[v0_, .bool ac]) (IsC (Kd.int .u8) ad), IsT (fun v0_ => #[v0_, .bool ac]) (IsC (Kd.int .u8) ad), IsC (Kd.int .u8) ad, VB ac, IsC (Kd.int .u8) ad, VB ac]) (by kernel_rfl) ?_ ?_ rfl hS ⟨a2.1, a2.2, (bR w7)⟩ ?_ ?_
  ·exact bs3
  ·exact .v (.cons (Stays.t _ (Stays.c _ _)) (.cons (Stays.t _ (Stays.c _ _)) (.cons (Stays.c _ _) (.v (.cons (Stays.c _ _) (.v (.nil)))))))
  ·refine .on rfl (fun a w hS hI hp => does_loadrow rfl (hS.get 0 rfl) (((hI.2.1).block g4 (blk_lt aw)).trans aw) Try.underlying28 rfl (by kernel_rfl) rfl) ?_
   refine .on rfl (fun a w hS hI hp => does_call (by kernel_rfl) (ar2 (rfl) (hp.V 0 rfl rfl)) ((body_Put.calls k _ _ [] aC aD aE aF aG aH aI aJ aK aL ah ai aj ak al am an ao ap aq ar au av ad ac _ (Kd.C_nil _ _) (Nat.le_refl _) bz).mono fun _ _ h => h.elim fun v0 h => ⟨_, h.1, h.2.2, v0, rfl, h.2.1⟩)) ?_
   refine .on rfl (fun a w hS hI hp => does_val (x_move rfl rfl) (hp.V 1 rfl rfl)) ?_
   refine .on rfl (fun a w hS hI hp => (hp.V 2 rfl rfl).elim fun v0 h0 => does_val (x_extract rfl h0.1 rfl) h0.2) ?_
   refine .on rfl (fun a w hS hI hp => (hp.V 2 rfl rfl).elim fun v0 h0 => does_val (x_extract rfl h0.1 rfl) rfl) ?_
   refine .on rfl (fun a w hS hI hp => does_val (x_assign rfl rfl) (hp.V 3 rfl rfl)) ?_
   refine .asg 4 rfl rfl rfl ?_
   exact .nil
  clear hS
  intro bs ax hS aQ hp
  obtain ⟨bl, bm, a1, a9, a8⟩ := (show IsC (Kd.int .u8) ad (sl _ 7) ax from hp 5 (by decide))
  have aB : sl _ 8 = .bool ac := hp 6 (by decide)
  have hS := hS.cons a1
  have hS := hS.cons aB
  clear hp a1 aB
  refine bg _ _ ?_
  refine wp_seq_k (fun bH a7 => ?_)
  refine wp_seq_k (fun bI a4 => ?_)
  refine reg_seq (I := I3_ w w3 ax) (ps := [VB ac, VB (!ac)]) (by kernel_rfl) ?_ ?_ rfl hS ⟨aQ.1, aQ.2.1, (bR ax)⟩ ?_ ?_
  ·exact bs3
  ·exact .v (.v (.nil))
  ·refine .ms 0 rfl rfl rfl ?_
   refine .on rfl (fun a w hS hI hp => does_val (x_not rfl (hp.V 0 rfl rfl)) rfl) ?_
   exact .nil
  clear hS
  intro bt a6 hS ay hp
  replace hS := (((hS.nil).cons (hS.get 3 rfl)).cons (hS.get 2 rfl)).cons (hS.get 1 rfl)
  have aP : sl _ 15 = .bool (!ac) := hp 1 (by decide)
  have hS := hS.cons aP
  clear hp aP
  refine a4 _ _ ?_
  refine wp_cond_false ((hS.get 0 rfl).trans (bF (congrArg (!·) c1))) ?_
  refine wp_skip ?_
  refine a7 _ _ ?_
  refine wp_seq_k (fun bW bn => ?_)
  refine wp_seq_k (fun bX bd => ?_)
  refine reg_seq_tail 6 (I := I4_ w w3 ax a6) (ps := [IsV (.slice bl ad.length bm), IsV (.slice A1 l1.length bB), IsT (fun v0_ => #[v0_, .bool ab]) (IsC (Kd.int .u8) aa), IsT (fun v0_ => #[v0_, .bool ab]) (IsC (Kd.int .u8) aa), IsC (Kd.int .u8) aa, VB ab]) (by kernel_rfl) ?_ ?_ rfl hS ⟨ay.1, ay.2.1, ay.2.2, (bR a6)⟩ ?_ ?_
  ·exact bs4
  ·exact .v (.v (.cons (Stays.t _ (Stays.c _ _)) (.cons (Stays.t _ (Stays.c _ _)) (.cons (Stays.c _ _) (.v (.nil))))))
  ·refine .ms 1 rfl rfl rfl ?_
   refine .ms 3 rfl rfl rfl ?_
   refine .on rfl (fun a w hS hI hp => does_call (by kernel_rfl) (ar2 (hp.V 0 rfl rfl) (hp.V 1 rfl rfl)) ((tlv_Put.calls k _ _ ad _ _ l1 aa ab _ (Kd.C_below a8 hI.2.2.1) a9 (Kd.C_below HR1 hI.1) HC1 br).mono fun _ _ h => h.elim fun v0 h => ⟨_, h.1, h.2.2, v0, rfl, h.2.1⟩)) ?_
   refine .on rfl (fun a w hS hI hp => does_val (x_move rfl rfl) (hp.V 2 rfl rfl)) ?_
   refine .on rfl (fun a w hS hI hp => (hp.V 3 rfl rfl).elim fun v0 h0 => does_val (x_extract rfl h0.1 rfl) h0.2) ?_
   refine .on rfl (fun a w hS hI hp => (hp.V 3 rfl rfl).elim fun v0 h0 => does_val (x_extract rfl h0.1 rfl) rfl) ?_
   exact .nil
  clear hS
  intro bJ aM hS aR hp
  replace hS := ((hS.nil).cons (hS.get 2 rfl)).cons (hS.get 1 rfl)
  obtain ⟨aS, aT, aY, bS, bw⟩ := (show IsC (Kd.int .u8) aa (sl _ 20) aM from hp 4 (by decide))
  have aZ : sl _ 21 = .bool ab := hp 5 (by decide)
  have hS := hS.cons aY
  have hS := hS.cons aZ
  clear hp aY aZ
  show wpList _ _ _ [_, _] _ _
  refine list_step rfl (R := fun v w' => Below _ _ w' ∧ (IsV (.slice aS aa.length aT)) v w') (does_val (x_assign rfl (hS.get 1 rfl)) rfl) ?_
  rintro bj bq ⟨hb, he⟩
  have aU := below_step aR.1 hb
  have aN := below_step aR.2.1 hb
  have ba := below_step aR.2.2.1 hb
  have az := below_step (bR aM) hb
  obtain rfl : bj = .slice aS aa.length aT := he
  replace hS := (((hS.nil).cons (hS.get 3 rfl)).cons (hS.get 1 rfl)).cons (hS.get 0 rfl)
  refine hS.next (v := .slice aS aa.length aT) (d := 7) rfl (by decide) (by rfl) ?_
  clear hS
  intro bK hS
  refine list_step rfl (R := fun v w' => Below _ _ w' ∧ (VB ab) v w') (does_val (x_assign rfl (hS.get 1 rfl)) rfl) ?_
  rintro bk bc ⟨hb, he⟩
  have aV := below_step aU hb
  have aO := below_step aN hb
  have aA := below_step az hb
  have bb := below_step (bR bq) hb
  obtain rfl : bk = .bool ab := he
  refine hS.next (v := .bool ab) (d := 8) rfl (by decide) (by rfl) ?_
  clear hS
  intro bL hS
  refine wpList_nil ?_
  refine bd _ _ ?_
  refine wp_seq_k (fun bY be => ?_)
  refine reg_seq (I := I4_ w w3 aM bc) (ps := [VB ab, VB (!ab)]) (by kernel_rfl) ?_ ?_ rfl hS ⟨aV, aO, aA, (bR bc)⟩ ?_ ?_
  ·exact bs4
  ·exact .v (.v (.nil))
  ·refine .ms 0 rfl rfl rfl ?_
   refine .on rfl (fun a w hS hI hp => does_val (x_not rfl (hp.V 0 rfl rfl)) rfl) ?_
   exact .nil
  clear hS
  intro bM ag hS aW hp
  replace hS := ((hS.nil).cons (hS.get 4 rfl)).cons (hS.get 1 rfl)
  have a0 : sl _ 23 = .bool (!ab) := hp 1 (by decide)
  have hS := hS.cons a0
  clear hp a0
  refine be _ _ ?_
  refine wp_cond_true ((hS.get 0 rfl).trans (bT (congrArg (!·) (Bool.eq_false_iff.2 c2)))) ?_
  refine wp_goto ?_
  (try simp only [Exit.then, Exit.inBlock])
  replace hS := hS.nil
  exact ⟨rfl, H, hS, aW.1⟩
 rw [if_pos c2] at H
 obtain ⟨ce, bG, H⟩ := Option.bind_eq_some_iff.mp H
 obtain ⟨ae, af⟩ := ce
 (try dsimp only at H)
 by_cases c3 : af = true
 rotate_left
 ·rw [if_neg c3] at H
  refine wp_seq_k (fun K5 bf => ?_)
  refine reg_seq (I := I2_ w w3) (ps := [IsV (.slice none 0 0)]) (by kernel_rfl) ?_ ?_ rfl hS ⟨bC, (bR w3)⟩ ?_ ?_
  ·exact bs2
  ·exact .v (.nil)
  ·refine .on rfl (fun a w hS hI hp => does_val (x_assign rfl (rfl)) rfl) ?_
   exact .nil
  clear hS
  intro bN w7 hS a2 hp
  clear hp
  refine bf _ _ ?_
  refine wp_seq_k (fun K8 bg => ?_)
  refine reg_seq (I := I3_ w w3 w7) (ps := [IsV ((frame_Put.v0 aC aD aE aF aG aH aI aJ aK aL ah ai aj ak al am an ao ap aq ar au av)), IsT (fun v0_ => #[v0_, .bool ac]) (IsC (Kd.int .u8) ad), IsT (fun v0_ => #[v0_, .bool ac]) (IsC (Kd.int .u8) ad), IsC (Kd.int .u8) ad, VB ac, IsC (Kd.int .u8) ad, VB ac]) (by kernel_rfl) ?_ ?_ rfl hS ⟨a2.1, a2.2, (bR w7)⟩ ?_ ?_
  ·exact bs3
  ·exact .v (.cons (Stays.t _ (Stays.c _ _)) (.cons (Stays.t _ (Stays.c _ _)) (.cons (Stays.c _ _) (.v (.cons (Stays.c _ _) (.v (.nil)))))))
  ·refine .on rfl (fun a w hS hI hp => does_loadrow rfl (hS.get 0 rfl) (((hI.2.1).block g4 (blk_lt aw)).trans aw) Try.underlying28 rfl (by kernel_rfl) rfl) ?_
   refine .on rfl (fun a w hS hI hp => does_call (by kernel_rfl) (ar2 (rfl) (hp.V 0 rfl rfl)) ((body_Put.calls k _ _ [] aC aD aE aF aG aH aI aJ aK aL ah ai aj ak al am an ao ap aq ar au av ad ac _ (Kd.C_nil _ _) (Nat.le_refl _) bz).mono fun _ _ h => h.elim fun v0 h => ⟨_, h.1, h.2.2, v0, rfl, h.2.1⟩)) ?_
   refine .on rfl (fun a w hS hI hp => does_val (x_move rfl rfl) (hp.V 1 rfl rfl)) ?_
   refine .on rfl (fun a w hS hI hp => (hp.V 2 rfl rfl).elim fun v0 h0 => does_val (x_extract rfl h0.1 rfl) h0.2) ?_
   refine .on rfl (fun a w hS hI hp => (hp.V 2 rfl rfl).elim fun v0 h0 => does_val (x_extract rfl h0.1 rfl) rfl) ?_
   refine .on rfl (fun a w hS hI hp => does_val (x_assign rfl rfl) (hp.V 3 rfl rfl)) ?_
   refine .asg 4 rfl rfl rfl ?_
   exact .nil
  clear hS
  intro bs ax hS aQ hp
  obtain ⟨bl, bm, a1, a9, a8⟩ := (show IsC (Kd.int .u8) ad (sl _ 7) ax from hp 5 (by decide))
  have aB : sl _ 8 = .bool ac := hp 6 (by decide)
  have hS := hS.cons a1
  have hS := hS.cons aB
  clear hp a1 aB
  refine bg _ _ ?_
  refine wp_seq_k (fun bH a7 => ?_)
  refine wp_seq_k (fun bI a4 => ?_)
  refine reg_seq (I := I3_ w w3 ax) (ps := [VB ac, VB (!ac)]) (by kernel_rfl) ?_ ?_ rfl hS ⟨aQ.1, aQ.2.1, (bR ax)⟩ ?_ ?_
  ·exact bs3
  ·exact .v (.v (.nil))
  ·refine .ms 0 rfl rfl rfl ?_
   refine .on rfl (fun a w hS hI hp => does_val (x_not rfl (hp.V 0 rfl rfl)) rfl) ?_
   exact .nil
  clear hS
  intro bt a6 hS ay hp
  replace hS := (((hS.nil).cons (hS.get 3 rfl)).cons (hS.get 2 rfl)).cons (hS.get 1 rfl)
  have aP : sl _ 15 = .bool (!ac) := hp 1 (by decide)
  have hS := hS.cons aP
  clear hp aP
  refine a4 _ _ ?_
  refine wp_cond_false ((hS.get 0 rfl).trans (bF (congrArg (!·) c1))) ?_
  refine wp_skip ?_
  refine a7 _ _ ?_
  refine wp_seq_k (fun bW bn => ?_)
  refine wp_seq_k (fun bX bd => ?_)
  refine reg_seq_tail 6 (I := I4_ w w3 ax a6) (ps := [IsV (.slice bl ad.length bm), IsV (.slice A1 l1.length bB), IsT (fun v0_ => #[v0_, .bool ab]) (IsC (Kd.int .u8) aa), IsT (fun v0_ => #[v0_, .bool ab]) (IsC (Kd.int .u8) aa), IsC (Kd.int .u8) aa, VB ab]) (by kernel_rfl) ?_ ?_ rfl hS ⟨ay.1, ay.2.1, ay.2.2, (bR a6)⟩ ?_ ?_
  ·exact bs4
  ·exact .v (.v (.cons (Stays.t _ (Stays.c _ _)) (.cons (Stays.t _ (Stays.c _ _)) (.cons (Stays.c _ _) (.v (.nil))))))
  ·refine .ms 1 rfl rfl rfl ?_
   refine .ms 3 rfl rfl rfl ?_
   refine .on rfl (fun a w hS hI hp => does_call (by kernel_rfl) (ar2 (hp.V 0 rfl rfl) (hp.V 1 rfl rfl)) ((tlv_Put.calls k _ _ ad _ _ l1 aa ab _ (Kd.C_below a8 hI.2.2.1) a9 (Kd.C_below HR1 hI.1) HC1 br).mono fun _ _ h => h.elim fun v0 h => ⟨_, h.1, h.2.2, v0, rfl, h.2.1⟩)) ?_
   refine .on rfl (fun a w hS hI hp => does_val (x_move rfl rfl) (hp.V 2 rfl rfl)) ?_
   refine .on rfl (fun a w hS hI hp => (hp.V 3 rfl rfl).elim fun v0 h0 => does_val (x_extract rfl h0.1 rfl) h0.2) ?_
   refine .on rfl (fun a w hS hI hp => (hp.V 3 rfl rfl).elim fun v0 h0 => does_val (x_extract rfl h0.1 rfl) rfl) ?_
   exact .nil
  clear hS
  intro bJ aM hS aR hp
  replace hS := ((hS.nil).cons (hS.get 2 rfl)).cons (hS.get 1 rfl)
  obtain ⟨aS, aT, aY, bS, bw⟩ := (show IsC (Kd.int .u8) aa (sl _ 20) aM from hp 4 (by decide))
  have aZ : sl _ 21 = .bool ab := hp 5 (by decide)
  have hS := hS.cons aY
  have hS := hS.cons aZ
  clear hp aY aZ
  show wpList _ _ _ [_, _] _ _
  refine list_step rfl (R := fun v w' => Below _ _ w' ∧ (IsV (.slice aS aa.length aT)) v w') (does_val (x_assign rfl (hS.get 1 rfl)) rfl) ?_
  rintro bj bq ⟨hb, he⟩
  have aU := below_step aR.1 hb
  have aN := below_step aR.2.1 hb
  have ba := below_step aR.2.2.1 hb
  have az := below_step (bR aM) hb
  obtain rfl : bj = .slice aS aa.length aT := he
  replace hS := (((hS.nil).cons (hS.get 3 rfl)).cons (hS.get 1 rfl)).cons (hS.get 0 rfl)
  refine hS.next (v := .slice aS aa.length aT) (d := 7) rfl (by decide) (by rfl) ?_
  clear hS
  intro bK hS
  refine list_step rfl (R := fun v w' => Below _ _ w' ∧ (VB ab) v w') (does_val (x_assign rfl (hS.get 1 rfl)) rfl) ?_
  rintro bk bc ⟨hb, he⟩
  have aV := below_step aU hb
  have aO := below_step aN hb
  have aA := below_step az hb
  have bb := below_step (bR bq) hb
  obtain rfl : bk = .bool ab := he
  refine hS.next (v := .bool ab) (d := 8) rfl (by decide) (by rfl) ?_
  clear hS
  intro bL hS
  refine wpList_nil ?_
  refine bd _ _ ?_
  refine wp_seq_k (fun bY be => ?_)
  refine reg_seq (I := I4_ w w3 aM bc) (ps := [VB ab, VB (!ab)]) (by kernel_rfl) ?_ ?_ rfl hS ⟨aV, aO, aA, (bR bc)⟩ ?_ ?_
  ·exact bs4
  ·exact .v (.v (.nil))
  ·refine .ms 0 rfl rfl rfl ?_
   refine .on rfl (fun a w hS hI hp => does_val (x_not rfl (hp.V 0 rfl rfl)) rfl) ?_
   exact .nil
  clear hS
  intro bM ag hS aW hp
  replace hS := ((hS.nil).cons (hS.get 4 rfl)).cons (hS.get 1 rfl)
  have a0 : sl _ 23 = .bool (!ab) := hp 1 (by decide)
  have hS := hS.cons a0
  clear hp a0
  refine be _ _ ?_
  refine wp_cond_false ((hS.get 0 rfl).trans (bF (congrArg (!·) c2))) ?_
  refine wp_skip ?_
  refine bn _ _ ?_
  refine wp_seq_k (fun b8 bP => ?_)
  refine wp_seq_k (fun b9 bu => ?_)
  refine reg_seq (I := I4_ w w3 aM ag) (ps := [IsV ((frame_Put.v0 aC aD aE aF aG aH aI aJ aK aL ah ai aj ak al am an ao ap aq ar au av)), IsV (.slice aS aa.length aT), VI (aa.length : Int), VI (wrap64 (34 + (aa.length : Int))), IsT (fun v0_ => #[v0_, .bool af]) (IsR (Kd.int .u8) 5 ag.heap.size ae), IsT (fun v0_ => #[v0_, .bool af]) (IsR (Kd.int .u8) 5 ag.heap.size ae), IsR (Kd.int .u8) 5 ag.heap.size ae, VB af, IsR (Kd.int .u8) 5 ag.heap.size ae, VB af]) (by kernel_rfl) ?_ ?_ rfl hS ⟨aW.1, aW.2.1, aW.2.2.1, (bR ag)⟩ ?_ ?_
  ·exact bs4
  ·exact .v (.v (.v (.v (.cons (Stays.t _ (Stays.r _ _ _ _)) (.cons (Stays.t _ (Stays.r _ _ _ _)) (.cons (Stays.r _ _ _ _) (.v (.cons (Stays.r _ _ _ _) (.v (.nil))))))))))
  ·refine .on rfl (fun a w hS hI hp => does_loadrow rfl (hS.get 2 rfl) (((hI.2.1).block g4 (blk_lt aw)).trans aw) Try.underlying28 rfl (by kernel_rfl) rfl) ?_
   refine .ms 1 rfl rfl rfl ?_
   refine .on rfl (fun a w hS hI hp => does_val (x_len (e := 5) rfl (by kernel_rfl) (hp.V 1 rfl rfl)) rfl) ?_
   refine .on rfl (fun a w hS hI hp => does_val (x_bin rfl (rfl) (hp.V 2 rfl rfl) (b_add _ _ _ _ _)) rfl) ?_
   refine .on rfl (fun a w hS hI hp => does_call (by kernel_rfl) (ar2 (hp.V 0 rfl rfl) (hp.V 3 rfl rfl)) ((header_Put.calls (w := _) (h := bG)).mono fun _ _ h => h.elim fun v0 h => ⟨_, h.1, h.2.2, v0, rfl, Kd.R_lower h.2.1 hI.2.2.2.size⟩)) ?_
   refine .on rfl (fun a w hS hI hp => does_val (x_move rfl rfl) (hp.V 4 rfl rfl)) ?_
   refine .on rfl (fun a w hS hI hp => (hp.V 5 rfl rfl).elim fun v0 h0 => does_val (x_extract rfl h0.1 rfl) h0.2) ?_
   refine .on rfl (fun a w hS hI hp => (hp.V 5 rfl rfl).elim fun v0 h0 => does_val (x_extract rfl h0.1 rfl) rfl) ?_
   refine .on rfl (fun a w hS hI hp => does_val (x_assign rfl rfl) (hp.V 6 rfl rfl)) ?_
   refine .asg 7 rfl rfl rfl ?_
   exact .nil
  clear hS
  intro b1 a3 hS aX hp
  replace hS := (hS.nil).cons (hS.get 1 rfl)
  obtain ⟨bx, bA, bi, b4, bQ⟩ := Kd.R_reads (show Kd.R (Kd.int .u8) 5 a3 ag.heap.size (fun _ => True) (sl _ 6) ae from hp 8 (by decide))
  have b5 : Kd.R (Kd.int .u8) 5 a3 ag.heap.size (fun _ => True) (.slice bx ae.length bA) ae := bi ▸ (hp 8 (by decide))
  have aB : sl _ 8 = .bool af := hp 9 (by decide)
  have hS := hS.cons bi
  have hS := hS.cons aB
  clear hp bi aB
  refine bu _ _ ?_
  refine wp_seq_k (fun ca bv => ?_)
  refine reg_seq (I := I5_ w w3 aM ag a3) (ps := [VB af, VB (!af)]) (by kernel_rfl) ?_ ?_ rfl hS ⟨aX.1, aX.2.1, aX.2.2.1, aX.2.2.2, (bR a3)⟩ ?_ ?_
  ·exact bs5
  ·exact .v (.v (.nil))
  ·refine .ms 0 rfl rfl rfl ?_
   refine .on rfl (fun a w hS hI hp => does_val (x_not rfl (hp.V 0 rfl rfl)) rfl) ?_
   exact .nil
  clear hS
  intro b2 bV hS a5 hp
  replace hS := ((hS.nil).cons (hS.get 2 rfl)).cons (hS.get 1 rfl)
  have bh : sl _ 33 = .bool (!af) := hp 1 (by decide)
  have hS := hS.cons bh
  clear hp bh
  refine bv _ _ ?_
  refine wp_cond_true ((hS.get 0 rfl).trans (bT (congrArg (!·) (Bool.eq_false_iff.2 c3)))) ?_
  refine wp_goto ?_
  (try simp only [Exit.then, Exit.inBlock])
  replace hS := hS.nil
  exact ⟨rfl, H, hS, a5.1⟩
 rw [if_pos c3] at H
 by_cases c4 : (strOfNums ae).size + (strOfNums aa).size ≤ 9223372036854775807
 rotate_left
 ·rw [if_neg c4] at H
  exact absurd H (by simp)
 rw [if_pos c4] at H
 simp only [Option.some.injEq, Prod.mk.injEq] at H
 obtain ⟨rfl, rfl⟩ := H
 refine wp_seq_k (fun K5 bf => ?_)
 refine reg_seq (I := I2_ w w3) (ps := [IsV (.slice none 0 0)]) (by kernel_rfl) ?_ ?_ rfl hS ⟨bC, (bR w3)⟩ ?_ ?_
 ·exact bs2
 ·exact .v (.nil)
 ·refine .on rfl (fun a w hS hI hp => does_val (x_assign rfl (rfl)) rfl) ?_
  exact .nil
 clear hS
 intro bN w7 hS a2 hp
 clear hp
 refine bf _ _ ?_
 refine wp_seq_k (fun K8 bg => ?_)
 refine reg_seq (I := I3_ w w3 w7) (ps := [IsV ((frame_Put.v0 aC aD aE aF aG aH aI aJ aK aL ah ai aj ak al am an ao ap aq ar au av)), IsT (fun v0_ => #[v0_, .bool ac]) (IsC (Kd.int .u8) ad), IsT (fun v0_ => #[v0_, .bool ac]) (IsC (Kd.int .u8) ad), IsC (Kd.int .u8) ad, VB ac, IsC (Kd.int .u8) ad, VB ac]) (by kernel_rfl) ?_ ?_ rfl hS ⟨a2.1, a2.2, (bR w7)⟩ ?_ ?_
 ·exact bs3
 ·exact .v (.cons (Stays.t _ (Stays.c _ _)) (.cons (Stays.t _ (Stays.c _ _)) (.cons (Stays.c _ _) (.v (.cons (Stays.c _ _) (.v (.nil)))))))
 ·refine .on rfl (fun a w hS hI hp => does_loadrow rfl (hS.get 0 rfl) (((hI.2.1).block g4 (blk_lt aw)).trans aw) Try.underlying28 rfl (by kernel_rfl) rfl) ?_
  refine .on rfl (fun a w hS hI hp => does_call (by kernel_rfl) (ar2 (rfl) (hp.V 0 rfl rfl)) ((body_Put.calls k _ _ [] aC aD aE aF aG aH aI aJ aK aL ah ai aj ak al am an ao ap aq ar au av ad ac _ (Kd.C_nil _ _) (Nat.le_refl _) bz).mono fun _ _ h => h.elim fun v0 h => ⟨_, h.1, h.2.2, v0, rfl, h.2.1⟩)) ?_
  refine .on rfl (fun a w hS hI hp => does_val (x_move rfl rfl) (hp.V 1 rfl rfl)) ?_
  refine .on rfl (fun a w hS hI hp => (hp.V 2 rfl rfl).elim fun v0 h0 => does_val (x_extract rfl h0.1 rfl) h0.2) ?_
  refine .on rfl (fun a w hS hI hp => (hp.V 2 rfl rfl).elim fun v0 h0 => does_val (x_extract rfl h0.1 rfl) rfl) ?_
  refine .on rfl (fun a w hS hI hp => does_val (x_assign rfl rfl) (hp.V 3 rfl rfl)) ?_
  refine .asg 4 rfl rfl rfl ?_
  exact .nil
 clear hS
 intro bs ax hS aQ hp
 obtain ⟨bl, bm, a1, a9, a8⟩ := (show IsC (Kd.int .u8) ad (sl _ 7) ax from hp 5 (by decide))
 have aB : sl _ 8 = .bool ac := hp 6 (by decide)
 have hS := hS.cons a1
 have hS := hS.cons aB
 clear hp a1 aB
 refine bg _ _ ?_
 refine wp_seq_k (fun bH a7 => ?_)
 refine wp_seq_k (fun bI a4 => ?_)
 refine reg_seq (I := I3_ w w3 ax) (ps := [VB ac, VB (!ac)]) (by kernel_rfl) ?_ ?_ rfl hS ⟨aQ.1, aQ.2.1, (bR ax)⟩ ?_ ?_
 ·exact bs3
 ·exact .v (.v (.nil))
 ·refine .ms 0 rfl rfl rfl ?_
  refine .on rfl (fun a w hS hI hp => does_val (x_not rfl (hp.V 0 rfl rfl)) rfl) ?_
  exact .nil
 clear hS
 intro bt a6 hS ay hp
 replace hS := (((hS.nil).cons (hS.get 3 rfl)).cons (hS.get 2 rfl)).cons (hS.get 1 rfl)
 have aP : sl _ 15 = .bool (!ac) := hp 1 (by decide)
 have hS := hS.cons aP
 clear hp aP
 refine a4 _ _ ?_
 refine wp_cond_false ((hS.get 0 rfl).trans (bF (congrArg (!·) c1))) ?_
 refine wp_skip ?_
 refine a7 _ _ ?_
 refine wp_seq_k (fun bW bn => ?_)
 refine wp_seq_k (fun bX bd => ?_)
 refine reg_seq_tail 6 (I := I4_ w w3 ax a6) (ps := [IsV (.slice bl ad.length bm), IsV (.slice A1 l1.length bB), IsT (fun v0_ => #[v0_, .bool ab]) (IsC (Kd.int .u8) aa), IsT (fun v0_ => #[v0_, .bool ab]) (IsC (Kd.int .u8) aa), IsC (Kd.int .u8) aa, VB ab]) (by kernel_rfl) ?_ ?_ rfl hS ⟨ay.1, ay.2.1, ay.2.2, (bR a6)⟩ ?_ ?_
 ·exact bs4
 ·exact .v (.v (.cons (Stays.t _ (Stays.c _ _)) (.cons (Stays.t _ (Stays.c _ _)) (.cons (Stays.c _ _) (.v (.nil))))))
 ·refine .ms 1 rfl rfl rfl ?_
  refine .ms 3 rfl rfl rfl ?_
  refine .on rfl (fun a w hS hI hp => does_call (by kernel_rfl) (ar2 (hp.V 0 rfl rfl) (hp.V 1 rfl rfl)) ((tlv_Put.calls k _ _ ad _ _ l1 aa ab _ (Kd.C_below a8 hI.2.2.1) a9 (Kd.C_below HR1 hI.1) HC1 br).mono fun _ _ h => h.elim fun v0 h => ⟨_, h.1, h.2.2, v0, rfl, h.2.1⟩)) ?_
  refine .on rfl (fun a w hS hI hp => does_val (x_move rfl rfl) (hp.V 2 rfl rfl)) ?_
  refine .on rfl (fun a w hS hI hp => (hp.V 3 rfl rfl).elim fun v0 h0 => does_val (x_extract rfl h0.1 rfl) h0.2) ?_
  refine .on rfl (fun a w hS hI hp => (hp.V 3 rfl rfl).elim fun v0 h0 => does_val (x_extract rfl h0.1 rfl) rfl) ?_
  exact .nil
 clear hS
 intro bJ aM hS aR hp
 replace hS := ((hS.nil).cons (hS.get 2 rfl)).cons (hS.get 1 rfl)
 obtain ⟨aS, aT, aY, bS, bw⟩ := (show IsC (Kd.int .u8) aa (sl _ 20) aM from hp 4 (by decide))
 have aZ : sl _ 21 = .bool ab := hp 5 (by decide)
 have hS := hS.cons aY
 have hS := hS.cons aZ
 clear hp aY aZ
 show wpList _ _ _ [_, _] _ _
 refine list_step rfl (R := fun v w' => Below _ _ w' ∧ (IsV (.slice aS aa.length aT)) v w') (does_val (x_assign rfl (hS.get 1 rfl)) rfl) ?_
 rintro bj bq ⟨hb, he⟩
 have aU := below_step aR.1 hb
 have aN := below_step aR.2.1 hb
 have ba := below_step aR.2.2.1 hb
 have az := below_step (bR aM) hb
 obtain rfl : bj = .slice aS aa.length aT := he
 replace hS := (((hS.nil).cons (hS.get 3 rfl)).cons (hS.get 1 rfl)).cons (hS.get 0 rfl)
 refine hS.next (v := .slice aS aa.length aT) (d := 7) rfl (by decide) (by rfl) ?_
 clear hS
 intro bK hS
 refine list_step rfl (R := fun v w' => Below _ _ w' ∧ (VB ab) v w') (does_val (x_assign rfl (hS.get 1 rfl)) rfl) ?_
 rintro bk bc ⟨hb, he⟩
 have aV := below_step aU hb
 have aO := below_step aN hb
 have aA := below_step az hb
 have bb := below_step (bR bq) hb
 obtain rfl : bk = .bool ab := he
 refine hS.next (v := .bool ab) (d := 8) rfl (by decide) (by rfl) ?_
 clear hS
 intro bL hS
 refine wpList_nil ?_
 refine bd _ _ ?_
 refine wp_seq_k (fun bY be => ?_)
 refine reg_seq (I := I4_ w w3 aM bc) (ps := [VB ab, VB (!ab)]) (by kernel_rfl) ?_ ?_ rfl hS ⟨aV, aO, aA, (bR bc)⟩ ?_ ?_
 ·exact bs4
 ·exact .v (.v (.nil))
 ·refine .ms 0 rfl rfl rfl ?_
  refine .on rfl (fun a w hS hI hp => does_val (x_not rfl (hp.V 0 rfl rfl)) rfl) ?_
  exact .nil
 clear hS
 intro bM ag hS aW hp
 replace hS := ((hS.nil).cons (hS.get 4 rfl)).cons (hS.get 1 rfl)
 have a0 : sl _ 23 = .bool (!ab) := hp 1 (by decide)
 have hS := hS.cons a0
 clear hp a0
 refine be _ _ ?_
 refine wp_cond_false ((hS.get 0 rfl).trans (bF (congrArg (!·) c2))) ?_
 refine wp_skip ?_
 refine bn _ _ ?_
 refine wp_seq_k (fun b8 bP => ?_)
 refine wp_seq_k (fun b9 bu => ?_)
 refine reg_seq (I := I4_ w w3 aM ag) (ps := [IsV ((frame_Put.v0 aC aD aE aF aG aH aI aJ aK aL ah ai aj ak al am an ao ap aq ar au av)), IsV (.slice aS aa.length aT), VI (aa.length : Int), VI (wrap64 (34 + (aa.length : Int))), IsT (fun v0_ => #[v0_, .bool af]) (IsR (Kd.int .u8) 5 ag.heap.size ae), IsT (fun v0_ => #[v0_, .bool af]) (IsR (Kd.int .u8) 5 ag.heap.size ae), IsR (Kd.int .u8) 5 ag.heap.size ae, VB af, IsR (Kd.int .u8) 5 ag.heap.size ae, VB af]) (by kernel_rfl) ?_ ?_ rfl hS ⟨aW.1, aW.2.1, aW.2.2.1, (bR ag)⟩ ?_ ?_
 ·exact bs4
 ·exact .v (.v (.v (.v (.cons (Stays.t _ (Stays.r _ _ _ _)) (.cons (Stays.t _ (Stays.r _ _ _ _)) (.cons (Stays.r _ _ _ _) (.v (.cons (Stays.r _ _ _ _) (.v (.nil))))))))))
 ·refine .on rfl (fun a w hS hI hp => does_loadrow rfl (hS.get 2 rfl) (((hI.2.1).block g4 (blk_lt aw)).trans aw) Try.underlying28 rfl (by kernel_rfl) rfl) ?_
  refine .ms 1 rfl rfl rfl ?_
  refine .on rfl (fun a w hS hI hp => does_val (x_len (e := 5) rfl (by kernel_rfl) (hp.V 1 rfl rfl)) rfl) ?_
  refine .on rfl (fun a w hS hI hp => does_val (x_bin rfl (rfl) (hp.V 2 rfl rfl) (b_add _ _ _ _ _)) rfl) ?_
  refine .on rfl (fun a w hS hI hp => does_call (by kernel_rfl) (ar2 (hp.V 0 rfl rfl) (hp.V 3 rfl rfl)) ((header_Put.calls (w := _) (h := bG)).mono fun _ _ h => h.elim fun v0 h => ⟨_, h.1, h.2.2, v0, rfl, Kd.R_lower h.2.1 hI.2.2.2.size⟩)) ?_
  refine .on rfl (fun a w hS hI hp => does_val (x_move rfl rfl) (hp.V 4 rfl rfl)) ?_
  refine .on rfl (fun a w hS hI hp => (hp.V 5 rfl rfl).elim fun v0 h0 => does_val (x_extract rfl h0.1 rfl) h0.2) ?_
  refine .on rfl (fun a w hS hI hp => (hp.V 5 rfl rfl).elim fun v0 h0 => does_val (x_extract rfl h0.1 rfl) rfl) ?_
  refine .on rfl (fun a w hS hI hp => does_val (x_assign rfl rfl) (hp.V 6 rfl rfl)) ?_
  refine .asg 7 rfl rfl rfl ?_
  exact .nil
 clear hS
 intro b1 a3 hS aX hp
 replace hS := (hS.nil).cons (hS.get 1 rfl)
 obtain ⟨bx, bA, bi, b4, bQ⟩ := Kd.R_reads (show Kd.R (Kd.int .u8) 5 a3 ag.heap.size (fun _ => True) (sl _ 6) ae from hp 8 (by decide))
 have b5 : Kd.R (Kd.int .u8) 5 a3 ag.heap.size (fun _ => True) (.slice bx ae.length bA) ae := bi ▸ (hp 8 (by decide))
 have aB : sl _ 8 = .bool af := hp 9 (by decide)
 have hS := hS.cons bi
 have hS := hS.cons aB
 clear hp bi aB
 refine bu _ _ ?_
 refine wp_seq_k (fun ca bv => ?_)
 refine reg_seq (I := I5_ w w3 aM ag a3) (ps := [VB af, VB (!af)]) (by kernel_rfl) ?_ ?_ rfl hS ⟨aX.1, aX.2.1, aX.2.2.1, aX.2.2.2, (bR a3)⟩ ?_ ?_
 ·exact bs5
 ·exact .v (.v (.nil))
 ·refine .ms 0 rfl rfl rfl ?_
  refine .on rfl (fun a w hS hI hp => does_val (x_not rfl (hp.V 0 rfl rfl)) rfl) ?_
  exact .nil
 clear hS
 intro b2 bV hS a5 hp
 replace hS := ((hS.nil).cons (hS.get 2 rfl)).cons (hS.get 1 rfl)
 have bh : sl _ 33 = .bool (!af) := hp 1 (by decide)
 have hS := hS.cons bh
 clear hp bh
 refine bv _ _ ?_
 refine wp_cond_false ((hS.get 0 rfl).trans (bF (congrArg (!·) c3))) ?_
 refine wp_skip ?_
 refine bP _ _ ?_
 refine wp_seq_k (fun ck cj => ?_)
 refine wp_seq_k (fun cl b3 => ?_)
 refine reg_seq (I := I6_ w w3 aM ag a3 bV) (ps := [IsV (.slice bx ae.length bA), IsV (.string (strOfNums ae)), IsV (.slice aS aa.length aT), IsV (.string (strOfNums aa)), IsV (.string ((strOfNums ae) ++ (strOfNums aa))), IsV (.string ((strOfNums ae) ++ (strOfNums aa))), VB true]) (by kernel_rfl) ?_ ?_ rfl hS ⟨a5.1, a5.2.1, a5.2.2.1, a5.2.2.2.1, a5.2.2.2.2, (bR bV)⟩ ?_ ?_
 ·exact bs6
 ·exact .v (.v (.v (.v (.v (.v (.v (.nil)))))))
 ·refine .ms 1 rfl rfl rfl ?_
  refine .on rfl (fun a w hS hI hp => does_val (x_conv rfl (hp.V 0 rfl rfl) (Kd.C_string (by kernel_rfl) (e := 5) (by kernel_rfl) (by kernel_rfl) (Kd.C_below bQ hI.2.2.2.2.1))) rfl) ?_
  refine .ms 2 rfl rfl rfl ?_
  refine .on rfl (fun a w hS hI hp => does_val (x_conv rfl (hp.V 2 rfl rfl) (Kd.C_string (by kernel_rfl) (e := 5) (by kernel_rfl) (by kernel_rfl) (Kd.C_below bw hI.2.2.1))) rfl) ?_
  refine .on rfl (fun a w hS hI hp => does_val (x_bin rfl (hp.V 1 rfl rfl) (hp.V 3 rfl rfl) (b_adds _ _ _ _ _ c4)) rfl) ?_
  refine .asg 4 rfl rfl rfl ?_
  refine .on rfl (fun a w hS hI hp => does_val (x_assign rfl (rfl)) rfl) ?_
  exact .nil
 clear hS
 intro ci cn hS b6 hp
 replace hS := hS.nil
 have bo : sl _ 4 = .string ((strOfNums ae) ++ (strOfNums aa)) := hp 5 (by decide)
 have bp : sl _ 5 = .bool true := hp 6 (by decide)
 have hS := hS.cons bo
 have hS := hS.cons bp
 clear hp bo bp
 refine b3 _ _ ?_
 refine wp_ret ?_
 (try simp only [Exit.then, Exit.inBlock, Exit.jump, Exit.noGoto])
 exact bodyPost_ret (v := .tuple #[.string ((strOfNums ae) ++ (strOfNums aa)), .bool true]) (results_list (rs := [.tmp 4, .tmp 5]) rfl (by simp) (Vals.at (hS.get 1 rfl) (Vals.at (hS.get 0 rfl) .nil))) hS.nodef ⟨rfl, b6.1⟩
def octets_none.f (l0 : List Int) (a1 : Int) (a2 : Int) : Option (Bool) := if a2 < 0 then (some true) else (if a1 < 0 then (some true) else (if a1 > (l0.length : Int) then (some true) else (some (decide (a2 > (wrap64 ((l0.length : Int) - a1)))))))
set_option maxHeartbeats 8000000 in
set_option maxRecDepth 100000 in
theorem octets_none.calls (A0 : Option Addr) (c0 : Nat) (l0 : List Int) (a1 : Int) (a2 : Int) (r : Bool) (w : World) (hr0 : Kd.C (Kd.int .u8) w A0 l0.length l0) (hc0 : l0.length ≤ c0) (h : octets_none.f l0 a1 a2 = some r) :
    Calls Try.prog 80 #[.slice A0 l0.length c0, .int .i64 a1, .int .i64 a2] w fun e w' => e = .returned (.bool r) ∧ Drawn0 w w' := by
  have HR0 := Aside0.mk hr0
  have HC0 := Aside0.mk hc0
  clear hr0 hc0
  have H : (if a2 < 0 then (some true) else (if a1 < 0 then (some true) else (if a1 > (l0.length : Int) then (some true) else (some (decide (a2 > (wrap64 ((l0.length : Int) - a1)))))))) = some r := h
  clear h
  by_cases c4 : a2 < 0
  · rw [if_pos c4] at H
    have c4b0 : decide (a2 < 0) = true := decide_eq_true c4
    clear c4
    obtain rfl := Option.some.inj H
    go_enter Try.func80, Try.ntmps80
    go_wp2
    all_goals
      go_ret
      exact ⟨by first | rfl | (simp; done) | (simp [*]; done), by repeat (first | exact Drawn0.refl _ | apply Drawn0.step)⟩
  · rw [if_neg c4] at H
    have c4b0 : decide (a2 < 0) = false := decide_eq_false c4
    clear c4
    by_cases c5 : a1 < 0
    · rw [if_pos c5] at H
      have c5b0 : decide (a1 < 0) = true := decide_eq_true c5
      clear c5
      obtain rfl := Option.some.inj H
      go_enter Try.func80, Try.ntmps80
      go_wp2
      all_goals
        go_ret
        exact ⟨by first | rfl | (simp; done) | (simp [*]; done), by repeat (first | exact Drawn0.refl _ | apply Drawn0.step)⟩
    · rw [if_neg c5] at H
      have c5b0 : decide (a1 < 0) = false := decide_eq_false c5
      clear c5
      by_cases c6 : a1 > (l0.length : Int)
      · rw [if_pos c6] at H
        have c6b0 : decide ((l0.length : Int) < a1) = true := decide_eq_true c6
        clear c6
        obtain rfl := Option.some.inj H
        go_enter Try.func80, Try.ntmps80
        go_wp2
        all_goals
          go_ret
          exact ⟨by first | rfl | (simp; done) | (simp [*]; done), by repeat (first | exact Drawn0.refl _ | apply Drawn0.step)⟩
      · rw [if_neg c6] at H
        have c6b0 : decide ((l0.length : Int) < a1) = false := decide_eq_false c6
        clear c6
        obtain rfl := Option.some.inj H
        go_enter Try.func80, Try.ntmps80
        go_wp2
        all_goals
          go_ret
          exact ⟨by first | rfl | (simp; done) | (simp [*]; done), by repeat (first | exact Drawn0.refl _ | apply Drawn0.step)⟩
end Go.Proofs.Ytiomlbkakiienaa.P
