/- Functions and loops of the given program as Lean functions, and that the code comes to what they say: written by this session's own program; Lean checks it. -/
import Derived.Test.YtmfahcabdkajnaaZzPx0
import Derived.Test.YtmfahcabdkajnaaZzPx1
namespace Go.Proofs.Ytmfahcabdkajnaa.P
open Go.RowKit Go.Proofs.YtmfahcabdkajnaaW.PrintWords Go.Proofs.YtmfahcabdkajnaaW.PrintLast Go.Proofs.YtmfahcabdkajnaaW.PrintMore
attribute [local go_sem] max2_int min2_int max_two min_two max_three min_three max_four min_four   -- for this text's walks alone
set_option linter.unusedVariables false
set_option linter.unusedSimpArgs false
/-! ### carillonlaw05_QualityLimits: function 7: by our own printer -/
def carillonlaw05_QualityLimits.f (k : Nat)  : Option (Bool) := (quality_May.f 255 255 65535).bind fun t68 => (if t68 = true then ((quality_May.f 0 0 0).bind fun t69 => (if t69 = true then ((quality_May.f (wrap64 (255 + 1)) 255 65535).bind fun t70 => (if t70 = true then (some false) else ((quality_May.f 255 (wrap64 (255 + 1)) 65535).bind fun t71 => (if t71 = true then (some false) else ((quality_May.f 255 255 (wrap64 (65535 + 1))).bind fun t72 => (if t72 = true then (some false) else ((quality_May.f (-1) 255 65535).bind fun t73 => (if t73 = true then (some false) else ((quality_Put.f [] 255 255 65535).bind fun t74 => (if ((strOfNums t74).toList == (⟨#[255, 255, 255, 255]⟩ : ByteArray).toList) = true then ((carillonlaw05_awake.f k ).bind fun t75 => (some t75)) else (some false))))))))))) else (some false))) else (some false))
open Go.Proofs.Ytmfahcabdkajnaa.E in
set_option maxHeartbeats 60000000 in
set_option maxRecDepth 100000 in
theorem carillonlaw05_QualityLimits.calls (k : Nat) (w : World) (h : carillonlaw05_QualityLimits.f k  = some true) :
    Calls Try.prog 7 #[] w fun e w' => e = .returned (.bool true) ∧ Below w.heap.size w w' := by
 have H := h
 clear h
 unfold carillonlaw05_QualityLimits.f at H
 obtain ⟨bm, cd, H⟩ := Option.bind_eq_some_iff.mp H
 by_cases c1 : bm = true
 rotate_left
 ·rw [if_neg c1] at H
  exact absurd H (by simp)
 rw [if_pos c1] at H
 obtain ⟨a8, ce, H⟩ := Option.bind_eq_some_iff.mp H
 by_cases c2 : a8 = true
 rotate_left
 ·rw [if_neg c2] at H
  exact absurd H (by simp)
 rw [if_pos c2] at H
 obtain ⟨aL, cf, H⟩ := Option.bind_eq_some_iff.mp H
 by_cases c3 : aL = true
 ·rw [if_pos c3] at H
  exact absurd H (by simp)
 rw [if_neg c3] at H
 obtain ⟨aM, cg, H⟩ := Option.bind_eq_some_iff.mp H
 by_cases c4 : aM = true
 ·rw [if_pos c4] at H
  exact absurd H (by simp)
 rw [if_neg c4] at H
 obtain ⟨aN, ch, H⟩ := Option.bind_eq_some_iff.mp H
 by_cases c5 : aN = true
 ·rw [if_pos c5] at H
  exact absurd H (by simp)
 rw [if_neg c5] at H
 obtain ⟨aO, ci, H⟩ := Option.bind_eq_some_iff.mp H
 by_cases c6 : aO = true
 ·rw [if_pos c6] at H
  exact absurd H (by simp)
 rw [if_neg c6] at H
 obtain ⟨aG, cj, H⟩ := Option.bind_eq_some_iff.mp H
 by_cases c7 : ((strOfNums aG).toList == (⟨#[255, 255, 255, 255]⟩ : ByteArray).toList) = true
 rotate_left
 ·rw [if_neg c7] at H
  exact absurd H (by simp)
 rw [if_pos c7] at H
 obtain ⟨a9, ck, H⟩ := Option.bind_eq_some_iff.mp H
 have hret := Option.some.inj H
 clear H
 refine calls_of_wp (fn := Try.f7) (by kernel_rfl) rfl ?_
 have hS := St.enter #[] 59 (by simp) [] (by simp)
 have cr := Below.refl w.heap.size w
 refine wp_seq_k (fun K1 ct => ?_)
 refine reg_seq (I := I1_ w) (ps := [VB false]) (by kernel_rfl) ?_ ?_ rfl hS cr ?_ ?_
 ·exact bs1
 ·exact .v (.nil)
 ·refine .on rfl (fun a w hS hI hp => does_val (x_assign rfl (rfl)) rfl) ?_
  exact .nil
 clear hS
 intro cP w3 hS b8 hp
 clear hp
 refine ct _ _ ?_
 refine wp_seq_k (fun K4 cu => ?_)
 refine reg_seq_tail 2 (I := I2_ w w3) (ps := [IsV (.agg #[.int .i64 255, .int .i64 255, .int .i64 65535]), IsB #[.int .i64 0, .int .i64 0, .int .i64 0] 26 w3.heap.size]) (by kernel_rfl) ?_ ?_ rfl hS ⟨b8, (bR w3)⟩ ?_ ?_
 ·exact bs2
 ·exact .v (.cons (Stays.b _ _ _) (.nil))
 ·refine .on rfl (fun a w hS hI hp => does_val (x_build (vs := [(0, .int .i64 255), (1, .int .i64 255), (2, .int .i64 65535)]) rfl (by rw [Array.toList_map]; exact (show [(0, a.eval (.const (.int .i64 255))), (1, a.eval (.const (.int .i64 255))), (2, a.eval (.const (.int .i64 65535)))] = _ from (li_cons (rfl) (li_cons (rfl) (li_cons (rfl) rfl))))) (by kernel_rfl)) rfl) ?_
  refine .on rfl (fun a w hS hI hp => does_var (x_alloc rfl (by kernel_rfl)) (hI.2).size) ?_
  exact .nil
 clear hS
 intro cQ w6 hS bl hp
 have b4 : sl _ 6 = .agg #[.int .i64 255, .int .i64 255, .int .i64 65535] := hp 0 (by decide)
 obtain ⟨g7, b3, bk, bj⟩ := (show IsB _ 26 _ (sl _ 1) _ from hp 1 (by decide))
 have hS := hS.cons b4
 have hS := hS.cons b3
 clear hp b4 b3
 show wpList _ _ _ [_] _ _
 refine list_step rfl (does_storeAll (g := g7) (cs := #[.int .i64 255, .int .i64 255, .int .i64 65535]) rfl (hS.get 0 rfl) (hS.get 1 rfl) (((bR w6).block g7 (blk_lt bj)).trans bj) (by kernel_rfl) (by kernel_rfl) (by kernel_rfl)) ?_
 rintro cR w8 ⟨rfl, aa, hT⟩
 have ac := hT.below bl.1 (Nat.le_trans (b8).size bk) (bl.1).size
 have ab := hT.below bl.2 bk (bl.2).size
 clear hT
 refine wpList_nil ?_
 refine cu _ _ ?_
 refine wp_seq_k (fun K9 cv => ?_)
 refine reg_mixedA (I := I3_ w w3 w8) (ps := [IsV (.agg #[.int .i64 255, .int .i64 255, .int .i64 65535]), IsV (.agg #[.int .i64 255, .int .i64 255, .int .i64 65535]), IsV (.agg #[.int .i64 255, .int .i64 255, .int .i64 65535]), IsV (.agg #[.int .i64 255, .int .i64 255, .int .i64 65535]), IsB #[.int .i64 0, .int .i64 0, .int .i64 0] 26 w8.heap.size, IsB #[.int .i64 0, .int .i64 0, .int .i64 0] 26 w8.heap.size, IsB #[.int .i64 0, .int .i64 0, .int .i64 0] 26 w8.heap.size, IsB #[.int .i64 0, .int .i64 0, .int .i64 0] 26 w8.heap.size]) (C := fun x => x.heap[g7]? = some (.cells #[.int .i64 255, .int .i64 255, .int .i64 65535] 26 (0, 0))) 8 [true, true, true, true, true, true, true, true, false, false, false, false] [false, true, true, true, false, false, false, false, false, false, false, false] [undef, .agg #[.int .i64 255, .int .i64 255, .int .i64 65535], .agg #[.int .i64 255, .int .i64 255, .int .i64 65535], .agg #[.int .i64 255, .int .i64 255, .int .i64 65535], undef, undef, undef, undef, undef, undef, undef, undef] [0, 0, 0, 0, 0, 0, 0, 0, 241, 499, 1015, 2047] [4, 5, 6, 7] w8.heap.size (by kernel_rfl) (by kernel_rfl) (by kernel_rfl) (by kernel_rfl) rfl (by decide) ?_ ?_ ?_ rfl hS ⟨ac, ab, (bR w8)⟩ (.t (.g (.g (.g (.t (.t (.t (.t (.f (.f (.f (.f .nil)))))))))))) ?_ ?_ ?_ ?_ ?_
 ·exact bs3
 ·exact fun x hI => (hI.2.2).size
 ·exact .v (.v (.v (.v (.cons (Stays.b _ _ _) (.cons (Stays.b _ _ _) (.cons (Stays.b _ _ _) (.cons (Stays.b _ _ _) (.nil))))))))
 ·exact .cons rfl rfl rfl (fun a w => does_var (x_alloc rfl (by kernel_rfl)) (Nat.le_refl _)) (.cons rfl rfl rfl (fun a w => does_var (x_alloc rfl (by kernel_rfl)) (Nat.le_refl _)) (.cons rfl rfl rfl (fun a w => does_var (x_alloc rfl (by kernel_rfl)) (Nat.le_refl _)) (.cons rfl rfl rfl (fun a w => does_var (x_alloc rfl (by kernel_rfl)) (Nat.le_refl _)) (.nil))))
 ·refine .on rfl (fun a w hS hI hp => does_loadrow rfl (hS.get 0 rfl) (((hI.2.2).block g7 (blk_lt aa)).trans aa) Try.underlying26 rfl (by kernel_rfl) rfl) ?_
  iterate 3 refine .on rfl (fun a w hS hI hp => does_loadrow rfl (hS.get 0 rfl) (((hI.2.2).block g7 (blk_lt aa)).trans aa) Try.underlying26 rfl (by kernel_rfl) rfl) ?_
  iterate 4 refine .on rfl (fun a w hS hI hp => does_var (x_alloc rfl (by kernel_rfl)) (hI.2.2).size) ?_
  exact .nil
 ·exact fun a x hS hI hp => ((hI.2.2.block g7 (blk_lt aa)).trans aa)
 ·intro a x hS hI hp
  refine .t ?_
  iterate 3 refine .g (fun w hC => GRun.on rfl (x_loadrow rfl (hS.get 0 rfl) ((((Below.refl _ _)).block g7 (blk_lt hC)).trans hC) Try.underlying26 rfl (by kernel_rfl))) ?_
  iterate 8 refine .t ?_
  exact .nil
 clear hS
 intro cw bn hS hI hA hp
 have aH := hI.1
 have aA := hI.2.1
 have aB := hI.2.2
 replace hS := (hS.nil).cons (hS.get 0 rfl)
 have b5 : sl _ 7 = .agg #[.int .i64 255, .int .i64 255, .int .i64 65535] := hp 0 (by decide)
 have b6 : sl _ 8 = .agg #[.int .i64 255, .int .i64 255, .int .i64 65535] := hp 1 (by decide)
 have b7 : sl _ 9 = .agg #[.int .i64 255, .int .i64 255, .int .i64 65535] := hp 2 (by decide)
 have bT : sl _ 10 = .agg #[.int .i64 255, .int .i64 255, .int .i64 65535] := hp 3 (by decide)
 obtain ⟨ad, a4, al, aS⟩ := (show IsB _ 26 _ (sl _ 2) _ from hp 4 (by decide))
 obtain ⟨ae, a5, am, aT⟩ := (show IsB _ 26 _ (sl _ 3) _ from hp 5 (by decide))
 have au : ae ≠ ad := ptr_ne (hA 5 (by decide) 4 (by decide) (by decide)) a5 a4
 obtain ⟨af, a6, an, aU⟩ := (show IsB _ 26 _ (sl _ 4) _ from hp 6 (by decide))
 have av : af ≠ ad := ptr_ne (hA 6 (by decide) 4 (by decide) (by decide)) a6 a4
 have aw : af ≠ ae := ptr_ne (hA 6 (by decide) 5 (by decide) (by decide)) a6 a5
 obtain ⟨ag, a7, ao, aV⟩ := (show IsB _ 26 _ (sl _ 5) _ from hp 7 (by decide))
 have ax : ag ≠ ad := ptr_ne (hA 7 (by decide) 4 (by decide) (by decide)) a7 a4
 have ay : ag ≠ ae := ptr_ne (hA 7 (by decide) 5 (by decide) (by decide)) a7 a5
 have az : ag ≠ af := ptr_ne (hA 7 (by decide) 6 (by decide) (by decide)) a7 a6
 have hS := hS.cons b5
 have hS := hS.cons b6
 have hS := hS.cons b7
 have hS := hS.cons bT
 have hS := hS.cons a4
 have hS := hS.cons a5
 have hS := hS.cons a6
 have hS := hS.cons a7
 clear hp hI b5 b6 b7 bT a4 a5 a6 a7
 show ListC _ _ _ _ [_, _, _, _] _ _
 refine lc_step rfl (does_storeAll (g := ad) (cs := #[.int .i64 255, .int .i64 255, .int .i64 65535]) rfl (hS.get 3 rfl) (hS.get 7 rfl) (((bR bn).block ad (blk_lt aS)).trans aS) (by kernel_rfl) (by kernel_rfl) (by kernel_rfl)) ?_
 rintro cC bo ⟨rfl, aW, hT⟩
 have bw := hT.blk (((bR bn).block ae (blk_lt aT)).trans aT) au
 have bx := hT.blk (((bR bn).block af (blk_lt aU)).trans aU) av
 have bz := hT.blk (((bR bn).block ag (blk_lt aV)).trans aV) ax
 have aI := hT.below aH (Nat.le_trans (ac).size al) (aH).size
 have aC := hT.below aA (Nat.le_trans (ab).size al) (aA).size
 have ap := hT.below aB al (aB).size
 clear hT
 refine ⟨((ap.block g7 (blk_lt aa)).trans aa), ?_⟩
 refine lc_step rfl (does_storeAll (g := ae) (cs := #[.int .i64 255, .int .i64 255, .int .i64 65535]) rfl (hS.get 2 rfl) (hS.get 6 rfl) (((bR bo).block ae (blk_lt bw)).trans bw) (by kernel_rfl) (by kernel_rfl) (by kernel_rfl)) ?_
 rintro cD bp ⟨rfl, aX, hT⟩
 have bA := hT.blk (((bR bo).block ad (blk_lt aW)).trans aW) (Ne.symm au)
 have bB := hT.blk (((bR bo).block af (blk_lt bx)).trans bx) aw
 have bC := hT.blk (((bR bo).block ag (blk_lt bz)).trans bz) ay
 have aJ := hT.below aI (Nat.le_trans (ac).size am) (aI).size
 have aD := hT.below aC (Nat.le_trans (ab).size am) (aC).size
 have aq := hT.below ap am (ap).size
 clear hT
 refine ⟨((aq.block g7 (blk_lt aa)).trans aa), ?_⟩
 refine lc_step rfl (does_storeAll (g := af) (cs := #[.int .i64 255, .int .i64 255, .int .i64 65535]) rfl (hS.get 1 rfl) (hS.get 5 rfl) (((bR bp).block af (blk_lt bB)).trans bB) (by kernel_rfl) (by kernel_rfl) (by kernel_rfl)) ?_
 rintro cE bq ⟨rfl, aY, hT⟩
 have bD := hT.blk (((bR bp).block ad (blk_lt bA)).trans bA) (Ne.symm av)
 have bE := hT.blk (((bR bp).block ae (blk_lt aX)).trans aX) (Ne.symm aw)
 have bF := hT.blk (((bR bp).block ag (blk_lt bC)).trans bC) az
 have aK := hT.below aJ (Nat.le_trans (ac).size an) (aJ).size
 have aE := hT.below aD (Nat.le_trans (ab).size an) (aD).size
 have ar := hT.below aq an (aq).size
 clear hT
 refine ⟨((ar.block g7 (blk_lt aa)).trans aa), ?_⟩
 refine lc_step rfl (does_storeAll (g := ag) (cs := #[.int .i64 255, .int .i64 255, .int .i64 65535]) rfl (hS.get 0 rfl) (hS.get 4 rfl) (((bR bq).block ag (blk_lt bF)).trans bF) (by kernel_rfl) (by kernel_rfl) (by kernel_rfl)) ?_
 rintro cF b9 ⟨rfl, aZ, hT⟩
 have aP := hT.blk (((bR bq).block ad (blk_lt bD)).trans bD) (Ne.symm ax)
 have bG := hT.blk (((bR bq).block ae (blk_lt bE)).trans bE) (Ne.symm ay)
 have bH := hT.blk (((bR bq).block af (blk_lt aY)).trans aY) (Ne.symm az)
 have br := hT.below aK (Nat.le_trans (ac).size ao) (aK).size
 have ba := hT.below aE (Nat.le_trans (ab).size ao) (aE).size
 have aF := hT.below ar ao (ar).size
 clear hT
 refine ⟨((aF.block g7 (blk_lt aa)).trans aa), ?_⟩
 refine lc_nil ?_
 refine cv _ _ ?_
 refine wp_seq_k (fun cK cl => ?_)
 refine reg_seq_tail 4 (I := I4_ w w3 w8 b9) (ps := [VP ad 0, VI 255, VI (wrap64 (255 + 1)), VP ad 0]) (by kernel_rfl) ?_ ?_ rfl hS ⟨br, ba, aF, (bR b9)⟩ ?_ ?_
 ·exact bs4
 ·exact .v (.v (.v (.v (.nil))))
 ·refine .on rfl (fun a w hS hI hp => does_val (x_fieldE (b := 0) rfl (hS.get 3 rfl) Try.underlying26 rfl rfl (by kernel_rfl)) rfl) ?_
  refine .on rfl (fun a w hS hI hp => does_val (x_load1 (d := .int .i64) rfl (hp.V 0 rfl rfl) (by kernel_rfl) rfl ((blk_cell (((hI.2.2.2).block ad (blk_lt aP)).trans aP) 0).trans rfl)) rfl) ?_
  refine .on rfl (fun a w hS hI hp => does_val (x_bin rfl (hp.V 1 rfl rfl) (rfl) (b_add _ _ _ _ _)) rfl) ?_
  refine .on rfl (fun a w hS hI hp => does_val (x_fieldE (b := 0) rfl (hS.get 3 rfl) Try.underlying26 rfl rfl (by kernel_rfl)) rfl) ?_
  exact .nil
 clear hS
 intro cx cS hS ah hp
 replace hS := (((((hS.nil).cons (hS.get 8 rfl)).cons (hS.get 3 rfl)).cons (hS.get 2 rfl)).cons (hS.get 1 rfl)).cons (hS.get 0 rfl)
 have bU : sl _ 13 = .int .i64 (wrap64 (255 + 1)) := hp 2 (by decide)
 have bV : sl _ 14 = .pointer (some ⟨ad, 0, none⟩) := hp 3 (by decide)
 have hS := hS.cons bU
 have hS := hS.cons bV
 clear hp bU bV
 show wpList _ _ _ [_] _ _
 refine list_step rfl (does_store (g := ad) (off := 0) (v := .int .i64 (wrap64 (255 + 1))) (new := #[.int .i64 (wrap64 (255 + 1)), .int .i64 255, .int .i64 65535]) rfl (hS.get 0 rfl) (hS.get 1 rfl) ((ah.2.2.2.block ad (blk_lt aP)).trans aP) (by kernel_rfl) (by kernel_rfl) (by kernel_rfl) (by kernel_rfl)) ?_
 rintro cG ca ⟨rfl, a0, hT⟩
 have aQ := hT.blk ((ah.2.2.2.block ae (blk_lt bG)).trans bG) au
 have bI := hT.blk ((ah.2.2.2.block af (blk_lt bH)).trans bH) av
 have bJ := hT.blk ((ah.2.2.2.block ag (blk_lt aZ)).trans aZ) ax
 have bs := hT.below ah.1 (Nat.le_trans (ac).size al) (ah.1).size
 have bb := hT.below ah.2.1 (Nat.le_trans (ab).size al) (ah.2.1).size
 have bc := hT.below ah.2.2.1 al (ah.2.2.1).size
 clear hT
 refine wpList_nil ?_
 refine cl _ _ ?_
 refine wp_seq_k (fun cL cm => ?_)
 refine reg_seq_tail 4 (I := I4_ w w3 w8 ca) (ps := [VP ae 1, VI 255, VI (wrap64 (255 + 1)), VP ae 1]) (by kernel_rfl) ?_ ?_ rfl hS ⟨bs, bb, bc, (bR ca)⟩ ?_ ?_
 ·exact bs4
 ·exact .v (.v (.v (.v (.nil))))
 ·refine .on rfl (fun a w hS hI hp => does_val (x_fieldE (b := 0) rfl (hS.get 4 rfl) Try.underlying26 rfl rfl (by kernel_rfl)) rfl) ?_
  refine .on rfl (fun a w hS hI hp => does_val (x_load1 (d := .int .i64) rfl (hp.V 0 rfl rfl) (by kernel_rfl) rfl ((blk_cell (((hI.2.2.2).block ae (blk_lt aQ)).trans aQ) 1).trans rfl)) rfl) ?_
  refine .on rfl (fun a w hS hI hp => does_val (x_bin rfl (hp.V 1 rfl rfl) (rfl) (b_add _ _ _ _ _)) rfl) ?_
  refine .on rfl (fun a w hS hI hp => does_val (x_fieldE (b := 0) rfl (hS.get 4 rfl) Try.underlying26 rfl rfl (by kernel_rfl)) rfl) ?_
  exact .nil
 clear hS
 intro cy cT hS ai hp
 replace hS := (((((hS.nil).cons (hS.get 6 rfl)).cons (hS.get 5 rfl)).cons (hS.get 4 rfl)).cons (hS.get 3 rfl)).cons (hS.get 2 rfl)
 have bW : sl _ 17 = .int .i64 (wrap64 (255 + 1)) := hp 2 (by decide)
 have bX : sl _ 18 = .pointer (some ⟨ae, 1, none⟩) := hp 3 (by decide)
 have hS := hS.cons bW
 have hS := hS.cons bX
 clear hp bW bX
 show wpList _ _ _ [_] _ _
 refine list_step rfl (does_store (g := ae) (off := 1) (v := .int .i64 (wrap64 (255 + 1))) (new := #[.int .i64 255, .int .i64 (wrap64 (255 + 1)), .int .i64 65535]) rfl (hS.get 0 rfl) (hS.get 1 rfl) ((ai.2.2.2.block ae (blk_lt aQ)).trans aQ) (by kernel_rfl) (by kernel_rfl) (by kernel_rfl) (by kernel_rfl)) ?_
 rintro cH cb ⟨rfl, a1, hT⟩
 have bK := hT.blk ((ai.2.2.2.block ad (blk_lt a0)).trans a0) (Ne.symm au)
 have aR := hT.blk ((ai.2.2.2.block af (blk_lt bI)).trans bI) aw
 have bL := hT.blk ((ai.2.2.2.block ag (blk_lt bJ)).trans bJ) ay
 have bt := hT.below ai.1 (Nat.le_trans (ac).size am) (ai.1).size
 have bd := hT.below ai.2.1 (Nat.le_trans (ab).size am) (ai.2.1).size
 have be := hT.below ai.2.2.1 am (ai.2.2.1).size
 clear hT
 refine wpList_nil ?_
 refine cm _ _ ?_
 refine wp_seq_k (fun cM cn => ?_)
 refine reg_seq_tail 4 (I := I4_ w w3 w8 cb) (ps := [VP af 2, VI 65535, VI (wrap64 (65535 + 1)), VP af 2]) (by kernel_rfl) ?_ ?_ rfl hS ⟨bt, bd, be, (bR cb)⟩ ?_ ?_
 ·exact bs4
 ·exact .v (.v (.v (.v (.nil))))
 ·refine .on rfl (fun a w hS hI hp => does_val (x_fieldE (b := 0) rfl (hS.get 3 rfl) Try.underlying26 rfl rfl (by kernel_rfl)) rfl) ?_
  refine .on rfl (fun a w hS hI hp => does_val (x_load1 (d := .int .i64) rfl (hp.V 0 rfl rfl) (by kernel_rfl) rfl ((blk_cell (((hI.2.2.2).block af (blk_lt aR)).trans aR) 2).trans rfl)) rfl) ?_
  refine .on rfl (fun a w hS hI hp => does_val (x_bin rfl (hp.V 1 rfl rfl) (rfl) (b_add _ _ _ _ _)) rfl) ?_
  refine .on rfl (fun a w hS hI hp => does_val (x_fieldE (b := 0) rfl (hS.get 3 rfl) Try.underlying26 rfl rfl (by kernel_rfl)) rfl) ?_
  exact .nil
 clear hS
 intro cz cU hS aj hp
 replace hS := (((((hS.nil).cons (hS.get 6 rfl)).cons (hS.get 5 rfl)).cons (hS.get 4 rfl)).cons (hS.get 3 rfl)).cons (hS.get 2 rfl)
 have bY : sl _ 21 = .int .i64 (wrap64 (65535 + 1)) := hp 2 (by decide)
 have bZ : sl _ 22 = .pointer (some ⟨af, 2, none⟩) := hp 3 (by decide)
 have hS := hS.cons bY
 have hS := hS.cons bZ
 clear hp bY bZ
 show wpList _ _ _ [_] _ _
 refine list_step rfl (does_store (g := af) (off := 2) (v := .int .i64 (wrap64 (65535 + 1))) (new := #[.int .i64 255, .int .i64 255, .int .i64 (wrap64 (65535 + 1))]) rfl (hS.get 0 rfl) (hS.get 1 rfl) ((aj.2.2.2.block af (blk_lt aR)).trans aR) (by kernel_rfl) (by kernel_rfl) (by kernel_rfl) (by kernel_rfl)) ?_
 rintro cI cc ⟨rfl, a2, hT⟩
 have bM := hT.blk ((aj.2.2.2.block ad (blk_lt bK)).trans bK) (Ne.symm av)
 have bN := hT.blk ((aj.2.2.2.block ae (blk_lt a1)).trans a1) (Ne.symm aw)
 have bO := hT.blk ((aj.2.2.2.block ag (blk_lt bL)).trans bL) az
 have bu := hT.below aj.1 (Nat.le_trans (ac).size an) (aj.1).size
 have bf := hT.below aj.2.1 (Nat.le_trans (ab).size an) (aj.2.1).size
 have bg := hT.below aj.2.2.1 an (aj.2.2.1).size
 clear hT
 refine wpList_nil ?_
 refine cn _ _ ?_
 refine wp_seq_k (fun cN co => ?_)
 refine reg_seq_tail 1 (I := I4_ w w3 w8 cc) (ps := [VP ag 0]) (by kernel_rfl) ?_ ?_ rfl hS ⟨bu, bf, bg, (bR cc)⟩ ?_ ?_
 ·exact bs4
 ·exact .v (.nil)
 ·refine .on rfl (fun a w hS hI hp => does_val (x_fieldE (b := 0) rfl (hS.get 2 rfl) Try.underlying26 rfl rfl (by kernel_rfl)) rfl) ?_
  exact .nil
 clear hS
 intro cA cV hS ak hp
 replace hS := (((((hS.nil).cons (hS.get 6 rfl)).cons (hS.get 5 rfl)).cons (hS.get 4 rfl)).cons (hS.get 3 rfl)).cons (hS.get 2 rfl)
 have b0 : sl _ 23 = .pointer (some ⟨ag, 0, none⟩) := hp 0 (by decide)
 have hS := hS.cons b0
 clear hp b0
 show wpList _ _ _ [_] _ _
 refine list_step rfl (does_store (g := ag) (off := 0) (v := .int .i64 (-1)) (new := #[.int .i64 (-1), .int .i64 255, .int .i64 65535]) rfl (hS.get 0 rfl) (rfl) ((ak.2.2.2.block ag (blk_lt bO)).trans bO) (by kernel_rfl) (by kernel_rfl) (by kernel_rfl) (by kernel_rfl)) ?_
 rintro cJ b1 ⟨rfl, a3, hT⟩
 have bP := hT.blk ((ak.2.2.2.block ad (blk_lt bM)).trans bM) (Ne.symm ax)
 have bQ := hT.blk ((ak.2.2.2.block ae (blk_lt bN)).trans bN) (Ne.symm ay)
 have bS := hT.blk ((ak.2.2.2.block af (blk_lt a2)).trans a2) (Ne.symm az)
 have bv := hT.below ak.1 (Nat.le_trans (ac).size ao) (ak.1).size
 have bh := hT.below ak.2.1 (Nat.le_trans (ab).size ao) (ak.2.1).size
 have bi := hT.below ak.2.2.1 ao (ak.2.2.1).size
 clear hT
 refine wpList_nil ?_
 refine co _ _ ?_
 refine wp_seq_k (fun cO cp => ?_)
 refine reg_seq (I := I4_ w w3 w8 b1) (ps := [IsV (.agg #[.int .i64 255, .int .i64 255, .int .i64 65535]), VB bm, VB bm, IsV (.agg #[.int .i64 0, .int .i64 0, .int .i64 0]), VB a8, VB a8, VB a8, IsV (.agg #[.int .i64 (wrap64 (255 + 1)), .int .i64 255, .int .i64 65535]), VB aL, VB (!aL), VB (!aL), VB (!aL), IsV (.agg #[.int .i64 255, .int .i64 (wrap64 (255 + 1)), .int .i64 65535]), VB aM, VB (!aM), VB (!aM), VB (!aM), IsV (.agg #[.int .i64 255, .int .i64 255, .int .i64 (wrap64 (65535 + 1))]), VB aN, VB (!aN), VB (!aN), VB (!aN), IsV (.agg #[.int .i64 (-1), .int .i64 255, .int .i64 65535]), VB aO, VB (!aO), VB (!aO), VB (!aO), IsV (.agg #[.int .i64 255, .int .i64 255, .int .i64 65535]), IsR (Kd.int .u8) 5 b1.heap.size aG, IsV (.string (strOfNums aG)), VB ((strOfNums aG).toList == (⟨#[255, 255, 255, 255]⟩ : ByteArray).toList), VB ((strOfNums aG).toList == (⟨#[255, 255, 255, 255]⟩ : ByteArray).toList), VB ((strOfNums aG).toList == (⟨#[255, 255, 255, 255]⟩ : ByteArray).toList), VB a9, VB a9, VB a9]) (by kernel_rfl) ?_ ?_ rfl hS ⟨bv, bh, bi, (bR b1)⟩ ?_ ?_
 ·exact bs4
 ·exact .v (.v (.v (.v (.v (.v (.v (.v (.v (.v (.v (.v (.v (.v (.v (.v (.v (.v (.v (.v (.v (.v (.v (.v (.v (.v (.v (.v (.cons (Stays.r _ _ _ _) (.v (.v (.v (.v (.v (.v (.v (.nil))))))))))))))))))))))))))))))))))))
 ·refine .on rfl (fun a w hS hI hp => does_loadrow rfl (hS.get 5 rfl) (((hI.2.2.1).block g7 (blk_lt aa)).trans aa) Try.underlying26 rfl (by kernel_rfl) rfl) ?_
  refine .on rfl (fun a w hS hI hp => does_call (by kernel_rfl) (ar1 (hp.V 0 rfl rfl)) ((quality_May.calls 255 255 65535 bm _  cd).mono fun _ _ h => ⟨_, h.1, h.2, rfl⟩)) ?_
  refine .mv 1 rfl rfl rfl rfl ?_
  refine .oy 2 26 rfl rfl rfl rfl rfl c1 (fun a w hS hI hp => does_val (x_build (vs := []) rfl (by rw [Array.toList_map]; exact (show [] = _ from rfl)) (by kernel_rfl)) rfl) ?_
  refine .oy 2 26 rfl rfl rfl rfl rfl c1 (fun a w hS hI hp => does_call (by kernel_rfl) (ar1 (hp.V 3 rfl rfl)) ((quality_May.calls 0 0 0 a8 _  ce).mono fun _ _ h => ⟨_, h.1, h.2, rfl⟩)) ?_
  refine .pt 2 4 rfl rfl rfl rfl c1 rfl rfl ?_
  refine .mv 5 rfl rfl rfl rfl ?_
  refine .oy 6 30 rfl rfl rfl rfl rfl c2 (fun a w hS hI hp => does_loadrow rfl (hS.get 4 rfl) (((hI.2.2.2).block ad (blk_lt bP)).trans bP) Try.underlying26 rfl (by kernel_rfl) rfl) ?_
  refine .oy 6 30 rfl rfl rfl rfl rfl c2 (fun a w hS hI hp => does_call (by kernel_rfl) (ar1 (hp.V 7 rfl rfl)) ((quality_May.calls (wrap64 (255 + 1)) 255 65535 aL _  cf).mono fun _ _ h => ⟨_, h.1, h.2, rfl⟩)) ?_
  refine .oy 6 30 rfl rfl rfl rfl rfl c2 (fun a w hS hI hp => does_val (x_not rfl (hp.V 8 rfl rfl)) rfl) ?_
  refine .pt 6 9 rfl rfl rfl rfl c2 rfl rfl ?_
  refine .mv 10 rfl rfl rfl rfl ?_
  refine .oy 11 35 rfl rfl rfl rfl rfl ((congrArg (!·) (Bool.eq_false_iff.2 c3))) (fun a w hS hI hp => does_loadrow rfl (hS.get 3 rfl) (((hI.2.2.2).block ae (blk_lt bQ)).trans bQ) Try.underlying26 rfl (by kernel_rfl) rfl) ?_
  refine .oy 11 35 rfl rfl rfl rfl rfl ((congrArg (!·) (Bool.eq_false_iff.2 c3))) (fun a w hS hI hp => does_call (by kernel_rfl) (ar1 (hp.V 12 rfl rfl)) ((quality_May.calls 255 (wrap64 (255 + 1)) 65535 aM _  cg).mono fun _ _ h => ⟨_, h.1, h.2, rfl⟩)) ?_
  refine .oy 11 35 rfl rfl rfl rfl rfl ((congrArg (!·) (Bool.eq_false_iff.2 c3))) (fun a w hS hI hp => does_val (x_not rfl (hp.V 13 rfl rfl)) rfl) ?_
  refine .pt 11 14 rfl rfl rfl rfl ((congrArg (!·) (Bool.eq_false_iff.2 c3))) rfl rfl ?_
  refine .mv 15 rfl rfl rfl rfl ?_
  refine .oy 16 40 rfl rfl rfl rfl rfl ((congrArg (!·) (Bool.eq_false_iff.2 c4))) (fun a w hS hI hp => does_loadrow rfl (hS.get 2 rfl) (((hI.2.2.2).block af (blk_lt bS)).trans bS) Try.underlying26 rfl (by kernel_rfl) rfl) ?_
  refine .oy 16 40 rfl rfl rfl rfl rfl ((congrArg (!·) (Bool.eq_false_iff.2 c4))) (fun a w hS hI hp => does_call (by kernel_rfl) (ar1 (hp.V 17 rfl rfl)) ((quality_May.calls 255 255 (wrap64 (65535 + 1)) aN _  ch).mono fun _ _ h => ⟨_, h.1, h.2, rfl⟩)) ?_
  refine .oy 16 40 rfl rfl rfl rfl rfl ((congrArg (!·) (Bool.eq_false_iff.2 c4))) (fun a w hS hI hp => does_val (x_not rfl (hp.V 18 rfl rfl)) rfl) ?_
  refine .pt 16 19 rfl rfl rfl rfl ((congrArg (!·) (Bool.eq_false_iff.2 c4))) rfl rfl ?_
  refine .mv 20 rfl rfl rfl rfl ?_
  refine .oy 21 45 rfl rfl rfl rfl rfl ((congrArg (!·) (Bool.eq_false_iff.2 c5))) (fun a w hS hI hp => does_loadrow rfl (hS.get 1 rfl) (((hI.2.2.2).block ag (blk_lt a3)).trans a3) Try.underlying26 rfl (by kernel_rfl) rfl) ?_
  refine .oy 21 45 rfl rfl rfl rfl rfl ((congrArg (!·) (Bool.eq_false_iff.2 c5))) (fun a w hS hI hp => does_call (by kernel_rfl) (ar1 (hp.V 22 rfl rfl)) ((quality_May.calls (-1) 255 65535 aO _  ci).mono fun _ _ h => ⟨_, h.1, h.2, rfl⟩)) ?_
  refine .oy 21 45 rfl rfl rfl rfl rfl ((congrArg (!·) (Bool.eq_false_iff.2 c5))) (fun a w hS hI hp => does_val (x_not rfl (hp.V 23 rfl rfl)) rfl) ?_
  refine .pt 21 24 rfl rfl rfl rfl ((congrArg (!·) (Bool.eq_false_iff.2 c5))) rfl rfl ?_
  refine .mv 25 rfl rfl rfl rfl ?_
  refine .oy 26 50 rfl rfl rfl rfl rfl ((congrArg (!·) (Bool.eq_false_iff.2 c6))) (fun a w hS hI hp => does_loadrow rfl (hS.get 5 rfl) (((hI.2.2.1).block g7 (blk_lt aa)).trans aa) Try.underlying26 rfl (by kernel_rfl) rfl) ?_
  refine .oy 26 50 rfl rfl rfl rfl rfl ((congrArg (!·) (Bool.eq_false_iff.2 c6))) (fun a w hS hI hp => does_call (by kernel_rfl) (ar2 (rfl) (hp.V 27 rfl rfl)) ((quality_Put.calls _ _ [] 255 255 65535 aG _ (Kd.C_nil _ _) (Nat.le_refl _) cj).mono fun _ _ h => h.elim fun v0 h => ⟨v0, h.1, h.2.2, Kd.R_lower h.2.1 hI.2.2.2.size⟩)) ?_
  refine .oy 26 50 rfl rfl rfl rfl rfl ((congrArg (!·) (Bool.eq_false_iff.2 c6))) (fun a w hS hI hp => (IsC.of_r (hp.V 28 rfl rfl)).elim fun A_ h_ => h_.elim fun c_ h_ => h_.elim fun hv_ h_ => h_.elim fun hl_ hc_ => does_val (x_conv rfl hv_ (Kd.C_string (by kernel_rfl) (e := 5) (by kernel_rfl) (by kernel_rfl) hc_)) rfl) ?_
  refine .oy 26 50 rfl rfl rfl rfl rfl ((congrArg (!·) (Bool.eq_false_iff.2 c6))) (fun a w hS hI hp => does_val (x_bin rfl (hp.V 29 rfl rfl) (rfl) (b_eqs _ _ _ _ _)) rfl) ?_
  refine .pt 26 30 rfl rfl rfl rfl ((congrArg (!·) (Bool.eq_false_iff.2 c6))) rfl rfl ?_
  refine .mv 31 rfl rfl rfl rfl ?_
  refine .oy 32 56 rfl rfl rfl rfl rfl c7 (fun a w hS hI hp => does_call (by kernel_rfl) rfl ((carillonlaw05_awake.calls k  a9 _  ck).mono fun _ _ h => ⟨_, h.1, h.2, rfl⟩)) ?_
  refine .pt 32 33 rfl rfl rfl rfl c7 rfl rfl ?_
  refine .asg 34 rfl rfl rfl rfl ?_
  exact .nil
 clear hS
 intro cB cW hS cq hp
 replace hS := hS.nil
 have b2 : sl _ 0 = .bool a9 := hp 35 (by decide)
 have hS := hS.cons b2
 clear hp b2
 refine cp _ _ ?_
 refine wp_ret ?_
 (try simp only [Exit.then, Exit.inBlock, Exit.jump, Exit.noGoto])
 exact bodyPost_ret (v := .bool true) (by rw [results_tmp rfl]; exact congrArg (Result.ok · _) ((hS.get 0 rfl).trans (congrArg Value.bool hret))) hS.nodef ⟨rfl, cq.1⟩
def carillonlaw05_QualityLimits.Pure : Prop := ∃ k, carillonlaw05_QualityLimits.f k  = some true
theorem carillonlaw05_QualityLimits.walk (P : carillonlaw05_QualityLimits.Pure)  (w : World)  :
  Calls Try.prog 7 #[] w fun e w' => e = .returned (.bool true) ∧ Below w.heap.size w w' := by
 obtain ⟨k, h⟩ := P  
 refine (carillonlaw05_QualityLimits.calls k  w  h).mono ?_
 rintro e w' ⟨rfl, hd⟩
 exact ⟨rfl, hd⟩
end Go.Proofs.Ytmfahcabdkajnaa.P
