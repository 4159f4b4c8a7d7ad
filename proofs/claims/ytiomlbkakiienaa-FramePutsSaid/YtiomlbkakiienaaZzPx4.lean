/- Functions and loops of the given program as Lean functions, and that the code comes to what they say: written by this session's own program; Lean checks it. -/
import Derived.Test.YtiomlbkakiienaaZzPx0
import Derived.Test.YtiomlbkakiienaaZzPx1
import Derived.Test.YtiomlbkakiienaaZzPx2
import Derived.Test.YtiomlbkakiienaaZzPx3
namespace Go.Proofs.Ytiomlbkakiienaa.P
open Go.RowKit Go.Proofs.YtiomlbkakiienaaW.PrintWords Go.Proofs.YtiomlbkakiienaaW.PrintLast Go.Proofs.YtiomlbkakiienaaW.PrintMore
attribute [local go_sem] max2_int min2_int max_two min_two max_three min_three max_four min_four   -- for this text's walks alone
set_option linter.unusedVariables false
set_option linter.unusedSimpArgs false
def header_Put.f (k : Nat) (a0_0 a0_1 a0_2 a0_3 a0_4 a0_5 a0_6 a0_7 a0_8 a0_9 a0_10 a0_11 a0_12 a0_13 a0_14 a0_15 a0_16 a0_17 a0_18 a0_19 a0_20 a0_21 a0_22 a1 : Int) : Option (List Int × Bool) := (header_Check.f k a0_0 a0_1 a0_2 a0_3 a0_4 a0_5 a0_6 a0_7 a0_8 a0_9 a0_10 a0_11 a0_12 a0_13 a0_14 a0_15 a0_16 a0_17 a0_18 a0_19 a0_20 a0_21 a0_22).bind fun t7 => (if t7 = true then ((header_in.f a1 34 400).bind fun t8 => (if t8 = true then ((octets_Put.f [IntKind.u8.wrap a0_0, 18] a1 2).bind fun t12 => ((octets_Put.f t12 a0_1 1).bind fun t17 => ((octets_Put.f t17 0 1).bind fun t18 => ((octets_Put.f t18 a0_2 2).bind fun t25 => ((octets_Put.f t25 a0_3 8).bind fun t26 => ((octets_Put.f t26 0 4).bind fun t33 => ((ident_Put.f t33 a0_4 a0_5).bind fun t34 => ((octets_Put.f t34 a0_6 2).bind fun t41 => ((header_control.f a0_0).bind fun t42 => ((octets_Put.f t41 t42 1).bind fun t43 => ((octets_Put.f t43 a0_7 1).bind fun t44 => (some (t44, true))))))))))))) else (some ([], false)))) else (some ([], false)))
abbrev header_Put.v0 (x0 x1 x2 x3 x4 x5 x6 x7 x8 x9 x10 x11 x12 x13 x14 x15 x16 x17 x18 x19 x20 x21 x22 : Int) : Value := .agg #[.int .i64 x0, .int .i64 x1, .int .i64 x2, .int .i64 x3, .int .u64 x4, .int .i64 x5, .int .i64 x6, .int .i64 x7, .int .i64 x8, .int .u64 x9, .int .i64 x10, .int .i64 x11, .int .i64 x12, .int .i64 x13, .int .i64 x14, .int .i64 x15, .int .i64 x16, .int .u64 x17, .int .i64 x18, .int .i64 x19, .int .i64 x20, .int .i64 x21, .int .i64 x22]
abbrev header_Put.c1 (x0 x1 x2 x3 x4 x5 x6 x7 x8 x9 x10 x11 x12 x13 x14 x15 x16 x17 x18 x19 x20 x21 x22 : Int) : Array Value := #[.int .i64 x0, .int .i64 x1, .int .i64 x2, .int .i64 x3, .int .u64 x4, .int .i64 x5, .int .i64 x6, .int .i64 x7, .int .i64 x8, .int .u64 x9, .int .i64 x10, .int .i64 x11, .int .i64 x12, .int .i64 x13, .int .i64 x14, .int .i64 x15, .int .i64 x16, .int .u64 x17, .int .i64 x18, .int .i64 x19, .int .i64 x20, .int .i64 x21, .int .i64 x22]
open Go.Proofs.Ytiomlbkakiienaa.E in
set_option maxHeartbeats 60000000 in
set_option maxRecDepth 100000 in
theorem header_Put.calls (k : Nat) (ab ak al am ag ah an ao aO aP av aw ax ay az aA aB aC aD aE aF aG aH a1 : Int) (r1 : List Int) (r2 : Bool) (w : World) (h : header_Put.f k ab ak al am ag ah an ao aO aP av aw ax ay az aA aB aC aD aE aF aG aH a1 = some (r1, r2)) :
    Calls Try.prog 22 #[.agg #[.int .i64 ab, .int .i64 ak, .int .i64 al, .int .i64 am, .int .u64 ag, .int .i64 ah, .int .i64 an, .int .i64 ao, .int .i64 aO, .int .u64 aP, .int .i64 av, .int .i64 aw, .int .i64 ax, .int .i64 ay, .int .i64 az, .int .i64 aA, .int .i64 aB, .int .u64 aC, .int .i64 aD, .int .i64 aE, .int .i64 aF, .int .i64 aG, .int .i64 aH], .int .i64 a1] w fun e w' => ∃ v0_ : Value, e = .returned (.tuple #[v0_, .bool r2]) ∧ Kd.R (Kd.int .u8) 5 w' w.heap.size (fun _ => True) v0_ r1 ∧ Below w.heap.size w w' := by
 have H := h
 clear h
 unfold header_Put.f at H
 obtain ⟨t7, bt, H⟩ := Option.bind_eq_some_iff.mp H
 refine calls_of_wp (fn := Try.f22) (by kernel_rfl) rfl ?_
 have hS := St.enter #[(header_Put.v0 ab ak al am ag ah an ao aO aP av aw ax ay az aA aB aC aD aE aF aG aH), .int .i64 a1] 49 (by simp) [(0, (header_Put.v0 ab ak al am ag ah an ao aO aP av aw ax ay az aA aB aC aD aE aF aG aH)), (1, .int .i64 a1)] (by simp)
 have ce := Below.refl w.heap.size w
 refine wp_seq_k (fun K1 cg => ?_)
 refine reg_seq (I := I1_ w) (ps := [IsB (header_Put.c1 ab ak al am ag ah an ao aO aP av aw ax ay az aA aB aC aD aE aF aG aH) 28 w.heap.size, IsV (.slice none 0 0), VB false]) (by kernel_rfl) ?_ ?_ rfl hS ce ?_ ?_
 ·exact bs1
 ·exact .cons (Stays.b _ _ _) (.v (.v (.nil)))
 ·refine .on rfl (fun a w hS hI hp => does_var (x_box rfl (congrArg Value.cells (hS.get 0 rfl))) (hI).size) ?_
  iterate 2 refine .on rfl (fun a w hS hI hp => does_val (x_assign rfl (rfl)) rfl) ?_
  exact .nil
 clear hS
 intro cF w3 hS bD hp
 replace hS := (hS.nil).cons (hS.get 1 rfl)
 obtain ⟨g4, bC, ci, aa⟩ := (show IsB _ 28 _ (sl _ 2) _ from hp 0 (by decide))
 have hS := hS.cons bC
 clear hp bC
 refine cg _ _ ?_
 refine wp_seq_k (fun K5 ch => ?_)
 refine wp_seq_k (fun K6 bB => ?_)
 by_cases c1 : t7 = true
 rotate_left
 ·rw [if_neg c1] at H
  simp only [Option.some.injEq, Prod.mk.injEq] at H
  obtain ⟨rfl, rfl⟩ := H
  refine reg_seq (I := I2_ w w3) (ps := [IsV ((header_Put.v0 ab ak al am ag ah an ao aO aP av aw ax ay az aA aB aC aD aE aF aG aH)), VB t7, VB (!t7), VB (!t7), VU, VU, VU, VB true]) (by kernel_rfl) ?_ ?_ rfl hS ⟨bD, (bR w3)⟩ ?_ ?_
  ·exact bs2
  ·exact .v (.v (.v (.v (.v (.v (.v (.v (.nil))))))))
  ·refine .on rfl (fun a w hS hI hp => does_loadrow rfl (hS.get 0 rfl) (((hI.2).block g4 (blk_lt aa)).trans aa) Try.underlying28 rfl (by kernel_rfl) rfl) ?_
   refine .on rfl (fun a w hS hI hp => does_call (by kernel_rfl) (ar1 (hp.V 0 rfl rfl)) ((header_Check.calls (w := _) (h := bt)).mono fun _ _ h => ⟨_, h.1, h.2, rfl⟩)) ?_
   refine .on rfl (fun a w hS hI hp => does_val (x_not rfl (hp.V 1 rfl rfl)) rfl) ?_
   refine .mv 2 rfl rfl rfl ?_
   iterate 3 refine .sn 3 10 rfl rfl ((congrArg (!·) (Bool.eq_false_iff.2 c1))) ?_
   refine .on rfl (fun a w hS hI hp => does_val (x_pickT rfl ((hp.V 3 rfl rfl).trans (bT (congrArg (!·) (Bool.eq_false_iff.2 c1)))) (rfl)) rfl) ?_
   exact .nil
  clear hS
  intro cG w9 hS bE hp
  have aI : sl _ 14 = .bool true := hp 7 (by decide)
  have hS := hS.cons aI
  clear hp aI
  refine bB _ _ ?_
  refine wp_cond_true ((hS.get 0 rfl).trans (bT rfl)) ?_
  refine wp_seq_k (fun cA bS => ?_)
  refine reg_seq (I := I3_ w w3 w9) (ps := [IsV (.slice none 0 0), VB false]) (by kernel_rfl) ?_ ?_ rfl hS ⟨bE.1, bE.2, (bR w9)⟩ ?_ ?_
  ·exact bs3
  ·exact .v (.v (.nil))
  ·refine .on rfl (fun a w hS hI hp => does_val (x_assign rfl (rfl)) rfl) ?_
   refine .on rfl (fun a w hS hI hp => does_val (x_assign rfl (rfl)) rfl) ?_
   exact .nil
  clear hS
  intro cj cI hS b7 hp
  replace hS := hS.nil
  have ai : sl _ 4 = .slice none 0 0 := hp 0 (by decide)
  have ap : sl _ 5 = .bool false := hp 1 (by decide)
  have hS := hS.cons ai
  have hS := hS.cons ap
  clear hp ai ap
  refine bS _ _ ?_
  refine wp_ret ?_
  (try simp only [Exit.then, Exit.inBlock, Exit.jump, Exit.noGoto])
  exact bodyPost_ret (v := .tuple #[.slice none 0 0, .bool false]) (results_list (rs := [.tmp 4, .tmp 5]) rfl (by simp) (Vals.at (hS.get 1 rfl) (Vals.at (hS.get 0 rfl) .nil))) hS.nodef ⟨.slice none 0 0, rfl, Kd.R_nil _ _ _ _ _, b7.1⟩
 rw [if_pos c1] at H
 obtain ⟨t8, cd, H⟩ := Option.bind_eq_some_iff.mp H
 refine reg_seq (I := I2_ w w3) (ps := [IsV ((header_Put.v0 ab ak al am ag ah an ao aO aP av aw ax ay az aA aB aC aD aE aF aG aH)), VB t7, VB (!t7), VB (!t7), VI a1, VB t8, VB (!t8), VB (!t8)]) (by kernel_rfl) ?_ ?_ rfl hS ⟨bD, (bR w3)⟩ ?_ ?_
 ·exact bs2
 ·exact .v (.v (.v (.v (.v (.v (.v (.v (.nil))))))))
 ·refine .on rfl (fun a w hS hI hp => does_loadrow rfl (hS.get 0 rfl) (((hI.2).block g4 (blk_lt aa)).trans aa) Try.underlying28 rfl (by kernel_rfl) rfl) ?_
  refine .on rfl (fun a w hS hI hp => does_call (by kernel_rfl) (ar1 (hp.V 0 rfl rfl)) ((header_Check.calls (w := _) (h := bt)).mono fun _ _ h => ⟨_, h.1, h.2, rfl⟩)) ?_
  refine .on rfl (fun a w hS hI hp => does_val (x_not rfl (hp.V 1 rfl rfl)) rfl) ?_
  refine .mv 2 rfl rfl rfl ?_
  refine .oy 3 10 rfl rfl ((congrArg (!·) c1)) (fun a w hS hI hp => does_val (x_move rfl (hS.get 1 rfl)) rfl) ?_
  refine .oy 3 10 rfl rfl ((congrArg (!·) c1)) (fun a w hS hI hp => does_call (by kernel_rfl) (ar3 (hp.V 4 rfl rfl) (rfl) (rfl)) ((header_in.calls a1 34 400 t8 _  cd).mono fun _ _ h => ⟨_, h.1, h.2.below, rfl⟩)) ?_
  refine .oy 3 10 rfl rfl ((congrArg (!·) c1)) (fun a w hS hI hp => does_val (x_not rfl (hp.V 5 rfl rfl)) rfl) ?_
  refine .on rfl (fun a w hS hI hp => does_val (x_pickF rfl ((hp.V 3 rfl rfl).trans (bF (congrArg (!·) c1))) (hp.V 6 rfl rfl)) rfl) ?_
  exact .nil
 clear hS
 intro cH ac hS aQ hp
 have aI : sl _ 14 = .bool (!t8) := hp 7 (by decide)
 have hS := hS.cons aI
 clear hp aI
 refine bB _ _ ?_
 by_cases c2 : t8 = true
 rotate_left
 ·rw [if_neg c2] at H
  simp only [Option.some.injEq, Prod.mk.injEq] at H
  obtain ⟨rfl, rfl⟩ := H
  refine wp_cond_true ((hS.get 0 rfl).trans (bT (congrArg (!·) (Bool.eq_false_iff.2 c2)))) ?_
  refine wp_seq_k (fun cf a8 => ?_)
  refine reg_seq (I := I3_ w w3 ac) (ps := [IsV (.slice none 0 0), VB false]) (by kernel_rfl) ?_ ?_ rfl hS ⟨aQ.1, aQ.2, (bR ac)⟩ ?_ ?_
  ·exact bs3
  ·exact .v (.v (.nil))
  ·refine .on rfl (fun a w hS hI hp => does_val (x_assign rfl (rfl)) rfl) ?_
   refine .on rfl (fun a w hS hI hp => does_val (x_assign rfl (rfl)) rfl) ?_
   exact .nil
  clear hS
  intro ck cJ hS b8 hp
  replace hS := hS.nil
  have ai : sl _ 4 = .slice none 0 0 := hp 0 (by decide)
  have ap : sl _ 5 = .bool false := hp 1 (by decide)
  have hS := hS.cons ai
  have hS := hS.cons ap
  clear hp ai ap
  refine a8 _ _ ?_
  refine wp_ret ?_
  (try simp only [Exit.then, Exit.inBlock, Exit.jump, Exit.noGoto])
  exact bodyPost_ret (v := .tuple #[.slice none 0 0, .bool false]) (results_list (rs := [.tmp 4, .tmp 5]) rfl (by simp) (Vals.at (hS.get 1 rfl) (Vals.at (hS.get 0 rfl) .nil))) hS.nodef ⟨.slice none 0 0, rfl, Kd.R_nil _ _ _ _ _, b8.1⟩
 rw [if_pos c2] at H
 obtain ⟨aq, bG, H⟩ := Option.bind_eq_some_iff.mp H
 obtain ⟨bl, bH, H⟩ := Option.bind_eq_some_iff.mp H
 obtain ⟨ad, bI, H⟩ := Option.bind_eq_some_iff.mp H
 obtain ⟨bm, bJ, H⟩ := Option.bind_eq_some_iff.mp H
 obtain ⟨ae, bK, H⟩ := Option.bind_eq_some_iff.mp H
 obtain ⟨bn, bL, H⟩ := Option.bind_eq_some_iff.mp H
 obtain ⟨af, bM, H⟩ := Option.bind_eq_some_iff.mp H
 obtain ⟨bo, bN, H⟩ := Option.bind_eq_some_iff.mp H
 obtain ⟨bp, bO, H⟩ := Option.bind_eq_some_iff.mp H
 obtain ⟨bq, bP, H⟩ := Option.bind_eq_some_iff.mp H
 obtain ⟨ar, bQ, H⟩ := Option.bind_eq_some_iff.mp H
 simp only [Option.some.injEq, Prod.mk.injEq] at H
 obtain ⟨rfl, rfl⟩ := H
 refine wp_cond_false ((hS.get 0 rfl).trans (bF (congrArg (!·) c2))) ?_
 refine wp_skip ?_
 refine ch _ _ ?_
 refine wp_seq_k (fun cf a8 => ?_)
 refine reg_seq (I := I3_ w w3 ac) (ps := [VP g4 0, VI ab, IsV (.int .u8 (IntKind.u8.wrap ab)), IsR (Kd.int .u8) 5 ac.heap.size [IntKind.u8.wrap ab, 18], VI a1, IsR (Kd.int .u8) 5 ac.heap.size aq, IsR (Kd.int .u8) 5 ac.heap.size aq]) (by kernel_rfl) ?_ ?_ rfl hS ⟨aQ.1, aQ.2, (bR ac)⟩ ?_ ?_
 ·exact bs3
 ·exact .v (.v (.v (.cons (Stays.r _ _ _ _) (.v (.cons (Stays.r _ _ _ _) (.cons (Stays.r _ _ _ _) (.nil)))))))
 ·refine .on rfl (fun a w hS hI hp => does_val (x_fieldE (b := 0) rfl (hS.get 1 rfl) Try.underlying28 rfl rfl (by kernel_rfl)) rfl) ?_
  refine .on rfl (fun a w hS hI hp => does_val (x_load1 (d := .int .i64) rfl (hp.V 0 rfl rfl) (by kernel_rfl) rfl ((blk_cell (((hI.2.1).block g4 (blk_lt aa)).trans aa) 0).trans rfl)) rfl) ?_
  refine .on rfl (fun a w hS hI hp => does_val (x_convI rfl (by kernel_rfl) (by kernel_rfl) (hp.V 1 rfl rfl)) rfl) ?_
  refine .on rfl (fun a w hS hI hp => does_lit ac.heap.size 36 5 2 _ [(0, .int .u8 (IntKind.u8.wrap ab)), (1, .int .u8 18)] [IntKind.u8.wrap ab, 18] rfl (by kernel_rfl) (by rw [Array.toList_map]; exact (show [(0, a.eval (.tmp 17)), (1, a.eval (.const (.int .u8 18)))] = _ from (li_cons (hp.V 2 rfl rfl) (li_cons (rfl) rfl)))) (by kernel_rfl) rfl (hI.2.2).size (Nat.le_of_ble_eq_true rfl)) ?_
  refine .ms 2 rfl rfl rfl ?_
  refine .on rfl (fun a w hS hI hp => (IsC.of_r (hp.V 3 rfl rfl)).elim fun A_ h_ => h_.elim fun c_ h_ => h_.elim fun hv_ h_ => h_.elim fun hl_ hc_ => does_call (by kernel_rfl) (ar3 (hv_) (hp.V 4 rfl rfl) (rfl)) ((octets_Put.calls _ _ [IntKind.u8.wrap ab, 18] a1 2 aq _ hc_ hl_ bG).mono fun _ _ h => h.elim fun v0 h => ⟨v0, h.1, h.2.2, Kd.R_lower h.2.1 hI.2.2.size⟩)) ?_
  refine .on rfl (fun a w hS hI hp => does_val (x_assign rfl rfl) (hp.V 5 rfl rfl)) ?_
  exact .nil
 clear hS
 intro cl aj hS bc hp
 replace hS := (hS.nil).cons (hS.get 1 rfl)
 obtain ⟨bs, bu, bk, b2, bY⟩ := Kd.R_reads (show Kd.R (Kd.int .u8) 5 aj ac.heap.size (fun _ => True) (sl _ 6) aq from hp 6 (by decide))
 have cw : Kd.R (Kd.int .u8) 5 aj ac.heap.size (fun _ => True) (.slice bs aq.length bu) aq := bk ▸ (hp 6 (by decide))
 have hS := hS.cons bk
 clear hp bk
 refine a8 _ _ ?_
 refine wp_seq_k (fun cB bU => ?_)
 refine reg_seq_tail 5 (I := I4_ w w3 ac aj) (ps := [IsV (.slice bs aq.length bu), VP g4 1, VI ak, IsR (Kd.int .u8) 5 aj.heap.size bl, IsR (Kd.int .u8) 5 aj.heap.size ad]) (by kernel_rfl) ?_ ?_ rfl hS ⟨bc.1, bc.2.1, bc.2.2, (bR aj)⟩ ?_ ?_
 ·exact bs4
 ·exact .v (.v (.v (.cons (Stays.r _ _ _ _) (.cons (Stays.r _ _ _ _) (.nil)))))
 ·refine .ms 0 rfl rfl rfl ?_
  refine .on rfl (fun a w hS hI hp => does_val (x_fieldE (b := 0) rfl (hS.get 1 rfl) Try.underlying28 rfl rfl (by kernel_rfl)) rfl) ?_
  refine .on rfl (fun a w hS hI hp => does_val (x_load1 (d := .int .i64) rfl (hp.V 1 rfl rfl) (by kernel_rfl) rfl ((blk_cell (((hI.2.1).block g4 (blk_lt aa)).trans aa) 1).trans rfl)) rfl) ?_
  refine .on rfl (fun a w hS hI hp => does_call (by kernel_rfl) (ar3 (hp.V 0 rfl rfl) (hp.V 2 rfl rfl) (rfl)) ((octets_Put.calls _ _ aq ak 1 bl _ (Kd.C_below bY hI.2.2.2) b2 bH).mono fun _ _ h => h.elim fun v0 h => ⟨v0, h.1, h.2.2, Kd.R_lower h.2.1 hI.2.2.2.size⟩)) ?_
  refine .on rfl (fun a w hS hI hp => (IsC.of_r (hp.V 3 rfl rfl)).elim fun A_ h_ => h_.elim fun c_ h_ => h_.elim fun hv_ h_ => h_.elim fun hl_ hc_ => does_call (by kernel_rfl) (ar3 (hv_) (rfl) (rfl)) ((octets_Put.calls _ _ bl 0 1 ad _ hc_ hl_ bI).mono fun _ _ h => h.elim fun v0 h => ⟨v0, h.1, h.2.2, Kd.R_lower h.2.1 hI.2.2.2.size⟩)) ?_
  exact .nil
 clear hS
 intro cm bd hS aR hp
 obtain ⟨aS, aV, a9, b3, bZ⟩ := Kd.R_reads (show Kd.R (Kd.int .u8) 5 bd aj.heap.size (fun _ => True) (sl _ 25) ad from hp 4 (by decide))
 have cx : Kd.R (Kd.int .u8) 5 bd aj.heap.size (fun _ => True) (.slice aS ad.length aV) ad := a9 ▸ (hp 4 (by decide))
 have hS := hS.cons a9
 clear hp a9
 show wpList _ _ _ [_] _ _
 refine list_step rfl (R := fun v w' => Below _ _ w' ∧ (IsV (.slice aS ad.length aV)) v w') (does_val (x_assign rfl (hS.get 0 rfl)) rfl) ?_
 rintro ca aL ⟨hb, he⟩
 have bg := below_step aR.1 hb
 have a5 := below_step aR.2.1 hb
 have bv := below_step aR.2.2.1 hb
 have aY := below_step aR.2.2.2 hb
 have aZ := below_step (bR bd) hb
 obtain rfl : ca = .slice aS ad.length aV := he
 replace hS := ((hS.nil).cons (hS.get 2 rfl)).cons (hS.get 0 rfl)
 refine hS.next (v := .slice aS ad.length aV) (d := 6) rfl (by decide) (by rfl) ?_
 clear hS
 intro cn hS
 refine wpList_nil ?_
 refine bU _ _ ?_
 refine wp_seq_k (fun cC bV => ?_)
 refine reg_any_tail 7 [0, 0, 2, 7, 0, 16, 63, 127] (I := I5_ w w3 aj bd aL) (ps := [IsV (.slice aS ad.length aV), VP g4 2, VI al, IsR (Kd.int .u8) 5 aL.heap.size bm, VP g4 3, VI am, IsR (Kd.int .u8) 5 aL.heap.size ae]) (by kernel_rfl) (by kernel_rfl) (by kernel_rfl) (by decide) ?_ ?_ rfl hS ⟨bg, a5, aY, aZ, (bR aL)⟩ ?_ ?_
 ·exact bs5
 ·exact .v (.v (.v (.cons (Stays.r _ _ _ _) (.v (.v (.cons (Stays.r _ _ _ _) (.nil)))))))
 ·refine .ms 0 rfl rfl rfl ?_
  refine .on rfl (fun a w hS hI hp => does_val (x_fieldE (b := 0) rfl (hS.get 2 rfl) Try.underlying28 rfl rfl (by kernel_rfl)) rfl) ?_
  refine .on rfl (fun a w hS hI hp => does_val (x_load1 (d := .int .i64) rfl (hp.V 1 rfl rfl) (by kernel_rfl) rfl ((blk_cell (((hI.2.1).block g4 (blk_lt aa)).trans aa) 2).trans rfl)) rfl) ?_
  refine .on rfl (fun a w hS hI hp => does_call (by kernel_rfl) (ar3 (hp.V 0 rfl rfl) (hp.V 2 rfl rfl) (rfl)) ((octets_Put.calls _ _ ad al 2 bm _ (Kd.C_below bZ hI.2.2.2.1) b3 bJ).mono fun _ _ h => h.elim fun v0 h => ⟨v0, h.1, h.2.2, Kd.R_lower h.2.1 hI.2.2.2.2.size⟩)) ?_
  refine .on rfl (fun a w hS hI hp => does_val (x_fieldE (b := 0) rfl (hS.get 2 rfl) Try.underlying28 rfl rfl (by kernel_rfl)) rfl) ?_
  refine .on rfl (fun a w hS hI hp => does_val (x_load1 (d := .int .i64) rfl (hp.V 4 rfl rfl) (by kernel_rfl) rfl ((blk_cell (((hI.2.1).block g4 (blk_lt aa)).trans aa) 3).trans rfl)) rfl) ?_
  refine .on rfl (fun a w hS hI hp => (IsC.of_r (hp.V 3 rfl rfl)).elim fun A_ h_ => h_.elim fun c_ h_ => h_.elim fun hv_ h_ => h_.elim fun hl_ hc_ => does_call (by kernel_rfl) (ar3 (hv_) (hp.V 5 rfl rfl) (rfl)) ((octets_Put.calls _ _ bm am 8 ae _ hc_ hl_ bK).mono fun _ _ h => h.elim fun v0 h => ⟨v0, h.1, h.2.2, Kd.R_lower h.2.1 hI.2.2.2.2.size⟩)) ?_
  exact .nil
 clear hS
 intro co be hS aJ hp
 replace hS := ((hS.nil).cons (hS.get 2 rfl)).cons (hS.get 0 rfl)
 obtain ⟨aT, aW, ba, b4, b0⟩ := Kd.R_reads (show Kd.R (Kd.int .u8) 5 be aL.heap.size (fun _ => True) (sl _ 32) ae from hp 6 (by decide))
 have cy : Kd.R (Kd.int .u8) 5 be aL.heap.size (fun _ => True) (.slice aT ae.length aW) ae := ba ▸ (hp 6 (by decide))
 have hS := hS.cons ba
 clear hp ba
 show wpList _ _ _ [_] _ _
 refine list_step rfl (R := fun v w' => Below _ _ w' ∧ (IsV (.slice aT ae.length aW)) v w') (does_val (x_assign rfl (hS.get 0 rfl)) rfl) ?_
 rintro cb aM ⟨hb, he⟩
 have bh := below_step aJ.1 hb
 have a6 := below_step aJ.2.1 hb
 have bw := below_step aJ.2.2.1 hb
 have bx := below_step aJ.2.2.2.1 hb
 have a0 := below_step aJ.2.2.2.2 hb
 have a2 := below_step (bR be) hb
 obtain rfl : cb = .slice aT ae.length aW := he
 replace hS := ((hS.nil).cons (hS.get 2 rfl)).cons (hS.get 0 rfl)
 refine hS.next (v := .slice aT ae.length aW) (d := 6) rfl (by decide) (by rfl) ?_
 clear hS
 intro cp hS
 refine wpList_nil ?_
 refine bV _ _ ?_
 refine wp_seq_k (fun cD bW => ?_)
 refine reg_any_tail 5 [0, 1, 0, 4, 15, 31] (I := I5_ w w3 aL be aM) (ps := [IsV (.slice aT ae.length aW), IsR (Kd.int .u8) 5 aM.heap.size bn, VP g4 4, IsV (.agg #[.int .u64 ag, .int .i64 ah]), IsR (Kd.int .u8) 5 aM.heap.size af]) (by kernel_rfl) (by kernel_rfl) (by kernel_rfl) (by decide) ?_ ?_ rfl hS ⟨bh, a6, a0, a2, (bR aM)⟩ ?_ ?_
 ·exact bs5
 ·exact .v (.cons (Stays.r _ _ _ _) (.v (.v (.cons (Stays.r _ _ _ _) (.nil)))))
 ·refine .ms 0 rfl rfl rfl ?_
  refine .on rfl (fun a w hS hI hp => does_call (by kernel_rfl) (ar3 (hp.V 0 rfl rfl) (rfl) (rfl)) ((octets_Put.calls _ _ ae 0 4 bn _ (Kd.C_below b0 hI.2.2.2.1) b4 bL).mono fun _ _ h => h.elim fun v0 h => ⟨v0, h.1, h.2.2, Kd.R_lower h.2.1 hI.2.2.2.2.size⟩)) ?_
  refine .on rfl (fun a w hS hI hp => does_val (x_fieldE (b := 0) rfl (hS.get 2 rfl) Try.underlying28 rfl rfl (by kernel_rfl)) rfl) ?_
  refine .on rfl (fun a w hS hI hp => does_loadmid (cs := [.int .u64 ag, .int .i64 ah]) rfl (hp.V 2 rfl rfl) (((hI.2.1).block g4 (blk_lt aa)).trans aa) (by kernel_rfl) Try.underlying24 rfl (by kernel_rfl) rfl) ?_
  refine .on rfl (fun a w hS hI hp => (IsC.of_r (hp.V 1 rfl rfl)).elim fun A_ h_ => h_.elim fun c_ h_ => h_.elim fun hv_ h_ => h_.elim fun hl_ hc_ => does_call (by kernel_rfl) (ar2 (hv_) (hp.V 3 rfl rfl)) ((ident_Put.calls _ _ bn ag ah af _ hc_ hl_ bM).mono fun _ _ h => h.elim fun v0 h => ⟨v0, h.1, h.2.2, Kd.R_lower h.2.1 hI.2.2.2.2.size⟩)) ?_
  exact .nil
 clear hS
 intro cq bf hS aK hp
 replace hS := ((hS.nil).cons (hS.get 2 rfl)).cons (hS.get 0 rfl)
 obtain ⟨aU, aX, bb, b5, b1⟩ := Kd.R_reads (show Kd.R (Kd.int .u8) 5 bf aM.heap.size (fun _ => True) (sl _ 37) af from hp 4 (by decide))
 have cz : Kd.R (Kd.int .u8) 5 bf aM.heap.size (fun _ => True) (.slice aU af.length aX) af := bb ▸ (hp 4 (by decide))
 have hS := hS.cons bb
 clear hp bb
 show wpList _ _ _ [_] _ _
 refine list_step rfl (R := fun v w' => Below _ _ w' ∧ (IsV (.slice aU af.length aX)) v w') (does_val (x_assign rfl (hS.get 0 rfl)) rfl) ?_
 rintro cc au ⟨hb, he⟩
 have aN := below_step aK.1 hb
 have a7 := below_step aK.2.1 hb
 have bz := below_step aK.2.2.1 hb
 have bA := below_step aK.2.2.2.1 hb
 have a3 := below_step aK.2.2.2.2 hb
 have a4 := below_step (bR bf) hb
 obtain rfl : cc = .slice aU af.length aX := he
 replace hS := ((hS.nil).cons (hS.get 2 rfl)).cons (hS.get 0 rfl)
 refine hS.next (v := .slice aU af.length aX) (d := 6) rfl (by decide) (by rfl) ?_
 clear hS
 intro cr hS
 refine wpList_nil ?_
 refine bW _ _ ?_
 refine wp_seq_k (fun cE bX => ?_)
 refine reg_any (I := I5_ w w3 aM bf au) (ps := [IsV (.slice aU af.length aX), VP g4 6, VI an, IsR (Kd.int .u8) 5 au.heap.size bo, VP g4 0, VI ab, VI bp, IsR (Kd.int .u8) 5 au.heap.size bq, VP g4 7, VI ao, IsR (Kd.int .u8) 5 au.heap.size ar, IsR (Kd.int .u8) 5 au.heap.size ar, VB true]) (by kernel_rfl) (by kernel_rfl) ?_ ?_ rfl hS ⟨aN, a7, a3, a4, (bR au)⟩ ?_ ?_
 ·exact bs5
 ·exact .v (.v (.v (.cons (Stays.r _ _ _ _) (.v (.v (.v (.cons (Stays.r _ _ _ _) (.v (.v (.cons (Stays.r _ _ _ _) (.cons (Stays.r _ _ _ _) (.v (.nil)))))))))))))
 ·refine .ms 0 rfl rfl rfl ?_
  refine .on rfl (fun a w hS hI hp => does_val (x_fieldE (b := 0) rfl (hS.get 2 rfl) Try.underlying28 rfl rfl (by kernel_rfl)) rfl) ?_
  refine .on rfl (fun a w hS hI hp => does_val (x_load1 (d := .int .i64) rfl (hp.V 1 rfl rfl) (by kernel_rfl) rfl ((blk_cell (((hI.2.1).block g4 (blk_lt aa)).trans aa) 6).trans rfl)) rfl) ?_
  refine .on rfl (fun a w hS hI hp => does_call (by kernel_rfl) (ar3 (hp.V 0 rfl rfl) (hp.V 2 rfl rfl) (rfl)) ((octets_Put.calls _ _ af an 2 bo _ (Kd.C_below b1 hI.2.2.2.1) b5 bN).mono fun _ _ h => h.elim fun v0 h => ⟨v0, h.1, h.2.2, Kd.R_lower h.2.1 hI.2.2.2.2.size⟩)) ?_
  refine .on rfl (fun a w hS hI hp => does_val (x_fieldE (b := 0) rfl (hS.get 2 rfl) Try.underlying28 rfl rfl (by kernel_rfl)) rfl) ?_
  refine .on rfl (fun a w hS hI hp => does_val (x_load1 (d := .int .i64) rfl (hp.V 4 rfl rfl) (by kernel_rfl) rfl ((blk_cell (((hI.2.1).block g4 (blk_lt aa)).trans aa) 0).trans rfl)) rfl) ?_
  refine .on rfl (fun a w hS hI hp => does_call (by kernel_rfl) (ar1 (hp.V 5 rfl rfl)) ((header_control.calls ab bp _  bO).mono fun _ _ h => ⟨_, h.1, h.2.below, rfl⟩)) ?_
  refine .on rfl (fun a w hS hI hp => (IsC.of_r (hp.V 3 rfl rfl)).elim fun A_ h_ => h_.elim fun c_ h_ => h_.elim fun hv_ h_ => h_.elim fun hl_ hc_ => does_call (by kernel_rfl) (ar3 (hv_) (hp.V 6 rfl rfl) (rfl)) ((octets_Put.calls _ _ bo bp 1 bq _ hc_ hl_ bP).mono fun _ _ h => h.elim fun v0 h => ⟨v0, h.1, h.2.2, Kd.R_lower h.2.1 hI.2.2.2.2.size⟩)) ?_
  refine .on rfl (fun a w hS hI hp => does_val (x_fieldE (b := 0) rfl (hS.get 2 rfl) Try.underlying28 rfl rfl (by kernel_rfl)) rfl) ?_
  refine .on rfl (fun a w hS hI hp => does_val (x_load1 (d := .int .i64) rfl (hp.V 8 rfl rfl) (by kernel_rfl) rfl ((blk_cell (((hI.2.1).block g4 (blk_lt aa)).trans aa) 7).trans rfl)) rfl) ?_
  refine .on rfl (fun a w hS hI hp => (IsC.of_r (hp.V 7 rfl rfl)).elim fun A_ h_ => h_.elim fun c_ h_ => h_.elim fun hv_ h_ => h_.elim fun hl_ hc_ => does_call (by kernel_rfl) (ar3 (hv_) (hp.V 9 rfl rfl) (rfl)) ((octets_Put.calls _ _ bq ao 1 ar _ hc_ hl_ bQ).mono fun _ _ h => h.elim fun v0 h => ⟨v0, h.1, h.2.2, Kd.R_lower h.2.1 hI.2.2.2.2.size⟩)) ?_
  refine .on rfl (fun a w hS hI hp => does_val (x_assign rfl rfl) (hp.V 10 rfl rfl)) ?_
  refine .on rfl (fun a w hS hI hp => does_val (x_assign rfl (rfl)) rfl) ?_
  exact .nil
 clear hS
 intro ct br hS b9 hp
 replace hS := hS.nil
 obtain ⟨bi, bj, ai, cv, cu⟩ := Kd.R_reads (show Kd.R (Kd.int .u8) 5 br au.heap.size (fun _ => True) (sl _ 4) ar from hp 11 (by decide))
 have b6 : Kd.R (Kd.int .u8) 5 br au.heap.size (fun _ => True) (.slice bi ar.length bj) ar := ai ▸ (hp 11 (by decide))
 have ap : sl _ 5 = .bool true := hp 12 (by decide)
 have hS := hS.cons ai
 have hS := hS.cons ap
 clear hp ai ap
 refine bX _ _ ?_
 refine wp_ret ?_
 (try simp only [Exit.then, Exit.inBlock, Exit.jump, Exit.noGoto])
 exact bodyPost_ret (v := .tuple #[.slice bi ar.length bj, .bool true]) (results_list (rs := [.tmp 4, .tmp 5]) rfl (by simp) (Vals.at (hS.get 1 rfl) (Vals.at (hS.get 0 rfl) .nil))) hS.nodef ⟨.slice bi ar.length bj, rfl, Kd.R_lower (Kd.R_below b6 (bR br)) (aN).size, b9.1⟩
def frame_Put.j1 (k : Nat)  : Option (ByteArray × Bool) := some ((⟨#[]⟩ : ByteArray), false)
def frame_Put.f (k : Nat) (a0_0 a0_1 a0_2 a0_3 a0_4 a0_5 a0_6 a0_7 a0_8 a0_9 a0_10 a0_11 a0_12 a0_13 a0_14 a0_15 a0_16 a0_17 a0_18 a0_19 a0_20 a0_21 a0_22 : Int) (l1 : List (S43)) : Option (ByteArray × Bool) := (body_Put.f k [] a0_0 a0_1 a0_2 a0_3 a0_4 a0_5 a0_6 a0_7 a0_8 a0_9 a0_10 a0_11 a0_12 a0_13 a0_14 a0_15 a0_16 a0_17 a0_18 a0_19 a0_20 a0_21 a0_22).bind fun t9 => (if t9.2 = true then ((tlv_Put.f k t9.1 l1).bind fun t19 => (if t19.2 = true then ((header_Put.f k a0_0 a0_1 a0_2 a0_3 a0_4 a0_5 a0_6 a0_7 a0_8 a0_9 a0_10 a0_11 a0_12 a0_13 a0_14 a0_15 a0_16 a0_17 a0_18 a0_19 a0_20 a0_21 a0_22 (wrap64 (34 + (t19.1.length : Int)))).bind fun t32 => (if t32.2 = true then (if (strOfNums t32.1).size + (strOfNums t19.1).size ≤ 9223372036854775807 then (some ((strOfNums t32.1) ++ (strOfNums t19.1), true)) else (none)) else (frame_Put.j1 k ))) else (frame_Put.j1 k ))) else (frame_Put.j1 k ))
abbrev frame_Put.v0 (x0 x1 x2 x3 x4 x5 x6 x7 x8 x9 x10 x11 x12 x13 x14 x15 x16 x17 x18 x19 x20 x21 x22 : Int) : Value := .agg #[.int .i64 x0, .int .i64 x1, .int .i64 x2, .int .i64 x3, .int .u64 x4, .int .i64 x5, .int .i64 x6, .int .i64 x7, .int .i64 x8, .int .u64 x9, .int .i64 x10, .int .i64 x11, .int .i64 x12, .int .i64 x13, .int .i64 x14, .int .i64 x15, .int .i64 x16, .int .u64 x17, .int .i64 x18, .int .i64 x19, .int .i64 x20, .int .i64 x21, .int .i64 x22]
abbrev frame_Put.c1 (x0 x1 x2 x3 x4 x5 x6 x7 x8 x9 x10 x11 x12 x13 x14 x15 x16 x17 x18 x19 x20 x21 x22 : Int) : Array Value := #[.int .i64 x0, .int .i64 x1, .int .i64 x2, .int .i64 x3, .int .u64 x4, .int .i64 x5, .int .i64 x6, .int .i64 x7, .int .i64 x8, .int .u64 x9, .int .i64 x10, .int .i64 x11, .int .i64 x12, .int .i64 x13, .int .i64 x14, .int .i64 x15, .int .i64 x16, .int .u64 x17, .int .i64 x18, .int .i64 x19, .int .i64 x20, .int .i64 x21, .int .i64 x22]
open Go.Proofs.Ytiomlbkakiienaa.E in
set_option maxHeartbeats 60000000 in
set_option maxRecDepth 100000 in
theorem frame_Put.calls (k : Nat) (ay az aA aB aC aD aE aF aG aH ah ai aj ak al am an ao ap aq ar au av : Int) (A1 : Option Addr) (be : Nat) (l1 : List (S43)) (r1 : ByteArray) (r2 : Bool) (w : World) (HR1 : Kd.C k43 w A1 l1.length l1) (HC1 : l1.length ≤ be) (h : frame_Put.f k ay az aA aB aC aD aE aF aG aH ah ai aj ak al am an ao ap aq ar au av l1 = some (r1, r2)) :
    Calls Try.prog 11 #[.agg #[.int .i64 ay, .int .i64 az, .int .i64 aA, .int .i64 aB, .int .u64 aC, .int .i64 aD, .int .i64 aE, .int .i64 aF, .int .i64 aG, .int .u64 aH, .int .i64 ah, .int .i64 ai, .int .i64 aj, .int .i64 ak, .int .i64 al, .int .i64 am, .int .i64 an, .int .u64 ao, .int .i64 ap, .int .i64 aq, .int .i64 ar, .int .i64 au, .int .i64 av], .slice A1 l1.length be] w fun e w' => e = .returned (.tuple #[.string r1, .bool r2]) ∧ Below w.heap.size w w' := by
 have H := h
 clear h
 unfold frame_Put.f at H
 refine calls_of_wp (fn := Try.f11) (by kernel_rfl) rfl ?_
 have hS := St.enter #[(frame_Put.v0 ay az aA aB aC aD aE aF aG aH ah ai aj ak al am an ao ap aq ar au av), .slice A1 l1.length be] 39 (by simp) [(0, (frame_Put.v0 ay az aA aB aC aD aE aF aG aH ah ai aj ak al am an ao ap aq ar au av)), (1, .slice A1 l1.length be)] (by simp)
 have bK := Below.refl w.heap.size w
 refine wp_seq_k (fun K1 bM => ?_)
 refine reg_seq (I := I1_ w) (ps := [IsB (frame_Put.c1 ay az aA aB aC aD aE aF aG aH ah ai aj ak al am an ao ap aq ar au av) 28 w.heap.size, IsV (.string (⟨#[]⟩ : ByteArray)), VB false]) (by kernel_rfl) ?_ ?_ rfl hS bK ?_ ?_
 ·exact bs1
 ·exact .cons (Stays.b _ _ _) (.v (.v (.nil)))
 ·refine .on rfl (fun a w hS hI hp => does_var (x_box rfl (congrArg Value.cells (hS.get 0 rfl))) (hI).size) ?_
  iterate 2 refine .on rfl (fun a w hS hI hp => does_val (x_assign rfl (rfl)) rfl) ?_
  exact .nil
 clear hS
 intro cl w3 hS bP hp
 replace hS := (hS.nil).cons (hS.get 1 rfl)
 obtain ⟨g4, bh, bW, ax⟩ := (show IsB _ 28 _ (sl _ 2) _ from hp 0 (by decide))
 have hS := hS.cons bh
 clear hp bh
 refine bM _ _ ?_
 refine wp_scope_fwd 0 (fun bd aY => frame_Put.j1 k  = some (r1, r2) ∧ St 39 [] bd ∧ Below w.heap.size w aY) rfl ?_ (fun J1 => ?_)
 ·clear H hS
  rintro bd aY ⟨H, hS, a1⟩
  unfold frame_Put.j1 at H
  (try dsimp only at H)
  simp only [Option.some.injEq, Prod.mk.injEq] at H
  obtain ⟨rfl, rfl⟩ := H
  refine wp_seq_k (fun bV a2 => ?_)
  refine reg_seq (I := I2_ w aY) (ps := [IsV (.string (⟨#[]⟩ : ByteArray)), VB false]) (by kernel_rfl) ?_ ?_ rfl hS ⟨a1, (bR aY)⟩ ?_ ?_
  ·exact bs2
  ·exact .v (.v (.nil))
  ·refine .on rfl (fun a w hS hI hp => does_val (x_assign rfl (rfl)) rfl) ?_
   refine .on rfl (fun a w hS hI hp => does_val (x_assign rfl (rfl)) rfl) ?_
   exact .nil
  clear hS
  intro bL bX hS a9 hp
  have aQ : sl _ 4 = .string (⟨#[]⟩ : ByteArray) := hp 0 (by decide)
  have aR : sl _ 5 = .bool false := hp 1 (by decide)
  have hS := hS.cons aQ
  have hS := hS.cons aR
  clear hp aQ aR
  refine a2 _ _ ?_
  refine wp_ret ?_
  (try simp only [Exit.then, Exit.inBlock, Exit.jump, Exit.noGoto])
  exact bodyPost_ret (v := .tuple #[.string (⟨#[]⟩ : ByteArray), .bool false]) (results_list (rs := [.tmp 4, .tmp 5]) rfl (by simp) (Vals.at (hS.get 1 rfl) (Vals.at (hS.get 0 rfl) .nil))) hS.nodef ⟨rfl, a9.1⟩
 obtain ⟨t9, bI, H⟩ := Option.bind_eq_some_iff.mp H
 obtain ⟨af, ae⟩ := t9
 (try dsimp only at H)
 refine wp_seq_k (fun K5 bN => ?_)
 refine reg_seq (I := I2_ w w3) (ps := [IsV (.slice none 0 0)]) (by kernel_rfl) ?_ ?_ rfl hS ⟨bP, (bR w3)⟩ ?_ ?_
 ·exact bs2
 ·exact .v (.nil)
 ·refine .on rfl (fun a w hS hI hp => does_val (x_assign rfl (rfl)) rfl) ?_
  exact .nil
 clear hS
 intro cm w7 hS bj hp
 clear hp
 refine bN _ _ ?_
 refine wp_seq_k (fun K8 bO => ?_)
 refine reg_seq (I := I3_ w w3 w7) (ps := [IsV ((frame_Put.v0 ay az aA aB aC aD aE aF aG aH ah ai aj ak al am an ao ap aq ar au av)), IsT (fun v0_ => #[v0_, .bool ae]) (IsC (Kd.int .u8) af), IsT (fun v0_ => #[v0_, .bool ae]) (IsC (Kd.int .u8) af), IsC (Kd.int .u8) af, VB ae, IsC (Kd.int .u8) af, VB ae]) (by kernel_rfl) ?_ ?_ rfl hS ⟨bj.1, bj.2, (bR w7)⟩ ?_ ?_
 ·exact bs3
 ·exact .v (.cons (Stays.t _ (Stays.c _ _)) (.cons (Stays.t _ (Stays.c _ _)) (.cons (Stays.c _ _) (.v (.cons (Stays.c _ _) (.v (.nil)))))))
 ·refine .on rfl (fun a w hS hI hp => does_loadrow rfl (hS.get 0 rfl) (((hI.2.1).block g4 (blk_lt ax)).trans ax) Try.underlying28 rfl (by kernel_rfl) rfl) ?_
  refine .on rfl (fun a w hS hI hp => does_call (by kernel_rfl) (ar2 (rfl) (hp.V 0 rfl rfl)) ((body_Put.calls k _ _ [] ay az aA aB aC aD aE aF aG aH ah ai aj ak al am an ao ap aq ar au av af ae _ (Kd.C_nil _ _) (Nat.le_refl _) bI).mono fun _ _ h => h.elim fun v0 h => ⟨_, h.1, h.2.2, v0, rfl, h.2.1⟩)) ?_
  refine .on rfl (fun a w hS hI hp => does_val (x_move rfl rfl) (hp.V 1 rfl rfl)) ?_
  refine .on rfl (fun a w hS hI hp => (hp.V 2 rfl rfl).elim fun v0 h0 => does_val (x_extract rfl h0.1 rfl) h0.2) ?_
  refine .on rfl (fun a w hS hI hp => (hp.V 2 rfl rfl).elim fun v0 h0 => does_val (x_extract rfl h0.1 rfl) rfl) ?_
  refine .on rfl (fun a w hS hI hp => does_val (x_assign rfl rfl) (hp.V 3 rfl rfl)) ?_
  refine .asg 4 rfl rfl rfl ?_
  exact .nil
 clear hS
 intro bY aX hS ba hp
 obtain ⟨bH, bJ, bi, bC, bz⟩ := (show IsC (Kd.int .u8) af (sl _ 7) aX from hp 5 (by decide))
 have aS : sl _ 8 = .bool ae := hp 6 (by decide)
 have hS := hS.cons bi
 have hS := hS.cons aS
 clear hp bi aS
 refine bO _ _ ?_
 refine wp_seq_k (fun cb bp => ?_)
 refine wp_seq_k (fun cc bq => ?_)
 refine reg_seq (I := I3_ w w3 aX) (ps := [VB ae, VB (!ae)]) (by kernel_rfl) ?_ ?_ rfl hS ⟨ba.1, ba.2.1, (bR aX)⟩ ?_ ?_
 ·exact bs3
 ·exact .v (.v (.nil))
 ·refine .ms 0 rfl rfl rfl ?_
  refine .on rfl (fun a w hS hI hp => does_val (x_not rfl (hp.V 0 rfl rfl)) rfl) ?_
  exact .nil
 clear hS
 intro bZ bk hS aJ hp
 replace hS := (((hS.nil).cons (hS.get 3 rfl)).cons (hS.get 2 rfl)).cons (hS.get 1 rfl)
 have a3 : sl _ 15 = .bool (!ae) := hp 1 (by decide)
 have hS := hS.cons a3
 clear hp a3
 refine bq _ _ ?_
 by_cases c1 : ae = true
 rotate_left
 ·rw [if_neg c1] at H
  refine wp_cond_true ((hS.get 0 rfl).trans (bT (congrArg (!·) (Bool.eq_false_iff.2 c1)))) ?_
  refine wp_goto ?_
  (try simp only [Exit.then, Exit.inBlock])
  replace hS := hS.nil
  exact ⟨rfl, H, hS, aJ.1⟩
 rw [if_pos c1] at H
 obtain ⟨bQ, bn, H⟩ := Option.bind_eq_some_iff.mp H
 obtain ⟨aa, ac⟩ := bQ
 (try dsimp only at H)
 refine wp_cond_false ((hS.get 0 rfl).trans (bF (congrArg (!·) c1))) ?_
 refine wp_skip ?_
 refine bp _ _ ?_
 refine wp_seq_k (fun cd br => ?_)
 refine wp_seq_k (fun ce bs => ?_)
 refine reg_seq_tail 6 (I := I4_ w w3 aX bk) (ps := [IsV (.slice bH af.length bJ), IsV (.slice A1 l1.length be), IsT (fun v0_ => #[v0_, .bool ac]) (IsC (Kd.int .u8) aa), IsT (fun v0_ => #[v0_, .bool ac]) (IsC (Kd.int .u8) aa), IsC (Kd.int .u8) aa, VB ac]) (by kernel_rfl) ?_ ?_ rfl hS ⟨aJ.1, aJ.2.1, aJ.2.2, (bR bk)⟩ ?_ ?_
 ·exact bs4
 ·exact .v (.v (.cons (Stays.t _ (Stays.c _ _)) (.cons (Stays.t _ (Stays.c _ _)) (.cons (Stays.c _ _) (.v (.nil))))))
 ·refine .ms 1 rfl rfl rfl ?_
  refine .ms 3 rfl rfl rfl ?_
  refine .on rfl (fun a w hS hI hp => does_call (by kernel_rfl) (ar2 (hp.V 0 rfl rfl) (hp.V 1 rfl rfl)) ((tlv_Put.calls k _ _ af _ _ l1 aa ac _ (Kd.C_below bz hI.2.2.1) bC (Kd.C_below HR1 hI.1) HC1 bn).mono fun _ _ h => h.elim fun v0 h => ⟨_, h.1, h.2.2, v0, rfl, h.2.1⟩)) ?_
  refine .on rfl (fun a w hS hI hp => does_val (x_move rfl rfl) (hp.V 2 rfl rfl)) ?_
  refine .on rfl (fun a w hS hI hp => (hp.V 3 rfl rfl).elim fun v0 h0 => does_val (x_extract rfl h0.1 rfl) h0.2) ?_
  refine .on rfl (fun a w hS hI hp => (hp.V 3 rfl rfl).elim fun v0 h0 => does_val (x_extract rfl h0.1 rfl) rfl) ?_
  exact .nil
 clear hS
 intro b0 aI hS aW hp
 replace hS := ((hS.nil).cons (hS.get 2 rfl)).cons (hS.get 1 rfl)
 obtain ⟨aM, aN, a4, b8, bA⟩ := (show IsC (Kd.int .u8) aa (sl _ 20) aI from hp 4 (by decide))
 have a5 : sl _ 21 = .bool ac := hp 5 (by decide)
 have hS := hS.cons a4
 have hS := hS.cons a5
 clear hp a4 a5
 show wpList _ _ _ [_, _] _ _
 refine list_step rfl (R := fun v w' => Below _ _ w' ∧ (IsV (.slice aM aa.length aN)) v w') (does_val (x_assign rfl (hS.get 1 rfl)) rfl) ?_
 rintro bE bU ⟨hb, he⟩
 have aZ := below_step aW.1 hb
 have aU := below_step aW.2.1 hb
 have bf := below_step aW.2.2.1 hb
 have aO := below_step (bR aI) hb
 obtain rfl : bE = .slice aM aa.length aN := he
 replace hS := (((hS.nil).cons (hS.get 3 rfl)).cons (hS.get 1 rfl)).cons (hS.get 0 rfl)
 refine hS.next (v := .slice aM aa.length aN) (d := 7) rfl (by decide) (by rfl) ?_
 clear hS
 intro b1 hS
 refine list_step rfl (R := fun v w' => Below _ _ w' ∧ (VB ac) v w') (does_val (x_assign rfl (hS.get 1 rfl)) rfl) ?_
 rintro bG bl ⟨hb, he⟩
 have a0 := below_step aZ hb
 have aV := below_step aU hb
 have aP := below_step aO hb
 have bg := below_step (bR bU) hb
 obtain rfl : bG = .bool ac := he
 refine hS.next (v := .bool ac) (d := 8) rfl (by decide) (by rfl) ?_
 clear hS
 intro b2 hS
 refine wpList_nil ?_
 refine bs _ _ ?_
 refine wp_seq_k (fun cf bt => ?_)
 refine reg_seq (I := I4_ w w3 aI bl) (ps := [VB ac, VB (!ac)]) (by kernel_rfl) ?_ ?_ rfl hS ⟨a0, aV, aP, (bR bl)⟩ ?_ ?_
 ·exact bs4
 ·exact .v (.v (.nil))
 ·refine .ms 0 rfl rfl rfl ?_
  refine .on rfl (fun a w hS hI hp => does_val (x_not rfl (hp.V 0 rfl rfl)) rfl) ?_
  exact .nil
 clear hS
 intro b3 ag hS aK hp
 replace hS := ((hS.nil).cons (hS.get 4 rfl)).cons (hS.get 1 rfl)
 have a6 : sl _ 23 = .bool (!ac) := hp 1 (by decide)
 have hS := hS.cons a6
 clear hp a6
 refine bt _ _ ?_
 by_cases c2 : ac = true
 rotate_left
 ·rw [if_neg c2] at H
  refine wp_cond_true ((hS.get 0 rfl).trans (bT (congrArg (!·) (Bool.eq_false_iff.2 c2)))) ?_
  refine wp_goto ?_
  (try simp only [Exit.then, Exit.inBlock])
  replace hS := hS.nil
  exact ⟨rfl, H, hS, aK.1⟩
 rw [if_pos c2] at H
 obtain ⟨bS, bo, H⟩ := Option.bind_eq_some_iff.mp H
 obtain ⟨ab, ad⟩ := bS
 (try dsimp only at H)
 refine wp_cond_false ((hS.get 0 rfl).trans (bF (congrArg (!·) c2))) ?_
 refine wp_skip ?_
 refine br _ _ ?_
 refine wp_seq_k (fun cg bu => ?_)
 refine wp_seq_k (fun ch bv => ?_)
 refine reg_seq (I := I4_ w w3 aI ag) (ps := [IsV ((frame_Put.v0 ay az aA aB aC aD aE aF aG aH ah ai aj ak al am an ao ap aq ar au av)), IsV (.slice aM aa.length aN), VI (aa.length : Int), VI (wrap64 (34 + (aa.length : Int))), IsT (fun v0_ => #[v0_, .bool ad]) (IsR (Kd.int .u8) 5 ag.heap.size ab), IsT (fun v0_ => #[v0_, .bool ad]) (IsR (Kd.int .u8) 5 ag.heap.size ab), IsR (Kd.int .u8) 5 ag.heap.size ab, VB ad, IsR (Kd.int .u8) 5 ag.heap.size ab, VB ad]) (by kernel_rfl) ?_ ?_ rfl hS ⟨aK.1, aK.2.1, aK.2.2.1, (bR ag)⟩ ?_ ?_
 ·exact bs4
 ·exact .v (.v (.v (.v (.cons (Stays.t _ (Stays.r _ _ _ _)) (.cons (Stays.t _ (Stays.r _ _ _ _)) (.cons (Stays.r _ _ _ _) (.v (.cons (Stays.r _ _ _ _) (.v (.nil))))))))))
 ·refine .on rfl (fun a w hS hI hp => does_loadrow rfl (hS.get 2 rfl) (((hI.2.1).block g4 (blk_lt ax)).trans ax) Try.underlying28 rfl (by kernel_rfl) rfl) ?_
  refine .ms 1 rfl rfl rfl ?_
  refine .on rfl (fun a w hS hI hp => does_val (x_len (e := 5) rfl (by kernel_rfl) (hp.V 1 rfl rfl)) rfl) ?_
  refine .on rfl (fun a w hS hI hp => does_val (x_bin rfl (rfl) (hp.V 2 rfl rfl) (b_add _ _ _ _ _)) rfl) ?_
  refine .on rfl (fun a w hS hI hp => does_call (by kernel_rfl) (ar2 (hp.V 0 rfl rfl) (hp.V 3 rfl rfl)) ((header_Put.calls (w := _) (h := bo)).mono fun _ _ h => h.elim fun v0 h => ⟨_, h.1, h.2.2, v0, rfl, Kd.R_lower h.2.1 hI.2.2.2.size⟩)) ?_
  refine .on rfl (fun a w hS hI hp => does_val (x_move rfl rfl) (hp.V 4 rfl rfl)) ?_
  refine .on rfl (fun a w hS hI hp => (hp.V 5 rfl rfl).elim fun v0 h0 => does_val (x_extract rfl h0.1 rfl) h0.2) ?_
  refine .on rfl (fun a w hS hI hp => (hp.V 5 rfl rfl).elim fun v0 h0 => does_val (x_extract rfl h0.1 rfl) rfl) ?_
  refine .on rfl (fun a w hS hI hp => does_val (x_assign rfl rfl) (hp.V 6 rfl rfl)) ?_
  refine .asg 7 rfl rfl rfl ?_
  exact .nil
 clear hS
 intro b4 aT hS aL hp
 replace hS := (hS.nil).cons (hS.get 1 rfl)
 obtain ⟨bb, bc, a8, b9, bB⟩ := Kd.R_reads (show Kd.R (Kd.int .u8) 5 aT ag.heap.size (fun _ => True) (sl _ 6) ab from hp 8 (by decide))
 have ca : Kd.R (Kd.int .u8) 5 aT ag.heap.size (fun _ => True) (.slice bb ab.length bc) ab := a8 ▸ (hp 8 (by decide))
 have aS : sl _ 8 = .bool ad := hp 9 (by decide)
 have hS := hS.cons a8
 have hS := hS.cons aS
 clear hp a8 aS
 refine bv _ _ ?_
 refine wp_seq_k (fun ci bw => ?_)
 refine reg_seq (I := I5_ w w3 aI ag aT) (ps := [VB ad, VB (!ad)]) (by kernel_rfl) ?_ ?_ rfl hS ⟨aL.1, aL.2.1, aL.2.2.1, aL.2.2.2, (bR aT)⟩ ?_ ?_
 ·exact bs5
 ·exact .v (.v (.nil))
 ·refine .ms 0 rfl rfl rfl ?_
  refine .on rfl (fun a w hS hI hp => does_val (x_not rfl (hp.V 0 rfl rfl)) rfl) ?_
  exact .nil
 clear hS
 intro b5 bm hS aw hp
 replace hS := ((hS.nil).cons (hS.get 2 rfl)).cons (hS.get 1 rfl)
 have a7 : sl _ 33 = .bool (!ad) := hp 1 (by decide)
 have hS := hS.cons a7
 clear hp a7
 refine bw _ _ ?_
 by_cases c3 : ad = true
 rotate_left
 ·rw [if_neg c3] at H
  refine wp_cond_true ((hS.get 0 rfl).trans (bT (congrArg (!·) (Bool.eq_false_iff.2 c3)))) ?_
  refine wp_goto ?_
  (try simp only [Exit.then, Exit.inBlock])
  replace hS := hS.nil
  exact ⟨rfl, H, hS, aw.1⟩
 rw [if_pos c3] at H
 by_cases c4 : (strOfNums ab).size + (strOfNums aa).size ≤ 9223372036854775807
 rotate_left
 ·rw [if_neg c4] at H
  exact absurd H (by simp)
 rw [if_pos c4] at H
 simp only [Option.some.injEq, Prod.mk.injEq] at H
 obtain ⟨rfl, rfl⟩ := H
 refine wp_cond_false ((hS.get 0 rfl).trans (bF (congrArg (!·) c3))) ?_
 refine wp_skip ?_
 refine bu _ _ ?_
 refine wp_seq_k (fun cj b7 => ?_)
 refine wp_seq_k (fun ck bx => ?_)
 refine reg_seq (I := I6_ w w3 aI ag aT bm) (ps := [IsV (.slice bb ab.length bc), IsV (.string (strOfNums ab)), IsV (.slice aM aa.length aN), IsV (.string (strOfNums aa)), IsV (.string ((strOfNums ab) ++ (strOfNums aa))), IsV (.string ((strOfNums ab) ++ (strOfNums aa))), VB true]) (by kernel_rfl) ?_ ?_ rfl hS ⟨aw.1, aw.2.1, aw.2.2.1, aw.2.2.2.1, aw.2.2.2.2, (bR bm)⟩ ?_ ?_
 ·exact bs6
 ·exact .v (.v (.v (.v (.v (.v (.v (.nil)))))))
 ·refine .ms 1 rfl rfl rfl ?_
  refine .on rfl (fun a w hS hI hp => does_val (x_conv rfl (hp.V 0 rfl rfl) (Kd.C_string (by kernel_rfl) (e := 5) (by kernel_rfl) (by kernel_rfl) (Kd.C_below bB hI.2.2.2.2.1))) rfl) ?_
  refine .ms 2 rfl rfl rfl ?_
  refine .on rfl (fun a w hS hI hp => does_val (x_conv rfl (hp.V 2 rfl rfl) (Kd.C_string (by kernel_rfl) (e := 5) (by kernel_rfl) (by kernel_rfl) (Kd.C_below bA hI.2.2.1))) rfl) ?_
  refine .on rfl (fun a w hS hI hp => does_val (x_bin rfl (hp.V 1 rfl rfl) (hp.V 3 rfl rfl) (b_adds _ _ _ _ _ c4)) rfl) ?_
  refine .asg 4 rfl rfl rfl ?_
  refine .on rfl (fun a w hS hI hp => does_val (x_assign rfl (rfl)) rfl) ?_
  exact .nil
 clear hS
 intro b6 cn hS bD hp
 replace hS := hS.nil
 have aQ : sl _ 4 = .string ((strOfNums ab) ++ (strOfNums aa)) := hp 5 (by decide)
 have aR : sl _ 5 = .bool true := hp 6 (by decide)
 have hS := hS.cons aQ
 have hS := hS.cons aR
 clear hp aQ aR
 refine bx _ _ ?_
 refine wp_ret ?_
 (try simp only [Exit.then, Exit.inBlock, Exit.jump, Exit.noGoto])
 exact bodyPost_ret (v := .tuple #[.string ((strOfNums ab) ++ (strOfNums aa)), .bool true]) (results_list (rs := [.tmp 4, .tmp 5]) rfl (by simp) (Vals.at (hS.get 1 rfl) (Vals.at (hS.get 0 rfl) .nil))) hS.nodef ⟨rfl, bD.1⟩
def octets_none.f (l0 : List Int) (a1 : Int) (a2 : Int) : Option (Bool) := if a2 < 0 then (some true) else (if a1 < 0 then (some true) else (if a1 > (l0.length : Int) then (some true) else (some (decide (a2 > (wrap64 ((l0.length : Int) - a1)))))))
set_option maxHeartbeats 8000000 in
set_option maxRecDepth 100000 in
theorem octets_none.calls (A0 : Option Addr) (c0 : Nat) (l0 : List Int) (a1 : Int) (a2 : Int) (r : Bool) (w : World) (hr0 : Kd.C (Kd.int .u8) w A0 l0.length l0) (hc0 : l0.length ≤ c0) (h : octets_none.f l0 a1 a2 = some r) :
    Calls Try.prog 80 #[.slice A0 l0.length c0, .int .i64 a1, .int .i64 a2] w fun e w' => e = .returned (.bool r) ∧ Drawn0 w w' := by
  have HR0 := Aside0.mk hr0
  have HC0 := Aside0.mk hc0
  clear hr0 hc0
  have H : (if a2 < 0 then (some true) else (if a1 < 0 then (some true) else (if a1 > (l0.length : Int) then (some true) else (some (decide (a2 > (wrap64 ((l0.length : Int) - a1)))))))) = some r := h
  clear h
  by_cases c4 : a2 < 0
  · rw [if_pos c4] at H
    have c4b0 : decide (a2 < 0) = true := decide_eq_true c4
    clear c4
    obtain rfl := Option.some.inj H
    go_enter Try.func80, Try.ntmps80
    go_wp2
    all_goals
      go_ret
      exact ⟨by first | rfl | (simp; done) | (simp [*]; done), by repeat (first | exact Drawn0.refl _ | apply Drawn0.step)⟩
  · rw [if_neg c4] at H
    have c4b0 : decide (a2 < 0) = false := decide_eq_false c4
    clear c4
    by_cases c5 : a1 < 0
    · rw [if_pos c5] at H
      have c5b0 : decide (a1 < 0) = true := decide_eq_true c5
      clear c5
      obtain rfl := Option.some.inj H
      go_enter Try.func80, Try.ntmps80
      go_wp2
      all_goals
        go_ret
        exact ⟨by first | rfl | (simp; done) | (simp [*]; done), by repeat (first | exact Drawn0.refl _ | apply Drawn0.step)⟩
    · rw [if_neg c5] at H
      have c5b0 : decide (a1 < 0) = false := decide_eq_false c5
      clear c5
      by_cases c6 : a1 > (l0.length : Int)
      · rw [if_pos c6] at H
        have c6b0 : decide ((l0.length : Int) < a1) = true := decide_eq_true c6
        clear c6
        obtain rfl := Option.some.inj H
        go_enter Try.func80, Try.ntmps80
        go_wp2
        all_goals
          go_ret
          exact ⟨by first | rfl | (simp; done) | (simp [*]; done), by repeat (first | exact Drawn0.refl _ | apply Drawn0.step)⟩
      · rw [if_neg c6] at H
        have c6b0 : decide ((l0.length : Int) < a1) = false := decide_eq_false c6
        clear c6
        obtain rfl := Option.some.inj H
        go_enter Try.func80, Try.ntmps80
        go_wp2
        all_goals
          go_ret
          exact ⟨by first | rfl | (simp; done) | (simp [*]; done), by repeat (first | exact Drawn0.refl _ | apply Drawn0.step)⟩
def octets_read.l0 : Nat → Int → List Int → Int → Int → Option (Int)
  | 0, _, _, _, _ => none
  | k + 1, x3, x6, x7, x8 => if x8 < x7 then (if 0 ≤ x8 then (if x8 < (x6.length : Int) then (octets_read.l0 k (Go.bits .or .u64 (IntKind.u64.wrap (x3 * 256)) (IntKind.u64.wrap (rd x6 x8))) x6 x7 (wrap64 (x8 + 1))) else (none)) else (none)) else (some x3)
def octets_read.f (k : Nat) (l0 : List Int) : Option (Int) := octets_read.l0 k 0 l0 (l0.length : Int) 0
set_option maxHeartbeats 8000000 in
set_option maxRecDepth 100000 in
theorem octets_read.calls (k : Nat) (A0 : Option Addr) (c0 : Nat) (l0 : List Int) (r : Int) (w : World) (hr0 : Kd.C (Kd.int .u8) w A0 l0.length l0) (hc0 : l0.length ≤ c0) (h : octets_read.f k l0 = some r) :
    Calls Try.prog 81 #[.slice A0 l0.length c0] w fun e w' => e = .returned (.int .u64 r) ∧ Drawn0 w w' := by
  have HR0 := Aside0.mk hr0
  have HC0 := Aside0.mk hc0
  clear hr0 hc0
  have H : (octets_read.l0 k 0 l0 (l0.length : Int) 0) = some r := h
  clear h
  have H' := Aside0.mk H
  clear H
  go_enter Try.func81, Try.ntmps81
  go_wp2
  go_loopg [3, 8] k (fun kq v3 v8 w' => ∃ (x3_1 : Int) (x8_1 : Int), v3 = .int .u64 x3_1 ∧ v8 = .int .i64 x8_1 ∧ Aside0 (octets_read.l0 kq x3_1 l0 (l0.length : Int) x8_1 = some r) ∧ Aside0 (kq ≤ k) ∧ Drawn0 w w')
  case atStart => exact ⟨(0), (0), (by first | rfl | (simp; done) | (simp [*]; done)), (by first | rfl | (simp; done) | (simp [*]; done)), H', ⟨Nat.le_refl _⟩, by repeat (first | exact Drawn0.refl _ | apply Drawn0.step)⟩
  case round =>
    clear H'
    obtain ⟨x3_1, x8_1, rfl, rfl, HA, HK1, ⟨m1, rfl⟩⟩ := hrel
    cases gk with
    | zero => exact absurd HA.out (by simp [octets_read.l0])
    | succ k1 =>
      have H := HA.out
      clear HA
      simp only [octets_read.l0] at H
      by_cases c2 : x8_1 < (l0.length : Int)
      · rw [if_pos c2] at H
        have c2b0 : decide (x8_1 < (l0.length : Int)) = true := decide_eq_true c2
        clear c2
        by_cases c3 : 0 ≤ x8_1
        · rw [if_pos c3] at H
          have c3b0 : decide (0 ≤ x8_1) = true := decide_eq_true c3
          clear c3
          by_cases c4 : x8_1 < (l0.length : Int)
          · rw [if_pos c4] at H
            have c4b0 : decide (x8_1 < (l0.length : Int)) = true := decide_eq_true c4
            clear c4
            have H' := Aside0.mk H
            clear H
            have p139 : 0 ≤ (x8_1 : Int) := of_decide_eq_true (by first | (with_reducible assumption) | assumption)
            have q139 : x8_1 < (l0.length : Int) := of_decide_eq_true (by first | (with_reducible assumption) | assumption)
            obtain ⟨ad139, e139, hx139_0⟩ := Kd.at_int HR0.out x8_1 p139 q139
            cases e139
            replace p139 := eq_true p139
            replace q139 := eq_true q139
            go_wp2
            go_roundg k1
            case measure => have := HK1.out; omega
            case rel => exact ⟨(Go.bits .or .u64 (IntKind.u64.wrap (x3_1 * 256)) (IntKind.u64.wrap (rd l0 x8_1))), (wrap64 (x8_1 + 1)), (by first | rfl | (simp; done) | (simp [*]; done)), (by first | rfl | (simp; done) | (simp [*]; done)), H', ⟨by have := HK1.out; omega⟩, by repeat (first | exact Drawn0.refl _ | apply Drawn0.step)⟩
          · rw [if_neg c4] at H
            exact absurd H (by simp)
        · rw [if_neg c3] at H
          exact absurd H (by simp)
      · rw [if_neg c2] at H
        have c2b0 : decide (x8_1 < (l0.length : Int)) = false := decide_eq_false c2
        clear c2
        obtain rfl := Option.some.inj H
        go_wp2
        all_goals
          go_ret
          exact ⟨by first | rfl | (simp; done) | (simp [*]; done), by repeat (first | exact Drawn0.refl _ | apply Drawn0.step)⟩
def octets_Get.f (k : Nat) (l0 : List Int) (a1 : Int) (a2 : Int) : Option (Int × Bool) := if a2 < 1 then (some (0, false)) else (if a2 > 7 then (some (0, false)) else ((octets_none.f l0 a1 a2).bind fun t140 => (if t140 = true then (some (0, false)) else (if 0 ≤ a1 then (if a1 ≤ (wrap64 (a1 + a2)) then (if (wrap64 (a1 + a2)) ≤ (l0.length : Int) then ((octets_read.f k ((l0.take ((wrap64 (a1 + a2)) : Int).toNat).drop (a1 : Int).toNat)).bind fun t142 => (some (wrap64 (t142), true))) else (none)) else (none)) else (none)))))
set_option maxHeartbeats 8000000 in
set_option maxRecDepth 100000 in
theorem octets_Get.calls (k : Nat) (A0 : Option Addr) (c0 : Nat) (l0 : List Int) (a1 : Int) (a2 : Int) (r1 : Int) (r2 : Bool) (w : World) (hr0 : Kd.C (Kd.int .u8) w A0 l0.length l0) (hc0 : l0.length ≤ c0) (h : octets_Get.f k l0 a1 a2 = some (r1, r2)) :
    Calls Try.prog 59 #[.slice A0 l0.length c0, .int .i64 a1, .int .i64 a2] w fun e w' => e = .returned (.tuple #[.int .i64 r1, .bool r2]) ∧ Drawn0 w w' := by
  have HR0 := Aside0.mk hr0
  have HC0 := Aside0.mk hc0
  clear hr0 hc0
  have H : (if a2 < 1 then (some (0, false)) else (if a2 > 7 then (some (0, false)) else ((octets_none.f l0 a1 a2).bind fun t140 => (if t140 = true then (some (0, false)) else (if 0 ≤ a1 then (if a1 ≤ (wrap64 (a1 + a2)) then (if (wrap64 (a1 + a2)) ≤ (l0.length : Int) then ((octets_read.f k ((l0.take ((wrap64 (a1 + a2)) : Int).toNat).drop (a1 : Int).toNat)).bind fun t142 => (some (wrap64 (t142), true))) else (none)) else (none)) else (none)))))) = some (r1, r2) := h
  clear h
  by_cases c4 : a2 < 1
  · rw [if_pos c4] at H
    have c4b0 : decide (a2 < 1) = true := decide_eq_true c4
    clear c4
    simp only [Option.some.injEq, Prod.mk.injEq] at H
    obtain ⟨rfl, rfl⟩ := H
    go_enter Try.func59, Try.ntmps59
    go_wp2
    go_ret2
    exact ⟨by first | rfl | (simp; done) | (simp [*]; done), by repeat (first | exact Drawn0.refl _ | apply Drawn0.step)⟩
  · rw [if_neg c4] at H
    have c4b0 : decide (a2 < 1) = false := decide_eq_false c4
    clear c4
    by_cases c5 : a2 > 7
    · rw [if_pos c5] at H
      have c5b0 : decide (7 < a2) = true := decide_eq_true c5
      clear c5
      simp only [Option.some.injEq, Prod.mk.injEq] at H
      obtain ⟨rfl, rfl⟩ := H
      go_enter Try.func59, Try.ntmps59
      go_wp2
      go_ret2
      exact ⟨by first | rfl | (simp; done) | (simp [*]; done), by repeat (first | exact Drawn0.refl _ | apply Drawn0.step)⟩
    · rw [if_neg c5] at H
      have c5b0 : decide (7 < a2) = false := decide_eq_false c5
      clear c5
      replace H := Option.bind_eq_some_iff.mp H
      obtain ⟨t140, A60, H⟩ := H
      replace H : (if t140 = true then (some (0, false)) else (if 0 ≤ a1 then (if a1 ≤ (wrap64 (a1 + a2)) then (if (wrap64 (a1 + a2)) ≤ (l0.length : Int) then ((octets_read.f k ((l0.take ((wrap64 (a1 + a2)) : Int).toNat).drop (a1 : Int).toNat)).bind fun t142 => (some (wrap64 (t142), true))) else (none)) else (none)) else (none))) = some (r1, r2) := H
      have A6 := Aside0.mk A60
      clear A60
      by_cases c7 : t140 = true
      · subst c7
        have H1 : (some (0, false)) = some (r1, r2) := by rw [if_pos rfl] at H; exact H
        clear H
        have H := H1
        clear H1
        simp only [Option.some.injEq, Prod.mk.injEq] at H
        obtain ⟨rfl, rfl⟩ := H
        go_enter Try.func59, Try.ntmps59
        go_wp2_with (first | (go_at_call 80; (with_reducible refine (octets_none.calls _ _ l0 a1 a2 true _ ?side1 ?side2 A6.out).mono ?_); (case side1 => repeat (first | exact HR0.out | (with_reducible refine Kd.C_alloc ?_ _) | (with_reducible refine Kd.C_drewN ?_ _) | (with_reducible refine Kd.C_drew ?_))); (case side2 => exact HC0.out); rintro e w' ⟨rfl, ⟨nd, rfl⟩⟩))
        go_ret2
        exact ⟨by first | rfl | (simp; done) | (simp [*]; done), by repeat (first | exact Drawn0.refl _ | apply Drawn0.step)⟩
      · replace c7 := Bool.eq_false_iff.mpr c7
        subst c7
        have H1 : (if 0 ≤ a1 then (if a1 ≤ (wrap64 (a1 + a2)) then (if (wrap64 (a1 + a2)) ≤ (l0.length : Int) then ((octets_read.f k ((l0.take ((wrap64 (a1 + a2)) : Int).toNat).drop (a1 : Int).toNat)).bind fun t142 => (some (wrap64 (t142), true))) else (none)) else (none)) else (none)) = some (r1, r2) := by rw [if_neg (show ¬ (false = true) by decide)] at H; exact H
        clear H
        have H := H1
        clear H1
        by_cases c8 : 0 ≤ a1
        · rw [if_pos c8] at H
          have c8b0 := eq_true c8
          have c8b1 : decide (0 ≤ a1) = true := decide_eq_true c8
          clear c8
          by_cases c9 : a1 ≤ (wrap64 (a1 + a2))
          · rw [if_pos c9] at H
            have c9b0 := eq_true c9
            have c9b1 : decide (a1 ≤ (wrap64 (a1 + a2))) = true := decide_eq_true c9
            by_cases c10 : (wrap64 (a1 + a2)) ≤ (l0.length : Int)
            · rw [if_pos c10] at H
              have c10b0 := eq_true c10
              have c10b1 : decide ((wrap64 (a1 + a2)) ≤ (l0.length : Int)) = true := decide_eq_true c10
              replace H := Option.bind_eq_some_iff.mp H
              obtain ⟨t142, A110, H⟩ := H
              replace H : (some (wrap64 (t142), true)) = some (r1, r2) := H
              have A11 := Aside0.mk A110
              clear A110
              simp only [Option.some.injEq, Prod.mk.injEq] at H
              obtain ⟨rfl, rfl⟩ := H
              go_enter Try.func59, Try.ntmps59
              go_wp2_with (first | (go_at_call 80; (with_reducible refine (octets_none.calls _ _ l0 a1 a2 false _ ?side1 ?side2 A6.out).mono ?_); (case side1 => repeat (first | exact HR0.out | (with_reducible refine Kd.C_alloc ?_ _) | (with_reducible refine Kd.C_drewN ?_ _) | (with_reducible refine Kd.C_drew ?_))); (case side2 => exact HC0.out); rintro e w' ⟨rfl, ⟨nd, rfl⟩⟩; obtain ⟨i012, hi012, _, hsz12, _⟩ := info_parts info5; obtain ⟨A12, hcut12, hA12, hC12⟩ := print_mid_of (P := Try.prog) (Value.int .u8) 0 36 5 .i64 .i64 Try.underlying36 hi012 hsz12 A0 c0 l0 a1 (wrap64 (a1 + a2)) (of_decide_eq_true (by first | (with_reducible assumption) | assumption)) (by first | omega | exact of_decide_eq_true (by first | (with_reducible assumption) | assumption)) (of_decide_eq_true (by first | (with_reducible assumption) | assumption)) HC0.out; have HR141 := Aside0.mk (Kd.C_of_reads (h1 := fun _ => rfl) (hA12 _ (Kd.reads_of_C HR0.out))); have HC141 := Aside0.mk hC12; clear hA12 hC12 hi012 hsz12) | ((with_reducible refine gate_callee (f := 81) rfl ?_); refine goesL_ (some 26) rfl rfl Try.func81 (by kernel_rfl) rfl #[.slice A12 ((l0.take ((wrap64 (a1 + a2)) : Int).toNat).drop (a1 : Int).toNat).length (c0 - a1.toNat)] rfl (by (try simp only [List.map_toArray, List.map_cons, List.map_nil]); first | done | (rw [show ((l0.take ((wrap64 (a1 + a2)) : Int).toNat).drop (a1 : Int).toNat).length = ((wrap64 (a1 + a2)).toNat - a1.toNat) from (by rw [List.length_drop, List.length_take]; have h_ : ((wrap64 (a1 + a2)) : Int) ≤ (l0.length : Int) := of_decide_eq_true (by first | (with_reducible assumption) | assumption); omega)] <;> rfl) | rfl | (simp only [List.length_drop, List.length_take]; rfl)) ?_; (with_reducible refine (octets_read.calls k _ _ ((l0.take ((wrap64 (a1 + a2)) : Int).toNat).drop (a1 : Int).toNat) t142 _ ?side1 ?side2 A11.out).mono ?_); (case side1 => repeat (first | exact HR141.out | (with_reducible refine Kd.C_alloc ?_ _) | (with_reducible refine Kd.C_drewN ?_ _) | (with_reducible refine Kd.C_drew ?_))); (case side2 => exact HC141.out); rintro e w' ⟨rfl, ⟨nd, rfl⟩⟩; refine ⟨_, rfl, ?_⟩))
              go_ret2
              exact ⟨by first | rfl | (simp; done) | (simp [*]; done), by repeat (first | exact Drawn0.refl _ | apply Drawn0.step)⟩
            · rw [if_neg c10] at H
              exact absurd H (by simp)
          · rw [if_neg c9] at H
            exact absurd H (by simp)
        · rw [if_neg c8] at H
          exact absurd H (by simp)
def octets_Signed.f (k : Nat) (l0 : List Int) (a1 a2 : Int) : Option (Int × Bool) := if a2 < 1 then (none) else (if a2 > 8 then (none) else ((octets_none.f l0 a1 a2).bind fun t6 => (if t6 = true then (none) else (if 0 ≤ a1 then (if a1 ≤ (wrap64 (a1 + a2)) then (if (wrap64 (a1 + a2)) ≤ (l0.length : Int) then ((octets_read.f k ((l0.take (wrap64 (a1 + a2) : Int).toNat).drop (a1 : Int).toNat)).bind fun t13 => (if 0 ≤ (wrap64 (64 - (wrap64 (8 * a2)))) then (some (shr .i64 (wrap64 (shl .u64 t13 (wrap64 (64 - (wrap64 (8 * a2)))))) (wrap64 (64 - (wrap64 (8 * a2)))), true)) else (none))) else (none)) else (none)) else (none)))))
open Go.Proofs.Ytiomlbkakiienaa.E in
set_option maxHeartbeats 60000000 in
set_option maxRecDepth 100000 in
theorem octets_Signed.calls (k : Nat) (A0 : Option Addr) (ab : Nat) (l0 : List Int) (a1 a2 r1 : Int) (r2 : Bool) (w : World) (HR0 : Kd.C (Kd.int .u8) w A0 l0.length l0) (HC0 : l0.length ≤ ab) (h : octets_Signed.f k l0 a1 a2 = some (r1, r2)) :
    Calls Try.prog 61 #[.slice A0 l0.length ab, .int .i64 a1, .int .i64 a2] w fun e w' => e = .returned (.tuple #[.int .i64 r1, .bool r2]) ∧ Below w.heap.size w w' := by
 have H := h
 clear h
 unfold octets_Signed.f at H
 by_cases c1 : a2 < 1
 ·rw [if_pos c1] at H; exact absurd H (by simp)
 rw [if_neg c1] at H
 by_cases c2 : a2 > 8
 ·rw [if_pos c2] at H; exact absurd H (by simp)
 rw [if_neg c2] at H
 obtain ⟨t6, al, H⟩ := Option.bind_eq_some_iff.mp H
 by_cases c3 : t6 = true
 ·rw [if_pos c3] at H; exact absurd H (by simp)
 rw [if_neg c3] at H
 by_cases c4 : 0 ≤ a1
 rotate_left
 ·rw [if_neg c4] at H; exact absurd H (by simp)
 rw [if_pos c4] at H
 by_cases c5 : a1 ≤ (wrap64 (a1 + a2))
 rotate_left
 ·rw [if_neg c5] at H; exact absurd H (by simp)
 rw [if_pos c5] at H
 by_cases c6 : (wrap64 (a1 + a2)) ≤ (l0.length : Int)
 rotate_left
 ·rw [if_neg c6] at H; exact absurd H (by simp)
 rw [if_pos c6] at H
 obtain ⟨aa, ah, H⟩ := Option.bind_eq_some_iff.mp H
 by_cases c7 : 0 ≤ (wrap64 (64 - (wrap64 (8 * a2))))
 rotate_left
 ·rw [if_neg c7] at H; exact absurd H (by simp)
 rw [if_pos c7] at H
 simp only [Option.some.injEq, Prod.mk.injEq] at H
 obtain ⟨rfl, rfl⟩ := H
 refine calls_of_wp (fn := Try.f61) (by kernel_rfl) rfl ?_
 have hS := St.enter #[.slice A0 l0.length ab, .int .i64 a1, .int .i64 a2] 36 (by simp) [(0, .slice A0 l0.length ab), (1, .int .i64 a1), (2, .int .i64 a2)] (by simp)
 have am := Below.refl w.heap.size w
 refine wp_seq_k (fun K1 an => ?_)
 refine reg_seq (I := I1_ w) (ps := [VI 0, VB false]) (by kernel_rfl) ?_ ?_ rfl hS am ?_ ?_
 ·exact bs1
 ·exact .v (.v (.nil))
 ·refine .on rfl (fun a w hS hI hp => does_val (x_assign rfl (rfl)) rfl) ?_
  refine .on rfl (fun a w hS hI hp => does_val (x_assign rfl (rfl)) rfl) ?_
  exact .nil
 clear hS
 intro ay w3 hS ar hp
 clear hp
 refine an _ _ ?_
 refine wp_seq_k (fun K4 ao => ?_)
 refine wp_seq_k (fun K5 ap => ?_)
 refine reg_seq (I := I2_ w w3) (ps := [VI a2, VB (decide (a2 < 1)), VB (decide (a2 < 1)), VI a2, VB (decide (a2 > 8)), VB (decide (a2 > 8)), VB (decide (a2 > 8)), IsV (.slice A0 l0.length ab), VI a1, VI a2, VB t6, VB t6]) (by kernel_rfl) ?_ ?_ rfl hS ⟨ar, (bR w3)⟩ ?_ ?_
 ·exact bs2
 ·exact .v (.v (.v (.v (.v (.v (.v (.v (.v (.v (.v (.v (.nil))))))))))))
 ·refine .ms 2 rfl rfl rfl ?_
  refine .on rfl (fun a w hS hI hp => does_val (x_bin rfl (hp.V 0 rfl rfl) (rfl) (b_lss _ _ _ _ _ _)) rfl) ?_
  refine .mv 1 rfl rfl rfl ?_
  refine .oy 2 11 rfl rfl ((decide_eq_false c1)) (fun a w hS hI hp => does_val (x_move rfl (hS.get 2 rfl)) rfl) ?_
  refine .oy 2 11 rfl rfl ((decide_eq_false c1)) (fun a w hS hI hp => does_val (x_bin rfl (hp.V 3 rfl rfl) (rfl) (b_gtr _ _ _ _ _ _)) rfl) ?_
  refine .on rfl (fun a w hS hI hp => does_val (x_pickF rfl ((hp.V 2 rfl rfl).trans (bF (decide_eq_false c1))) (hp.V 4 rfl rfl)) rfl) ?_
  refine .mv 5 rfl rfl rfl ?_
  refine .oy 6 15 rfl rfl ((decide_eq_false c2)) (fun a w hS hI hp => does_val (x_move rfl (hS.get 0 rfl)) rfl) ?_
  refine .oy 6 15 rfl rfl ((decide_eq_false c2)) (fun a w hS hI hp => does_val (x_move rfl (hS.get 1 rfl)) rfl) ?_
  refine .oy 6 15 rfl rfl ((decide_eq_false c2)) (fun a w hS hI hp => does_val (x_move rfl (hS.get 2 rfl)) rfl) ?_
  refine .oy 6 15 rfl rfl ((decide_eq_false c2)) (fun a w hS hI hp => does_call (by kernel_rfl) (ar3 (hp.V 7 rfl rfl) (hp.V 8 rfl rfl) (hp.V 9 rfl rfl)) ((octets_none.calls _ _ l0 a1 a2 t6 _ (Kd.C_below HR0 hI.1) HC0 al).mono fun _ _ h => ⟨_, h.1, h.2.below, rfl⟩)) ?_
  refine .on rfl (fun a w hS hI hp => does_val (x_pickF rfl ((hp.V 6 rfl rfl).trans (bF (decide_eq_false c2))) (hp.V 10 rfl rfl)) rfl) ?_
  exact .nil
 clear hS
 intro az w8 hS au hp
 have ac : sl _ 20 = .bool t6 := hp 11 (by decide)
 have hS := hS.cons ac
 clear hp ac
 refine ap _ _ ?_
 refine wp_cond_false ((hS.get 0 rfl).trans (bF (Bool.eq_false_iff.2 c3))) ?_
 refine wp_skip ?_
 refine ao _ _ ?_
 refine wp_seq_k (fun K9 aq => ?_)
 refine reg_seq (I := I2_ w w8) (ps := [VI a2, VI (wrap64 (8 * a2)), VI (wrap64 (64 - (wrap64 (8 * a2)))), VI (wrap64 (64 - (wrap64 (8 * a2))))]) (by kernel_rfl) ?_ ?_ rfl hS ⟨au.1, (bR w8)⟩ ?_ ?_
 ·exact bs2
 ·exact .v (.v (.v (.v (.nil))))
 ·refine .ms 3 rfl rfl rfl ?_
  refine .on rfl (fun a w hS hI hp => does_val (x_bin rfl (rfl) (hp.V 0 rfl rfl) (b_mul _ _ _ _ _)) rfl) ?_
  refine .on rfl (fun a w hS hI hp => does_val (x_bin rfl (rfl) (hp.V 1 rfl rfl) (b_sub _ _ _ _ _)) rfl) ?_
  refine .asg 2 rfl rfl rfl ?_
  exact .nil
 clear hS
 intro av ag hS aj hp
 replace hS := (((hS.nil).cons (hS.get 3 rfl)).cons (hS.get 2 rfl)).cons (hS.get 1 rfl)
 have af : sl _ 8 = .int .i64 (wrap64 (64 - (wrap64 (8 * a2)))) := hp 3 (by decide)
 have hS := hS.cons af
 clear hp af
 refine aq _ _ ?_
 refine wp_seq_k (fun ax ai => ?_)
 refine reg_seq (I := I2_ w ag) (ps := [IsV (.slice A0 l0.length ab), VI a1, VI a1, VI a2, VI (wrap64 (a1 + a2)), IsC (Kd.int .u8) ((l0.take (wrap64 (a1 + a2) : Int).toNat).drop (a1 : Int).toNat), IsV (.int .u64 aa), VI (wrap64 (64 - (wrap64 (8 * a2)))), IsV (.int .u64 (shl .u64 aa (wrap64 (64 - (wrap64 (8 * a2)))))), VI (wrap64 (shl .u64 aa (wrap64 (64 - (wrap64 (8 * a2)))))), VI (wrap64 (64 - (wrap64 (8 * a2)))), VI (shr .i64 (wrap64 (shl .u64 aa (wrap64 (64 - (wrap64 (8 * a2)))))) (wrap64 (64 - (wrap64 (8 * a2))))), VI (shr .i64 (wrap64 (shl .u64 aa (wrap64 (64 - (wrap64 (8 * a2)))))) (wrap64 (64 - (wrap64 (8 * a2))))), VB true]) (by kernel_rfl) ?_ ?_ rfl hS ⟨aj.1, (bR ag)⟩ ?_ ?_
 ·exact bs2
 ·exact .v (.v (.v (.v (.v (.cons (Stays.c _ _) (.v (.v (.v (.v (.v (.v (.v (.v (.nil))))))))))))))
 ·refine .ms 1 rfl rfl rfl ?_
  iterate 2 refine .ms 2 rfl rfl rfl ?_
  refine .ms 3 rfl rfl rfl ?_
  refine .on rfl (fun a w hS hI hp => does_val (x_bin rfl (hp.V 2 rfl rfl) (hp.V 3 rfl rfl) (b_add _ _ _ _ _)) rfl) ?_
  refine .on rfl (fun a w hS hI hp => does_cut (i := a1) (j := wrap64 (a1 + a2)) rfl (e := 5) (by kernel_rfl) (by kernel_rfl) (hp.V 0 rfl rfl) (.inr ⟨_, rfl, (hp.V 1 rfl rfl)⟩) (.inr ⟨_, rfl, (hp.V 4 rfl rfl)⟩) c4 c5 c6 HC0 ((Kd.C_below HR0 hI.1))) ?_
  refine .on rfl (fun a w hS hI hp => (hp.V 5 rfl rfl).elim fun A_ h_ => h_.elim fun c_ h_ => h_.elim fun hv_ h_ => h_.elim fun hl_ hc_ => does_call (by kernel_rfl) (ar1 (hv_)) ((octets_read.calls k _ _ ((l0.take (wrap64 (a1 + a2) : Int).toNat).drop (a1 : Int).toNat) aa _ hc_ hl_ ah).mono fun _ _ h => ⟨_, h.1, h.2.below, rfl⟩)) ?_
  refine .ms 0 rfl rfl rfl ?_
  refine .on rfl (fun a w hS hI hp => does_val (x_bin rfl (hp.V 6 rfl rfl) (hp.V 7 rfl rfl) (b_shl _ _ _ _ _ _ _ c7)) rfl) ?_
  refine .on rfl (fun a w hS hI hp => does_val ((i64_w (shl .u64 aa (wrap64 (64 - (wrap64 (8 * a2)))))) ▸ x_convI rfl (by kernel_rfl) (by kernel_rfl) (hp.V 8 rfl rfl)) rfl) ?_
  refine .ms 0 rfl rfl rfl ?_
  refine .on rfl (fun a w hS hI hp => does_val (x_bin rfl (hp.V 9 rfl rfl) (hp.V 10 rfl rfl) (b_shr _ _ _ _ _ _ _ c7)) rfl) ?_
  refine .asg 11 rfl rfl rfl ?_
  refine .on rfl (fun a w hS hI hp => does_val (x_assign rfl (rfl)) rfl) ?_
  exact .nil
 clear hS
 intro aw aA hS ak hp
 replace hS := hS.nil
 have ad : sl _ 6 = .int .i64 (shr .i64 (wrap64 (shl .u64 aa (wrap64 (64 - (wrap64 (8 * a2)))))) (wrap64 (64 - (wrap64 (8 * a2))))) := hp 12 (by decide)
 have ae : sl _ 7 = .bool true := hp 13 (by decide)
 have hS := hS.cons ad
 have hS := hS.cons ae
 clear hp ad ae
 refine ai _ _ ?_
 refine wp_ret ?_
 (try simp only [Exit.then, Exit.inBlock, Exit.jump, Exit.noGoto])
 exact bodyPost_ret (v := .tuple #[.int .i64 (shr .i64 (wrap64 (shl .u64 aa (wrap64 (64 - (wrap64 (8 * a2)))))) (wrap64 (64 - (wrap64 (8 * a2))))), .bool true]) (results_list (rs := [.tmp 6, .tmp 7]) rfl (by simp) (Vals.at (hS.get 1 rfl) (Vals.at (hS.get 0 rfl) .nil))) hS.nodef ⟨rfl, ak.1⟩
def octets_GetId.f (k : Nat) (l0 : List Int) (a1 : Int) : Option (Int × Bool) := (octets_Signed.f k l0 a1 8).bind fun t5 => (some (IntKind.u64.wrap t5.1, t5.2))
open Go.Proofs.Ytiomlbkakiienaa.E in
set_option maxHeartbeats 60000000 in
set_option maxRecDepth 100000 in
theorem octets_GetId.calls (k : Nat) (A0 : Option Addr) (ac : Nat) (l0 : List Int) (a1 r1 : Int) (r2 : Bool) (w : World) (HR0 : Kd.C (Kd.int .u8) w A0 l0.length l0) (HC0 : l0.length ≤ ac) (h : octets_GetId.f k l0 a1 = some (r1, r2)) :
    Calls Try.prog 66 #[.slice A0 l0.length ac, .int .i64 a1] w fun e w' => e = .returned (.tuple #[.int .u64 r1, .bool r2]) ∧ Below w.heap.size w w' := by
 have H := h
 clear h
 unfold octets_GetId.f at H
 obtain ⟨t5, ai, H⟩ := Option.bind_eq_some_iff.mp H
 obtain ⟨aa, ab⟩ := t5
 (try dsimp only at H)
 simp only [Option.some.injEq, Prod.mk.injEq] at H
 obtain ⟨rfl, rfl⟩ := H
 refine calls_of_wp (fn := Try.f66) (by kernel_rfl) rfl ?_
 have hS := St.enter #[.slice A0 l0.length ac, .int .i64 a1] 17 (by simp) [(0, .slice A0 l0.length ac), (1, .int .i64 a1)] (by simp)
 have aj := Below.refl w.heap.size w
 refine wp_seq_k (fun K1 ak => ?_)
 refine reg_seq (I := I1_ w) (ps := [IsV (.int .u64 0), VB false]) (by kernel_rfl) ?_ ?_ rfl hS aj ?_ ?_
 ·exact bs1
 ·exact .v (.v (.nil))
 ·refine .on rfl (fun a w hS hI hp => does_val (x_assign rfl (rfl)) rfl) ?_
  refine .on rfl (fun a w hS hI hp => does_val (x_assign rfl (rfl)) rfl) ?_
  exact .nil
 clear hS
 intro ap w3 hS an hp
 clear hp
 refine ak _ _ ?_
 refine wp_seq_k (fun K4 al => ?_)
 refine reg_seq (I := I2_ w w3) (ps := [IsV (.slice A0 l0.length ac), VI a1, IsV (.tuple #[.int .i64 aa, .bool ab]), IsV (.tuple #[.int .i64 aa, .bool ab]), VI aa, VB ab, VI aa, VB ab]) (by kernel_rfl) ?_ ?_ rfl hS ⟨an, (bR w3)⟩ ?_ ?_
 ·exact bs2
 ·exact .v (.v (.v (.v (.v (.v (.v (.v (.nil))))))))
 ·refine .ms 0 rfl rfl rfl ?_
  refine .ms 1 rfl rfl rfl ?_
  refine .on rfl (fun a w hS hI hp => does_call (by kernel_rfl) (ar3 (hp.V 0 rfl rfl) (hp.V 1 rfl rfl) (rfl)) ((octets_Signed.calls k _ _ l0 a1 8 aa ab _ (Kd.C_below HR0 hI.1) HC0 ai).mono fun _ _ h => ⟨_, h.1, h.2, rfl⟩)) ?_
  refine .mv 2 rfl rfl rfl ?_
  iterate 2 refine .on rfl (fun a w hS hI hp => does_val (x_extract rfl (hp.V 3 rfl rfl) rfl) rfl) ?_
  refine .asg 4 rfl rfl rfl ?_
  refine .asg 5 rfl rfl rfl ?_
  exact .nil
 clear hS
 intro aq w7 hS ao hp
 replace hS := hS.nil
 have af : sl _ 6 = .int .i64 aa := hp 6 (by decide)
 have ag : sl _ 7 = .bool ab := hp 7 (by decide)
 have hS := hS.cons af
 have hS := hS.cons ag
 clear hp af ag
 refine al _ _ ?_
 refine wp_seq_k (fun K8 am => ?_)
 refine reg_seq (I := I2_ w w7) (ps := [VI aa, IsV (.int .u64 (IntKind.u64.wrap aa)), VB ab, IsV (.int .u64 (IntKind.u64.wrap aa)), VB ab]) (by kernel_rfl) ?_ ?_ rfl hS ⟨ao.1, (bR w7)⟩ ?_ ?_
 ·exact bs2
 ·exact .v (.v (.v (.v (.v (.nil)))))
 ·refine .ms 1 rfl rfl rfl ?_
  refine .on rfl (fun a w hS hI hp => does_val (x_convI rfl (by kernel_rfl) (by kernel_rfl) (hp.V 0 rfl rfl)) rfl) ?_
  refine .ms 0 rfl rfl rfl ?_
  refine .asg 1 rfl rfl rfl ?_
  refine .asg 2 rfl rfl rfl ?_
  exact .nil
 clear hS
 intro ar au hS ah hp
 replace hS := hS.nil
 have ad : sl _ 4 = .int .u64 (IntKind.u64.wrap aa) := hp 3 (by decide)
 have ae : sl _ 5 = .bool ab := hp 4 (by decide)
 have hS := hS.cons ad
 have hS := hS.cons ae
 clear hp ad ae
 refine am _ _ ?_
 refine wp_ret ?_
 (try simp only [Exit.then, Exit.inBlock, Exit.jump, Exit.noGoto])
 exact bodyPost_ret (v := .tuple #[.int .u64 (IntKind.u64.wrap aa), .bool ab]) (results_list (rs := [.tmp 4, .tmp 5]) rfl (by simp) (Vals.at (hS.get 1 rfl) (Vals.at (hS.get 0 rfl) .nil))) hS.nodef ⟨rfl, ah.1⟩
def ident_Get.f (k : Nat) (l0 : List Int) (a1 : Int) : Option (Int × Int × Bool) := if a1 < 0 then (none) else (if a1 > (l0.length : Int) then (none) else (if (wrap64 ((l0.length : Int) - a1)) < 10 then (none) else ((octets_GetId.f k l0 a1).bind fun t10 => ((octets_Get.f k l0 (wrap64 (a1 + 8)) 2).bind fun t14 => (some (t10.1, t14.1, true))))))
open Go.Proofs.Ytiomlbkakiienaa.E in
set_option maxHeartbeats 60000000 in
set_option maxRecDepth 100000 in
theorem ident_Get.calls (k : Nat) (A0 : Option Addr) (ae : Nat) (l0 : List Int) (a1 r1 r2 : Int) (r3 : Bool) (w : World) (HR0 : Kd.C (Kd.int .u8) w A0 l0.length l0) (HC0 : l0.length ≤ ae) (h : ident_Get.f k l0 a1 = some (r1, r2, r3)) :
    Calls Try.prog 62 #[.slice A0 l0.length ae, .int .i64 a1] w fun e w' => e = .returned (.tuple #[.agg #[.int .u64 r1, .int .i64 r2], .bool r3]) ∧ Below w.heap.size w w' := by
 have H := h
 clear h
 unfold ident_Get.f at H
 by_cases c1 : a1 < 0
 ·rw [if_pos c1] at H; exact absurd H (by simp)
 rw [if_neg c1] at H
 by_cases c2 : a1 > (l0.length : Int)
 ·rw [if_pos c2] at H; exact absurd H (by simp)
 rw [if_neg c2] at H
 by_cases c3 : (wrap64 ((l0.length : Int) - a1)) < 10
 ·rw [if_pos c3] at H; exact absurd H (by simp)
 rw [if_neg c3] at H
 obtain ⟨aJ, ay, H⟩ := Option.bind_eq_some_iff.mp H
 obtain ⟨aa, ac⟩ := aJ
 (try dsimp only at H)
 obtain ⟨aK, az, H⟩ := Option.bind_eq_some_iff.mp H
 obtain ⟨ab, ad⟩ := aK
 (try dsimp only at H)
 simp only [Option.some.injEq, Prod.mk.injEq] at H
 obtain ⟨rfl, rfl, rfl⟩ := H
 refine calls_of_wp (fn := Try.f62) (by kernel_rfl) rfl ?_
 have hS := St.enter #[.slice A0 l0.length ae, .int .i64 a1] 42 (by simp) [(0, .slice A0 l0.length ae), (1, .int .i64 a1)] (by simp)
 have aD := Below.refl w.heap.size w
 refine wp_seq_k (fun K1 aE => ?_)
 refine reg_seq (I := I1_ w) (ps := [IsB #[.int .u64 0, .int .i64 0] 24 w.heap.size, VB false]) (by kernel_rfl) ?_ ?_ rfl hS aD ?_ ?_
 ·exact bs1
 ·exact .cons (Stays.b _ _ _) (.v (.nil))
 ·refine .on rfl (fun a w hS hI hp => does_var (x_alloc rfl (by kernel_rfl)) (hI).size) ?_
  refine .on rfl (fun a w hS hI hp => does_val (x_assign rfl (rfl)) rfl) ?_
  exact .nil
 clear hS
 intro aT w3 hS aI hp
 obtain ⟨g4, aq, ap, ai⟩ := (show IsB _ 24 _ (sl _ 4) _ from hp 0 (by decide))
 have hS := hS.cons aq
 clear hp aq
 refine aE _ _ ?_
 refine wp_seq_k (fun K5 aF => ?_)
 refine wp_seq_k (fun K6 aG => ?_)
 refine reg_seq (I := I2_ w w3) (ps := [VI a1, VB (decide (a1 < 0)), VB (decide (a1 < 0)), VI a1, IsV (.slice A0 l0.length ae), VI (l0.length : Int), VB (decide (a1 > (l0.length : Int))), VB (decide (a1 > (l0.length : Int))), VB (decide (a1 > (l0.length : Int))), IsV (.slice A0 l0.length ae), VI (l0.length : Int), VI a1, VI (wrap64 ((l0.length : Int) - a1)), VB (decide ((wrap64 ((l0.length : Int) - a1)) < 10)), VB (decide ((wrap64 ((l0.length : Int) - a1)) < 10))]) (by kernel_rfl) ?_ ?_ rfl hS ⟨aI, (bR w3)⟩ ?_ ?_
 ·exact bs2
 ·exact .v (.v (.v (.v (.v (.v (.v (.v (.v (.v (.v (.v (.v (.v (.v (.nil)))))))))))))))
 ·refine .ms 2 rfl rfl rfl ?_
  refine .on rfl (fun a w hS hI hp => does_val (x_bin rfl (hp.V 0 rfl rfl) (rfl) (b_lss _ _ _ _ _ _)) rfl) ?_
  refine .mv 1 rfl rfl rfl ?_
  refine .oy 2 12 rfl rfl ((decide_eq_false c1)) (fun a w hS hI hp => does_val (x_move rfl (hS.get 2 rfl)) rfl) ?_
  refine .oy 2 12 rfl rfl ((decide_eq_false c1)) (fun a w hS hI hp => does_val (x_move rfl (hS.get 1 rfl)) rfl) ?_
  refine .oy 2 12 rfl rfl ((decide_eq_false c1)) (fun a w hS hI hp => does_val (x_len (e := 5) rfl (by kernel_rfl) (hp.V 4 rfl rfl)) rfl) ?_
  refine .oy 2 12 rfl rfl ((decide_eq_false c1)) (fun a w hS hI hp => does_val (x_bin rfl (hp.V 3 rfl rfl) (hp.V 5 rfl rfl) (b_gtr _ _ _ _ _ _)) rfl) ?_
  refine .on rfl (fun a w hS hI hp => does_val (x_pickF rfl ((hp.V 2 rfl rfl).trans (bF (decide_eq_false c1))) (hp.V 6 rfl rfl)) rfl) ?_
  refine .mv 7 rfl rfl rfl ?_
  refine .oy 8 18 rfl rfl ((decide_eq_false c2)) (fun a w hS hI hp => does_val (x_move rfl (hS.get 1 rfl)) rfl) ?_
  refine .oy 8 18 rfl rfl ((decide_eq_false c2)) (fun a w hS hI hp => does_val (x_len (e := 5) rfl (by kernel_rfl) (hp.V 9 rfl rfl)) rfl) ?_
  refine .oy 8 18 rfl rfl ((decide_eq_false c2)) (fun a w hS hI hp => does_val (x_move rfl (hS.get 2 rfl)) rfl) ?_
  refine .oy 8 18 rfl rfl ((decide_eq_false c2)) (fun a w hS hI hp => does_val (x_bin rfl (hp.V 10 rfl rfl) (hp.V 11 rfl rfl) (b_sub _ _ _ _ _)) rfl) ?_
  refine .oy 8 18 rfl rfl ((decide_eq_false c2)) (fun a w hS hI hp => does_val (x_bin rfl (hp.V 12 rfl rfl) (rfl) (b_lss _ _ _ _ _ _)) rfl) ?_
  refine .on rfl (fun a w hS hI hp => does_val (x_pickF rfl ((hp.V 8 rfl rfl).trans (bF (decide_eq_false c2))) (hp.V 13 rfl rfl)) rfl) ?_
  exact .nil
 clear hS
 intro aU w8 hS av hp
 have al : sl _ 24 = .bool (decide ((wrap64 ((l0.length : Int) - a1)) < 10)) := hp 14 (by decide)
 have hS := hS.cons al
 clear hp al
 refine aG _ _ ?_
 refine wp_cond_false ((hS.get 0 rfl).trans (bF (decide_eq_false c3))) ?_
 refine wp_skip ?_
 refine aF _ _ ?_
 refine wp_seq_k (fun K9 aH => ?_)
 refine reg_seq (I := I3_ w w3 w8) (ps := [IsV (.slice A0 l0.length ae), VI a1, IsV (.tuple #[.int .u64 aa, .bool ac]), IsV (.tuple #[.int .u64 aa, .bool ac]), IsV (.int .u64 aa), VB ac, IsV (.int .u64 aa), VB ac]) (by kernel_rfl) ?_ ?_ rfl hS ⟨av.1, av.2, (bR w8)⟩ ?_ ?_
 ·exact bs3
 ·exact .v (.v (.v (.v (.v (.v (.v (.v (.nil))))))))
 ·refine .ms 2 rfl rfl rfl ?_
  refine .ms 3 rfl rfl rfl ?_
  refine .on rfl (fun a w hS hI hp => does_call (by kernel_rfl) (ar2 (hp.V 0 rfl rfl) (hp.V 1 rfl rfl)) ((octets_GetId.calls k _ _ l0 a1 aa ac _ (Kd.C_below HR0 hI.1) HC0 ay).mono fun _ _ h => ⟨_, h.1, h.2, rfl⟩)) ?_
  refine .mv 2 rfl rfl rfl ?_
  iterate 2 refine .on rfl (fun a w hS hI hp => does_val (x_extract rfl (hp.V 3 rfl rfl) rfl) rfl) ?_
  refine .asg 4 rfl rfl rfl ?_
  refine .asg 5 rfl rfl rfl ?_
  exact .nil
 clear hS
 intro aM aw hS an hp
 replace hS := (((hS.nil).cons (hS.get 3 rfl)).cons (hS.get 2 rfl)).cons (hS.get 1 rfl)
 have ar : sl _ 6 = .int .u64 aa := hp 6 (by decide)
 have hS := hS.cons ar
 clear hp ar
 refine aH _ _ ?_
 refine wp_seq_k (fun aR aA => ?_)
 refine reg_seq (I := I3_ w w3 aw) (ps := [IsV (.slice A0 l0.length ae), VI a1, VI (wrap64 (a1 + 8)), IsV (.tuple #[.int .i64 ab, .bool ad]), IsV (.tuple #[.int .i64 ab, .bool ad]), VI ab, VB ad, VI ab, VB ad]) (by kernel_rfl) ?_ ?_ rfl hS ⟨an.1, an.2.1, (bR aw)⟩ ?_ ?_
 ·exact bs3
 ·exact .v (.v (.v (.v (.v (.v (.v (.v (.v (.nil)))))))))
 ·refine .ms 2 rfl rfl rfl ?_
  refine .ms 3 rfl rfl rfl ?_
  refine .on rfl (fun a w hS hI hp => does_val (x_bin rfl (hp.V 1 rfl rfl) (rfl) (b_add _ _ _ _ _)) rfl) ?_
  refine .on rfl (fun a w hS hI hp => does_call (by kernel_rfl) (ar3 (hp.V 0 rfl rfl) (hp.V 2 rfl rfl) (rfl)) ((octets_Get.calls k _ _ l0 (wrap64 (a1 + 8)) 2 ab ad _ (Kd.C_below HR0 hI.1) HC0 az).mono fun _ _ h => ⟨_, h.1, h.2.below, rfl⟩)) ?_
  refine .mv 3 rfl rfl rfl ?_
  iterate 2 refine .on rfl (fun a w hS hI hp => does_val (x_extract rfl (hp.V 4 rfl rfl) rfl) rfl) ?_
  refine .asg 5 rfl rfl rfl ?_
  refine .asg 6 rfl rfl rfl ?_
  exact .nil
 clear hS
 intro aN ax hS ao hp
 replace hS := ((hS.nil).cons (hS.get 1 rfl)).cons (hS.get 0 rfl)
 have au : sl _ 8 = .int .i64 ab := hp 7 (by decide)
 have hS := hS.cons au
 clear hp au
 refine aA _ _ ?_
 refine wp_seq_k (fun aS aB => ?_)
 refine reg_seq_tail 3 (I := I3_ w w3 ax) (ps := [IsV (.int .u64 aa), VI ab, IsV (.agg #[.int .u64 aa, .int .i64 ab])]) (by kernel_rfl) ?_ ?_ rfl hS ⟨ao.1, ao.2.1, (bR ax)⟩ ?_ ?_
 ·exact bs3
 ·exact .v (.v (.v (.nil)))
 ·refine .ms 1 rfl rfl rfl ?_
  refine .ms 0 rfl rfl rfl ?_
  refine .on rfl (fun a w hS hI hp => does_val (x_build (vs := [(0, .int .u64 aa), (1, .int .i64 ab)]) rfl (by rw [Array.toList_map]; exact (show [(0, a.eval (.tmp 39)), (1, a.eval (.tmp 40))] = _ from (li_cons (hp.V 0 rfl rfl) (li_cons (hp.V 1 rfl rfl) rfl)))) (by kernel_rfl)) rfl) ?_
  exact .nil
 clear hS
 intro aO aV hS ah hp
 replace hS := (hS.nil).cons (hS.get 2 rfl)
 have am : sl _ 41 = .agg #[.int .u64 aa, .int .i64 ab] := hp 2 (by decide)
 have hS := hS.cons am
 clear hp am
 show wpList _ _ _ [_, _] _ _
 refine list_step rfl (does_storeAll (g := g4) (cs := #[.int .u64 aa, .int .i64 ab]) rfl (hS.get 1 rfl) (hS.get 0 rfl) ((ah.2.1.block g4 (blk_lt ai)).trans ai) (by kernel_rfl) (by kernel_rfl) (by kernel_rfl)) ?_
 rintro aQ aL ⟨rfl, ag, hT⟩
 have aj := hT.below ah.1 ap (ah.1).size
 clear hT
 refine list_step rfl (R := fun v w' => Below _ _ w' ∧ (VB true) v w') (does_val (x_assign rfl (rfl)) rfl) ?_
 rintro aC aW ⟨hb, he⟩
 have ak := below_step aj hb
 have af := below_step (bR aL) hb
 obtain rfl : aC = .bool true := he
 refine hS.next (v := .bool true) (d := 5) rfl (by decide) (by rfl) ?_
 clear hS
 intro aP hS
 refine wpList_nil ?_
 refine aB _ _ ?_
 refine wp_ret ?_
 (try simp only [Exit.then, Exit.inBlock, Exit.jump, Exit.noGoto])
 exact bodyPost_ret (v := .tuple #[.agg #[.int .u64 aa, .int .i64 ab], .bool true]) (results_list (rs := [.cell 4 24, .tmp 5]) rfl (by simp) (Vals.cell g4 24 #[.int .u64 aa, .int .i64 ab] (0, 0) _ (hS.get 2 rfl) ((af.block g4 (blk_lt ag)).trans ag) Try.underlying24 rfl (by kernel_rfl) (Vals.at (hS.get 0 rfl) .nil))) hS.nodef ⟨rfl, ak⟩
end Go.Proofs.Ytiomlbkakiienaa.P
