/- Functions and loops of the given program as Lean functions, and that the code comes to what they say: written by this session's own program; Lean checks it. -/
import Derived.Test.YtiomlbkakiienaaZzPx0
import Derived.Test.YtiomlbkakiienaaZzPx8
namespace Go.Proofs.Ytiomlbkakiienaa.P
open Go.RowKit Go.Proofs.YtiomlbkakiienaaW.PrintWords Go.Proofs.YtiomlbkakiienaaW.PrintLast Go.Proofs.YtiomlbkakiienaaW.PrintMore
attribute [local go_sem] max2_int min2_int max_two min_two max_three min_three max_four min_four   -- for this text's walks alone
set_option linter.unusedVariables false
set_option linter.unusedSimpArgs false
def carillonref06_Get.f (k : Nat) (l0 : List Int) : Option (Int × Int × Int × Int × Int × Int × Int × Int × Int × Int × Int × Int × Int × Int × Int × Int × Int × Int × Int × Int × Int × Int × Int × Int × Int) := if (l0.length : Int) < 34 then (some (0, 0, 0, 0, 0, 0, 0, 0, 0, 0, 0, 0, 0, 0, 0, 0, 0, 0, 0, 0, 0, 0, 0, 0, 2)) else ((carillonref01_Get.f k l0 2 2).bind fun t10 => (if 0 < (l0.length : Int) then ((carillonref06_Known.f (wrap64 (rd l0 0))).bind fun t15 => (if t15 = true then (if 1 < (l0.length : Int) then (if (Int.tmod (rd l0 1) 16) = 2 then (if t10.1 < 34 then (some (0, 0, 0, 0, 0, 0, 0, 0, 0, 0, 0, 0, 0, 0, 0, 0, 0, 0, 0, 0, 0, 0, 0, 0, 4)) else (if t10.1 > 400 then (some (0, 0, 0, 0, 0, 0, 0, 0, 0, 0, 0, 0, 0, 0, 0, 0, 0, 0, 0, 0, 0, 0, 0, 0, 4)) else (if (l0.length : Int) < t10.1 then (some (0, 0, 0, 0, 0, 0, 0, 0, 0, 0, 0, 0, 0, 0, 0, 0, 0, 0, 0, 0, 0, 0, 0, 0, 2)) else (if (l0.length : Int) > t10.1 then (some (0, 0, 0, 0, 0, 0, 0, 0, 0, 0, 0, 0, 0, 0, 0, 0, 0, 0, 0, 0, 0, 0, 0, 0, 3)) else (if 4 < (l0.length : Int) then ((carillonref01_Get.f k l0 6 2).bind fun t32 => ((carillonref01_Signed.f k l0 8 8).bind fun t37 => ((carillonref04_Get.f k l0 20).bind fun t42 => ((carillonref01_Get.f k l0 30 2).bind fun t47 => ((carillonref01_Signed.f k l0 33 1).bind fun t52 => (some (wrap64 (rd l0 0), wrap64 (rd l0 4), t32.1, t37.1, t42.1, t42.2.1, t47.1, t52.1, 0, 0, 0, 0, 0, 0, 0, 0, 0, 0, 0, 0, 0, 0, 0, t10.1, 0))))))) else (none)))))) else (some (0, 0, 0, 0, 0, 0, 0, 0, 0, 0, 0, 0, 0, 0, 0, 0, 0, 0, 0, 0, 0, 0, 0, 0, 4))) else (none)) else (some (0, 0, 0, 0, 0, 0, 0, 0, 0, 0, 0, 0, 0, 0, 0, 0, 0, 0, 0, 0, 0, 0, 0, 0, 4)))) else (none)))
abbrev carillonref06_Get.c0 (x0 x1 x2 x3 x4 x5 x6 x7 x8 x9 x10 x11 x12 x13 x14 x15 x16 x17 x18 x19 x20 x21 x22 : Int) : Array Value := #[.int .i64 x0, .int .i64 x1, .int .i64 x2, .int .i64 x3, .int .u64 x4, .int .i64 x5, .int .i64 x6, .int .i64 x7, .int .i64 x8, .int .u64 x9, .int .i64 x10, .int .i64 x11, .int .i64 x12, .int .i64 x13, .int .i64 x14, .int .i64 x15, .int .i64 x16, .int .u64 x17, .int .i64 x18, .int .i64 x19, .int .i64 x20, .int .i64 x21, .int .i64 x22]
abbrev carillonref06_Get.v1 (x0 x1 x2 x3 x4 x5 x6 x7 x8 x9 x10 x11 x12 x13 x14 x15 x16 x17 x18 x19 x20 x21 x22 : Int) : Value := .agg #[.int .i64 x0, .int .i64 x1, .int .i64 x2, .int .i64 x3, .int .u64 x4, .int .i64 x5, .int .i64 x6, .int .i64 x7, .int .i64 x8, .int .u64 x9, .int .i64 x10, .int .i64 x11, .int .i64 x12, .int .i64 x13, .int .i64 x14, .int .i64 x15, .int .i64 x16, .int .u64 x17, .int .i64 x18, .int .i64 x19, .int .i64 x20, .int .i64 x21, .int .i64 x22]
open Go.Proofs.Ytiomlbkakiienaa.E in
set_option maxHeartbeats 60000000 in
set_option maxRecDepth 100000 in
theorem carillonref06_Get.calls (k : Nat) (A0 : Option Addr) (ap : Nat) (l0 : List Int) (r1 r2 r3 r4 r5 r6 r7 r8 r9 ef eg eh ei ej ek el em en eo ep eq er es et eu : Int) (w : World) (HR0 : Kd.C (Kd.int .u8) w A0 l0.length l0) (HC0 : l0.length ≤ ap) (h : carillonref06_Get.f k l0 = some (r1, r2, r3, r4, r5, r6, r7, r8, r9, ef, eg, eh, ei, ej, ek, el, em, en, eo, ep, eq, er, es, et, eu)) :
    Calls Try.prog 31 #[.slice A0 l0.length ap] w fun e w' => e = .returned (.tuple #[.agg #[.int .i64 r1, .int .i64 r2, .int .i64 r3, .int .i64 r4, .int .u64 r5, .int .i64 r6, .int .i64 r7, .int .i64 r8, .int .i64 r9, .int .u64 ef, .int .i64 eg, .int .i64 eh, .int .i64 ei, .int .i64 ej, .int .i64 ek, .int .i64 el, .int .i64 em, .int .u64 en, .int .i64 eo, .int .i64 ep, .int .i64 eq, .int .i64 er, .int .i64 es], .int .i64 et, .int .i64 eu]) ∧ Below w.heap.size w w' := by
 have H := h
 clear h
 unfold carillonref06_Get.f at H
 refine calls_of_wp (fn := Try.f31) (by kernel_rfl) rfl ?_
 have hS := St.enter #[.slice A0 l0.length ap] 90 (by simp) [(0, .slice A0 l0.length ap)] (by simp)
 have dd := Below.refl w.heap.size w
 refine wp_seq_k (fun K1 dh => ?_)
 refine reg_seq (I := I1_ w) (ps := [IsB (carillonref06_Get.c0 0 0 0 0 0 0 0 0 0 0 0 0 0 0 0 0 0 0 0 0 0 0 0) 28 w.heap.size, VI 0, VI 0]) (by kernel_rfl) ?_ ?_ rfl hS dd ?_ ?_
 ·exact bs1
 ·exact .cons (Stays.b _ _ _) (.v (.v (.nil)))
 ·refine .on rfl (fun a w hS hI hp => does_var (x_alloc rfl (by kernel_rfl)) (hI).size) ?_
  iterate 2 refine .on rfl (fun a w hS hI hp => does_val (x_assign rfl (rfl)) rfl) ?_
  exact .nil
 clear hS
 intro d3 w3 hS dk hp
 obtain ⟨g4, cz, az, ac⟩ := (show IsB _ 28 _ (sl _ 2) _ from hp 0 (by decide))
 have hS := hS.cons cz
 clear hp cz
 refine dh _ _ ?_
 refine wp_seq_k (fun K5 di => ?_)
 refine wp_seq_k (fun K6 dj => ?_)
 refine reg_seq (I := I2_ w w3) (ps := [IsV (.slice A0 l0.length ap), VI (l0.length : Int), VB (decide ((l0.length : Int) < 34))]) (by kernel_rfl) ?_ ?_ rfl hS ⟨dk, (bR w3)⟩ ?_ ?_
 ·exact bs2
 ·exact .v (.v (.v (.nil)))
 ·refine .ms 1 rfl rfl rfl ?_
  refine .on rfl (fun a w hS hI hp => does_val (x_len (e := 5) rfl (by kernel_rfl) (hp.V 0 rfl rfl)) rfl) ?_
  refine .on rfl (fun a w hS hI hp => does_val (x_bin rfl (hp.V 1 rfl rfl) (rfl) (b_lss _ _ _ _ _ _)) rfl) ?_
  exact .nil
 clear hS
 intro d4 w8 hS bJ hp
 have b7 : sl _ 10 = .bool (decide ((l0.length : Int) < 34)) := hp 2 (by decide)
 have hS := hS.cons b7
 clear hp b7
 refine dj _ _ ?_
 by_cases c1 : (l0.length : Int) < 34
 ·rw [if_pos c1] at H
  simp only [Option.some.injEq, Prod.mk.injEq] at H
  obtain ⟨rfl, rfl, rfl, rfl, rfl, rfl, rfl, rfl, rfl, rfl, rfl, rfl, rfl, rfl, rfl, rfl, rfl, rfl, rfl, rfl, rfl, rfl, rfl, rfl, rfl⟩ := H
  refine wp_cond_true ((hS.get 0 rfl).trans (bT (decide_eq_true c1))) ?_
  refine wp_seq_k (fun K9 b6 => ?_)
  refine reg_seq_tail 1 (I := I3_ w w3 w8) (ps := [IsV ((carillonref06_Get.v1 0 0 0 0 0 0 0 0 0 0 0 0 0 0 0 0 0 0 0 0 0 0 0))]) (by kernel_rfl) ?_ ?_ rfl hS ⟨bJ.1, bJ.2, (bR w8)⟩ ?_ ?_
  ·exact bs3
  ·exact .v (.nil)
  ·refine .on rfl (fun a w hS hI hp => does_val (x_build (vs := []) rfl (by rw [Array.toList_map]; exact (show [] = _ from rfl)) (by kernel_rfl)) rfl) ?_
   exact .nil
  clear hS
  intro dx d5 hS bD hp
  replace hS := (hS.nil).cons (hS.get 1 rfl)
  have b8 : sl _ 11 = (carillonref06_Get.v1 0 0 0 0 0 0 0 0 0 0 0 0 0 0 0 0 0 0 0 0 0 0 0) := hp 0 (by decide)
  have hS := hS.cons b8
  clear hp b8
  show wpList _ _ _ [_, _, _] _ _
  refine list_step rfl (does_storeAll (g := g4) (cs := (carillonref06_Get.c0 0 0 0 0 0 0 0 0 0 0 0 0 0 0 0 0 0 0 0 0 0 0 0)) rfl (hS.get 1 rfl) (hS.get 0 rfl) ((bD.2.1.block g4 (blk_lt ac)).trans ac) (by kernel_rfl) (by kernel_rfl) (by kernel_rfl)) ?_
  rintro dM aH ⟨rfl, bj, hT⟩
  have bM := hT.below bD.1 az (bD.1).size
  clear hT
  refine list_step rfl (R := fun v w' => Below _ _ w' ∧ (VI 0) v w') (does_val (x_assign rfl (rfl)) rfl) ?_
  rintro cW ds ⟨hb, he⟩
  have bN := below_step bM hb
  have a4 := below_step (bR aH) hb
  obtain rfl : cW = .int .i64 0 := he
  refine hS.next (v := .int .i64 0) (d := 3) rfl (by decide) (by rfl) ?_
  clear hS
  intro dz hS
  refine list_step rfl (R := fun v w' => Below _ _ w' ∧ (VI 2) v w') (does_val (x_assign rfl (rfl)) rfl) ?_
  rintro cX d6 ⟨hb, he⟩
  have bO := below_step bN hb
  have a5 := below_step a4 hb
  have cv := below_step (bR ds) hb
  obtain rfl : cX = .int .i64 2 := he
  refine hS.next (v := .int .i64 2) (d := 4) rfl (by decide) (by rfl) ?_
  clear hS
  intro a0 hS
  refine wpList_nil ?_
  refine b6 _ _ ?_
  refine wp_ret ?_
  (try simp only [Exit.then, Exit.inBlock, Exit.jump, Exit.noGoto])
  exact bodyPost_ret (v := .tuple #[(carillonref06_Get.v1 0 0 0 0 0 0 0 0 0 0 0 0 0 0 0 0 0 0 0 0 0 0 0), .int .i64 0, .int .i64 2]) (results_list (rs := [.cell 2 28, .tmp 3, .tmp 4]) rfl (by simp) (Vals.cell g4 28 (carillonref06_Get.c0 0 0 0 0 0 0 0 0 0 0 0 0 0 0 0 0 0 0 0 0 0 0 0) (0, 0) _ (hS.get 3 rfl) ((a5.block g4 (blk_lt bj)).trans bj) Try.underlying28 rfl (by kernel_rfl) (Vals.at (hS.get 1 rfl) (Vals.at (hS.get 0 rfl) .nil)))) hS.nodef ⟨rfl, bO⟩
 rw [if_neg c1] at H
 obtain ⟨dl, cH, H⟩ := Option.bind_eq_some_iff.mp H
 obtain ⟨aa, aQ⟩ := dl
 (try dsimp only at H)
 by_cases c2 : 0 < (l0.length : Int)
 rotate_left
 ·rw [if_neg c2] at H
  exact absurd H (by simp)
 rw [if_pos c2] at H
 obtain ⟨aw, aZ, H⟩ := Option.bind_eq_some_iff.mp H
 refine wp_cond_false ((hS.get 0 rfl).trans (bF (decide_eq_false c1))) ?_
 refine wp_skip ?_
 refine di _ _ ?_
 refine wp_seq_k (fun K9 b6 => ?_)
 refine reg_seq (I := I3_ w w3 w8) (ps := [IsV (.slice A0 l0.length ap), IsV (.tuple #[.int .i64 aa, .bool aQ]), IsV (.tuple #[.int .i64 aa, .bool aQ]), VI aa, VB aQ, VI aa, VB aQ]) (by kernel_rfl) ?_ ?_ rfl hS ⟨bJ.1, bJ.2, (bR w8)⟩ ?_ ?_
 ·exact bs3
 ·exact .v (.v (.v (.v (.v (.v (.v (.nil)))))))
 ·refine .ms 2 rfl rfl rfl ?_
  refine .on rfl (fun a w hS hI hp => does_call (by kernel_rfl) (ar3 (hp.V 0 rfl rfl) (rfl) (rfl)) ((carillonref01_Get.calls k _ _ l0 2 2 aa aQ _ (Kd.C_below HR0 hI.1) HC0 cH).mono fun _ _ h => ⟨_, h.1, h.2.below, rfl⟩)) ?_
  refine .mv 1 rfl rfl rfl ?_
  iterate 2 refine .on rfl (fun a w hS hI hp => does_val (x_extract rfl (hp.V 2 rfl rfl) rfl) rfl) ?_
  refine .asg 3 rfl rfl rfl ?_
  refine .asg 4 rfl rfl rfl ?_
  exact .nil
 clear hS
 intro dy aH hS aG hp
 replace hS := ((hS.nil).cons (hS.get 2 rfl)).cons (hS.get 1 rfl)
 have cA : sl _ 5 = .int .i64 aa := hp 5 (by decide)
 have hS := hS.cons cA
 clear hp cA
 refine b6 _ _ ?_
 by_cases c3 : aw = true
 rotate_left
 ·rw [if_neg c3] at H
  simp only [Option.some.injEq, Prod.mk.injEq] at H
  obtain ⟨rfl, rfl, rfl, rfl, rfl, rfl, rfl, rfl, rfl, rfl, rfl, rfl, rfl, rfl, rfl, rfl, rfl, rfl, rfl, rfl, rfl, rfl, rfl, rfl, rfl⟩ := H
  refine wp_seq_k (fun de b5 => ?_)
  refine wp_seq_k (fun cu aS => ?_)
  refine reg_seq (I := I3_ w w3 aH) (ps := [IsV (.slice A0 l0.length ap), IsA (.int .u8 (rd l0 0)), IsV (.int .u8 (rd l0 0)), VI (wrap64 (rd l0 0)), VB aw, VB (!aw), VB (!aw), VU, VU, VU, VU, VU, VB true, VB true, VU, VU, VB true, VB true, VU, VU, VB true]) (by kernel_rfl) ?_ ?_ rfl hS ⟨aG.1, aG.2.1, (bR aH)⟩ ?_ ?_
  ·exact bs3
  ·exact .v (.cons (Stays.a _) (.v (.v (.v (.v (.v (.v (.v (.v (.v (.v (.v (.v (.v (.v (.v (.v (.v (.v (.v (.nil)))))))))))))))))))))
  ·refine .ms 2 rfl rfl rfl ?_
   refine .on rfl (fun a w hS hI hp => does_index (e := 5) (xs := l0) rfl (hp.V 0 rfl rfl) (rfl) (by kernel_rfl) (by kernel_rfl) (by decide) c2 c2 ((Kd.C_below HR0 hI.1))) ?_
   refine .on rfl (fun a w hS hI hp => (hp.V 1 rfl rfl).elim fun _ h_ => does_val (x_load1 (d := .int .u8) rfl h_.1 (by kernel_rfl) rfl h_.2.2) rfl) ?_
   refine .on rfl (fun a w hS hI hp => does_val ((i64_w (rd l0 0)) ▸ x_convI rfl (by kernel_rfl) (by kernel_rfl) (hp.V 2 rfl rfl)) rfl) ?_
   refine .on rfl (fun a w hS hI hp => does_call (by kernel_rfl) (ar1 (hp.V 3 rfl rfl)) ((carillonref06_Known.calls (wrap64 (rd l0 0)) aw _  aZ).mono fun _ _ h => ⟨_, h.1, h.2.below, rfl⟩)) ?_
   refine .on rfl (fun a w hS hI hp => does_val (x_not rfl (hp.V 4 rfl rfl)) rfl) ?_
   refine .mv 5 rfl rfl rfl ?_
   iterate 5 refine .sn 6 23 rfl rfl ((congrArg (!·) (Bool.eq_false_iff.2 c3))) ?_
   refine .on rfl (fun a w hS hI hp => does_val (x_pickT rfl ((hp.V 6 rfl rfl).trans (bT (congrArg (!·) (Bool.eq_false_iff.2 c3)))) (rfl)) rfl) ?_
   refine .mv 12 rfl rfl rfl ?_
   iterate 2 refine .sn 13 30 rfl rfl rfl ?_
   refine .on rfl (fun a w hS hI hp => does_val (x_pickT rfl ((hp.V 13 rfl rfl).trans (bT rfl)) (rfl)) rfl) ?_
   refine .mv 16 rfl rfl rfl ?_
   iterate 2 refine .sn 17 34 rfl rfl rfl ?_
   refine .on rfl (fun a w hS hI hp => does_val (x_pickT rfl ((hp.V 17 rfl rfl).trans (bT rfl)) (rfl)) rfl) ?_
   exact .nil
  clear hS
  intro a0 aB hS av hp
  have ax : sl _ 37 = .bool true := hp 20 (by decide)
  have hS := hS.cons ax
  clear hp ax
  refine aS _ _ ?_
  refine wp_cond_true ((hS.get 0 rfl).trans (bT rfl)) ?_
  refine wp_seq_k (fun bH aD => ?_)
  refine reg_seq_tail 1 (I := I3_ w w3 aB) (ps := [IsV ((carillonref06_Get.v1 0 0 0 0 0 0 0 0 0 0 0 0 0 0 0 0 0 0 0 0 0 0 0))]) (by kernel_rfl) ?_ ?_ rfl hS ⟨av.1, av.2.1, (bR aB)⟩ ?_ ?_
  ·exact bs3
  ·exact .v (.nil)
  ·refine .on rfl (fun a w hS hI hp => does_val (x_build (vs := []) rfl (by rw [Array.toList_map]; exact (show [] = _ from rfl)) (by kernel_rfl)) rfl) ?_
   exact .nil
  clear hS
  intro bs cr hS ao hp
  replace hS := (hS.nil).cons (hS.get 2 rfl)
  have ay : sl _ 38 = (carillonref06_Get.v1 0 0 0 0 0 0 0 0 0 0 0 0 0 0 0 0 0 0 0 0 0 0 0) := hp 0 (by decide)
  have hS := hS.cons ay
  clear hp ay
  show wpList _ _ _ [_, _, _] _ _
  refine list_step rfl (does_storeAll (g := g4) (cs := (carillonref06_Get.c0 0 0 0 0 0 0 0 0 0 0 0 0 0 0 0 0 0 0 0 0 0 0 0)) rfl (hS.get 1 rfl) (hS.get 0 rfl) ((ao.2.1.block g4 (blk_lt ac)).trans ac) (by kernel_rfl) (by kernel_rfl) (by kernel_rfl)) ?_
  rintro bG aE ⟨rfl, ak, hT⟩
  have aq := hT.below ao.1 az (ao.1).size
  clear hT
  refine list_step rfl (R := fun v w' => Below _ _ w' ∧ (VI 0) v w') (does_val (x_assign rfl (rfl)) rfl) ?_
  rintro aN aY ⟨hb, he⟩
  have ar := below_step aq hb
  have ai := below_step (bR aE) hb
  obtain rfl : aN = .int .i64 0 := he
  refine hS.next (v := .int .i64 0) (d := 3) rfl (by decide) (by rfl) ?_
  clear hS
  intro a1 hS
  refine list_step rfl (R := fun v w' => Below _ _ w' ∧ (VI 4) v w') (does_val (x_assign rfl (rfl)) rfl) ?_
  rintro aO bK ⟨hb, he⟩
  have au := below_step ar hb
  have aj := below_step ai hb
  have aF := below_step (bR aY) hb
  obtain rfl : aO = .int .i64 4 := he
  refine hS.next (v := .int .i64 4) (d := 4) rfl (by decide) (by rfl) ?_
  clear hS
  intro bt hS
  refine wpList_nil ?_
  refine aD _ _ ?_
  refine wp_ret ?_
  (try simp only [Exit.then, Exit.inBlock, Exit.jump, Exit.noGoto])
  exact bodyPost_ret (v := .tuple #[(carillonref06_Get.v1 0 0 0 0 0 0 0 0 0 0 0 0 0 0 0 0 0 0 0 0 0 0 0), .int .i64 0, .int .i64 4]) (results_list (rs := [.cell 2 28, .tmp 3, .tmp 4]) rfl (by simp) (Vals.cell g4 28 (carillonref06_Get.c0 0 0 0 0 0 0 0 0 0 0 0 0 0 0 0 0 0 0 0 0 0 0 0) (0, 0) _ (hS.get 3 rfl) ((aj.block g4 (blk_lt ak)).trans ak) Try.underlying28 rfl (by kernel_rfl) (Vals.at (hS.get 1 rfl) (Vals.at (hS.get 0 rfl) .nil)))) hS.nodef ⟨rfl, au⟩
 rw [if_pos c3] at H
 by_cases c4 : 1 < (l0.length : Int)
 rotate_left
 ·rw [if_neg c4] at H
  exact absurd H (by simp)
 rw [if_pos c4] at H
 refine wp_seq_k (fun de b5 => ?_)
 by_cases c5 : (Int.tmod (rd l0 1) 16) = 2
 rotate_left
 ·rw [if_neg c5] at H
  simp only [Option.some.injEq, Prod.mk.injEq] at H
  obtain ⟨rfl, rfl, rfl, rfl, rfl, rfl, rfl, rfl, rfl, rfl, rfl, rfl, rfl, rfl, rfl, rfl, rfl, rfl, rfl, rfl, rfl, rfl, rfl, rfl, rfl⟩ := H
  refine wp_seq_k (fun cu aS => ?_)
  refine reg_seq (I := I3_ w w3 aH) (ps := [IsV (.slice A0 l0.length ap), IsA (.int .u8 (rd l0 0)), IsV (.int .u8 (rd l0 0)), VI (wrap64 (rd l0 0)), VB aw, VB (!aw), VB (!aw), IsV (.slice A0 l0.length ap), IsA (.int .u8 (rd l0 1)), IsV (.int .u8 (rd l0 1)), IsV (.int .u8 (Int.tmod (rd l0 1) 16)), VB (!decide ((Int.tmod (rd l0 1) 16) = 2)), VB (!decide ((Int.tmod (rd l0 1) 16) = 2)), VB (!decide ((Int.tmod (rd l0 1) 16) = 2)), VU, VU, VB true, VB true, VU, VU, VB true]) (by kernel_rfl) ?_ ?_ rfl hS ⟨aG.1, aG.2.1, (bR aH)⟩ ?_ ?_
  ·exact bs3
  ·exact .v (.cons (Stays.a _) (.v (.v (.v (.v (.v (.v (.cons (Stays.a _) (.v (.v (.v (.v (.v (.v (.v (.v (.v (.v (.v (.v (.nil)))))))))))))))))))))
  ·refine .ms 2 rfl rfl rfl ?_
   refine .on rfl (fun a w hS hI hp => does_index (e := 5) (xs := l0) rfl (hp.V 0 rfl rfl) (rfl) (by kernel_rfl) (by kernel_rfl) (by decide) c2 c2 ((Kd.C_below HR0 hI.1))) ?_
   refine .on rfl (fun a w hS hI hp => (hp.V 1 rfl rfl).elim fun _ h_ => does_val (x_load1 (d := .int .u8) rfl h_.1 (by kernel_rfl) rfl h_.2.2) rfl) ?_
   refine .on rfl (fun a w hS hI hp => does_val ((i64_w (rd l0 0)) ▸ x_convI rfl (by kernel_rfl) (by kernel_rfl) (hp.V 2 rfl rfl)) rfl) ?_
   refine .on rfl (fun a w hS hI hp => does_call (by kernel_rfl) (ar1 (hp.V 3 rfl rfl)) ((carillonref06_Known.calls (wrap64 (rd l0 0)) aw _  aZ).mono fun _ _ h => ⟨_, h.1, h.2.below, rfl⟩)) ?_
   refine .on rfl (fun a w hS hI hp => does_val (x_not rfl (hp.V 4 rfl rfl)) rfl) ?_
   refine .mv 5 rfl rfl rfl ?_
   refine .oy 6 23 rfl rfl ((congrArg (!·) c3)) (fun a w hS hI hp => does_val (x_move rfl (hS.get 2 rfl)) rfl) ?_
   refine .oy 6 23 rfl rfl ((congrArg (!·) c3)) (fun a w hS hI hp => does_index (e := 5) (xs := l0) rfl (hp.V 7 rfl rfl) (rfl) (by kernel_rfl) (by kernel_rfl) (by decide) c4 c4 ((Kd.C_below HR0 hI.1))) ?_
   refine .oy 6 23 rfl rfl ((congrArg (!·) c3)) (fun a w hS hI hp => (hp.V 8 rfl rfl).elim fun _ h_ => does_val (x_load1 (d := .int .u8) rfl h_.1 (by kernel_rfl) rfl h_.2.2) rfl) ?_
   refine .oy 6 23 rfl rfl ((congrArg (!·) c3)) (fun a w hS hI hp => does_val (x_bin rfl (hp.V 9 rfl rfl) (rfl) (b_rem _ _ _ _ _ _ (by decide))) rfl) ?_
   refine .oy 6 23 rfl rfl ((congrArg (!·) c3)) (fun a w hS hI hp => does_val (x_bin rfl (hp.V 10 rfl rfl) (rfl) (b_neq _ _ _ _ _ _)) rfl) ?_
   refine .on rfl (fun a w hS hI hp => does_val (x_pickF rfl ((hp.V 6 rfl rfl).trans (bF (congrArg (!·) c3))) (hp.V 11 rfl rfl)) rfl) ?_
   refine .mv 12 rfl rfl rfl ?_
   iterate 2 refine .sn 13 30 rfl rfl ((congrArg (!·) (decide_eq_false c5))) ?_
   refine .on rfl (fun a w hS hI hp => does_val (x_pickT rfl ((hp.V 13 rfl rfl).trans (bT (congrArg (!·) (decide_eq_false c5)))) (rfl)) rfl) ?_
   refine .mv 16 rfl rfl rfl ?_
   iterate 2 refine .sn 17 34 rfl rfl rfl ?_
   refine .on rfl (fun a w hS hI hp => does_val (x_pickT rfl ((hp.V 17 rfl rfl).trans (bT rfl)) (rfl)) rfl) ?_
   exact .nil
  clear hS
  intro a0 aB hS av hp
  have ax : sl _ 37 = .bool true := hp 20 (by decide)
  have hS := hS.cons ax
  clear hp ax
  refine aS _ _ ?_
  refine wp_cond_true ((hS.get 0 rfl).trans (bT rfl)) ?_
  refine wp_seq_k (fun bH aD => ?_)
  refine reg_seq_tail 1 (I := I3_ w w3 aB) (ps := [IsV ((carillonref06_Get.v1 0 0 0 0 0 0 0 0 0 0 0 0 0 0 0 0 0 0 0 0 0 0 0))]) (by kernel_rfl) ?_ ?_ rfl hS ⟨av.1, av.2.1, (bR aB)⟩ ?_ ?_
  ·exact bs3
  ·exact .v (.nil)
  ·refine .on rfl (fun a w hS hI hp => does_val (x_build (vs := []) rfl (by rw [Array.toList_map]; exact (show [] = _ from rfl)) (by kernel_rfl)) rfl) ?_
   exact .nil
  clear hS
  intro bs cr hS ao hp
  replace hS := (hS.nil).cons (hS.get 2 rfl)
  have ay : sl _ 38 = (carillonref06_Get.v1 0 0 0 0 0 0 0 0 0 0 0 0 0 0 0 0 0 0 0 0 0 0 0) := hp 0 (by decide)
  have hS := hS.cons ay
  clear hp ay
  show wpList _ _ _ [_, _, _] _ _
  refine list_step rfl (does_storeAll (g := g4) (cs := (carillonref06_Get.c0 0 0 0 0 0 0 0 0 0 0 0 0 0 0 0 0 0 0 0 0 0 0 0)) rfl (hS.get 1 rfl) (hS.get 0 rfl) ((ao.2.1.block g4 (blk_lt ac)).trans ac) (by kernel_rfl) (by kernel_rfl) (by kernel_rfl)) ?_
  rintro bG aE ⟨rfl, ak, hT⟩
  have aq := hT.below ao.1 az (ao.1).size
  clear hT
  refine list_step rfl (R := fun v w' => Below _ _ w' ∧ (VI 0) v w') (does_val (x_assign rfl (rfl)) rfl) ?_
  rintro aN aY ⟨hb, he⟩
  have ar := below_step aq hb
  have ai := below_step (bR aE) hb
  obtain rfl : aN = .int .i64 0 := he
  refine hS.next (v := .int .i64 0) (d := 3) rfl (by decide) (by rfl) ?_
  clear hS
  intro a1 hS
  refine list_step rfl (R := fun v w' => Below _ _ w' ∧ (VI 4) v w') (does_val (x_assign rfl (rfl)) rfl) ?_
  rintro aO bK ⟨hb, he⟩
  have au := below_step ar hb
  have aj := below_step ai hb
  have aF := below_step (bR aY) hb
  obtain rfl : aO = .int .i64 4 := he
  refine hS.next (v := .int .i64 4) (d := 4) rfl (by decide) (by rfl) ?_
  clear hS
  intro bt hS
  refine wpList_nil ?_
  refine aD _ _ ?_
  refine wp_ret ?_
  (try simp only [Exit.then, Exit.inBlock, Exit.jump, Exit.noGoto])
  exact bodyPost_ret (v := .tuple #[(carillonref06_Get.v1 0 0 0 0 0 0 0 0 0 0 0 0 0 0 0 0 0 0 0 0 0 0 0), .int .i64 0, .int .i64 4]) (results_list (rs := [.cell 2 28, .tmp 3, .tmp 4]) rfl (by simp) (Vals.cell g4 28 (carillonref06_Get.c0 0 0 0 0 0 0 0 0 0 0 0 0 0 0 0 0 0 0 0 0 0 0 0) (0, 0) _ (hS.get 3 rfl) ((aj.block g4 (blk_lt ak)).trans ak) Try.underlying28 rfl (by kernel_rfl) (Vals.at (hS.get 1 rfl) (Vals.at (hS.get 0 rfl) .nil)))) hS.nodef ⟨rfl, au⟩
 rw [if_pos c5] at H
 refine wp_seq_k (fun cu aS => ?_)
 by_cases c6 : aa < 34
 ·rw [if_pos c6] at H
  simp only [Option.some.injEq, Prod.mk.injEq] at H
  obtain ⟨rfl, rfl, rfl, rfl, rfl, rfl, rfl, rfl, rfl, rfl, rfl, rfl, rfl, rfl, rfl, rfl, rfl, rfl, rfl, rfl, rfl, rfl, rfl, rfl, rfl⟩ := H
  refine reg_seq (I := I3_ w w3 aH) (ps := [IsV (.slice A0 l0.length ap), IsA (.int .u8 (rd l0 0)), IsV (.int .u8 (rd l0 0)), VI (wrap64 (rd l0 0)), VB aw, VB (!aw), VB (!aw), IsV (.slice A0 l0.length ap), IsA (.int .u8 (rd l0 1)), IsV (.int .u8 (rd l0 1)), IsV (.int .u8 (Int.tmod (rd l0 1) 16)), VB (!decide ((Int.tmod (rd l0 1) 16) = 2)), VB (!decide ((Int.tmod (rd l0 1) 16) = 2)), VB (!decide ((Int.tmod (rd l0 1) 16) = 2)), VI aa, VB (decide (aa < 34)), VB (decide (aa < 34)), VB (decide (aa < 34)), VU, VU, VB true]) (by kernel_rfl) ?_ ?_ rfl hS ⟨aG.1, aG.2.1, (bR aH)⟩ ?_ ?_
  ·exact bs3
  ·exact .v (.cons (Stays.a _) (.v (.v (.v (.v (.v (.v (.cons (Stays.a _) (.v (.v (.v (.v (.v (.v (.v (.v (.v (.v (.v (.v (.nil)))))))))))))))))))))
  ·refine .ms 2 rfl rfl rfl ?_
   refine .on rfl (fun a w hS hI hp => does_index (e := 5) (xs := l0) rfl (hp.V 0 rfl rfl) (rfl) (by kernel_rfl) (by kernel_rfl) (by decide) c2 c2 ((Kd.C_below HR0 hI.1))) ?_
   refine .on rfl (fun a w hS hI hp => (hp.V 1 rfl rfl).elim fun _ h_ => does_val (x_load1 (d := .int .u8) rfl h_.1 (by kernel_rfl) rfl h_.2.2) rfl) ?_
   refine .on rfl (fun a w hS hI hp => does_val ((i64_w (rd l0 0)) ▸ x_convI rfl (by kernel_rfl) (by kernel_rfl) (hp.V 2 rfl rfl)) rfl) ?_
   refine .on rfl (fun a w hS hI hp => does_call (by kernel_rfl) (ar1 (hp.V 3 rfl rfl)) ((carillonref06_Known.calls (wrap64 (rd l0 0)) aw _  aZ).mono fun _ _ h => ⟨_, h.1, h.2.below, rfl⟩)) ?_
   refine .on rfl (fun a w hS hI hp => does_val (x_not rfl (hp.V 4 rfl rfl)) rfl) ?_
   refine .mv 5 rfl rfl rfl ?_
   refine .oy 6 23 rfl rfl ((congrArg (!·) c3)) (fun a w hS hI hp => does_val (x_move rfl (hS.get 2 rfl)) rfl) ?_
   refine .oy 6 23 rfl rfl ((congrArg (!·) c3)) (fun a w hS hI hp => does_index (e := 5) (xs := l0) rfl (hp.V 7 rfl rfl) (rfl) (by kernel_rfl) (by kernel_rfl) (by decide) c4 c4 ((Kd.C_below HR0 hI.1))) ?_
   refine .oy 6 23 rfl rfl ((congrArg (!·) c3)) (fun a w hS hI hp => (hp.V 8 rfl rfl).elim fun _ h_ => does_val (x_load1 (d := .int .u8) rfl h_.1 (by kernel_rfl) rfl h_.2.2) rfl) ?_
   refine .oy 6 23 rfl rfl ((congrArg (!·) c3)) (fun a w hS hI hp => does_val (x_bin rfl (hp.V 9 rfl rfl) (rfl) (b_rem _ _ _ _ _ _ (by decide))) rfl) ?_
   refine .oy 6 23 rfl rfl ((congrArg (!·) c3)) (fun a w hS hI hp => does_val (x_bin rfl (hp.V 10 rfl rfl) (rfl) (b_neq _ _ _ _ _ _)) rfl) ?_
   refine .on rfl (fun a w hS hI hp => does_val (x_pickF rfl ((hp.V 6 rfl rfl).trans (bF (congrArg (!·) c3))) (hp.V 11 rfl rfl)) rfl) ?_
   refine .mv 12 rfl rfl rfl ?_
   refine .oy 13 30 rfl rfl ((congrArg (!·) (decide_eq_true c5))) (fun a w hS hI hp => does_val (x_move rfl (hS.get 0 rfl)) rfl) ?_
   refine .oy 13 30 rfl rfl ((congrArg (!·) (decide_eq_true c5))) (fun a w hS hI hp => does_val (x_bin rfl (hp.V 14 rfl rfl) (rfl) (b_lss _ _ _ _ _ _)) rfl) ?_
   refine .on rfl (fun a w hS hI hp => does_val (x_pickF rfl ((hp.V 13 rfl rfl).trans (bF (congrArg (!·) (decide_eq_true c5)))) (hp.V 15 rfl rfl)) rfl) ?_
   refine .mv 16 rfl rfl rfl ?_
   iterate 2 refine .sn 17 34 rfl rfl ((decide_eq_true c6)) ?_
   refine .on rfl (fun a w hS hI hp => does_val (x_pickT rfl ((hp.V 17 rfl rfl).trans (bT (decide_eq_true c6))) (rfl)) rfl) ?_
   exact .nil
  clear hS
  intro a0 aB hS av hp
  have ax : sl _ 37 = .bool true := hp 20 (by decide)
  have hS := hS.cons ax
  clear hp ax
  refine aS _ _ ?_
  refine wp_cond_true ((hS.get 0 rfl).trans (bT rfl)) ?_
  refine wp_seq_k (fun bH aD => ?_)
  refine reg_seq_tail 1 (I := I3_ w w3 aB) (ps := [IsV ((carillonref06_Get.v1 0 0 0 0 0 0 0 0 0 0 0 0 0 0 0 0 0 0 0 0 0 0 0))]) (by kernel_rfl) ?_ ?_ rfl hS ⟨av.1, av.2.1, (bR aB)⟩ ?_ ?_
  ·exact bs3
  ·exact .v (.nil)
  ·refine .on rfl (fun a w hS hI hp => does_val (x_build (vs := []) rfl (by rw [Array.toList_map]; exact (show [] = _ from rfl)) (by kernel_rfl)) rfl) ?_
   exact .nil
  clear hS
  intro bs cr hS ao hp
  replace hS := (hS.nil).cons (hS.get 2 rfl)
  have ay : sl _ 38 = (carillonref06_Get.v1 0 0 0 0 0 0 0 0 0 0 0 0 0 0 0 0 0 0 0 0 0 0 0) := hp 0 (by decide)
  have hS := hS.cons ay
  clear hp ay
  show wpList _ _ _ [_, _, _] _ _
  refine list_step rfl (does_storeAll (g := g4) (cs := (carillonref06_Get.c0 0 0 0 0 0 0 0 0 0 0 0 0 0 0 0 0 0 0 0 0 0 0 0)) rfl (hS.get 1 rfl) (hS.get 0 rfl) ((ao.2.1.block g4 (blk_lt ac)).trans ac) (by kernel_rfl) (by kernel_rfl) (by kernel_rfl)) ?_
  rintro bG aE ⟨rfl, ak, hT⟩
  have aq := hT.below ao.1 az (ao.1).size
  clear hT
  refine list_step rfl (R := fun v w' => Below _ _ w' ∧ (VI 0) v w') (does_val (x_assign rfl (rfl)) rfl) ?_
  rintro aN aY ⟨hb, he⟩
  have ar := below_step aq hb
  have ai := below_step (bR aE) hb
  obtain rfl : aN = .int .i64 0 := he
  refine hS.next (v := .int .i64 0) (d := 3) rfl (by decide) (by rfl) ?_
  clear hS
  intro a1 hS
  refine list_step rfl (R := fun v w' => Below _ _ w' ∧ (VI 4) v w') (does_val (x_assign rfl (rfl)) rfl) ?_
  rintro aO bK ⟨hb, he⟩
  have au := below_step ar hb
  have aj := below_step ai hb
  have aF := below_step (bR aY) hb
  obtain rfl : aO = .int .i64 4 := he
  refine hS.next (v := .int .i64 4) (d := 4) rfl (by decide) (by rfl) ?_
  clear hS
  intro bt hS
  refine wpList_nil ?_
  refine aD _ _ ?_
  refine wp_ret ?_
  (try simp only [Exit.then, Exit.inBlock, Exit.jump, Exit.noGoto])
  exact bodyPost_ret (v := .tuple #[(carillonref06_Get.v1 0 0 0 0 0 0 0 0 0 0 0 0 0 0 0 0 0 0 0 0 0 0 0), .int .i64 0, .int .i64 4]) (results_list (rs := [.cell 2 28, .tmp 3, .tmp 4]) rfl (by simp) (Vals.cell g4 28 (carillonref06_Get.c0 0 0 0 0 0 0 0 0 0 0 0 0 0 0 0 0 0 0 0 0 0 0 0) (0, 0) _ (hS.get 3 rfl) ((aj.block g4 (blk_lt ak)).trans ak) Try.underlying28 rfl (by kernel_rfl) (Vals.at (hS.get 1 rfl) (Vals.at (hS.get 0 rfl) .nil)))) hS.nodef ⟨rfl, au⟩
 rw [if_neg c6] at H
 refine reg_seq (I := I3_ w w3 aH) (ps := [IsV (.slice A0 l0.length ap), IsA (.int .u8 (rd l0 0)), IsV (.int .u8 (rd l0 0)), VI (wrap64 (rd l0 0)), VB aw, VB (!aw), VB (!aw), IsV (.slice A0 l0.length ap), IsA (.int .u8 (rd l0 1)), IsV (.int .u8 (rd l0 1)), IsV (.int .u8 (Int.tmod (rd l0 1) 16)), VB (!decide ((Int.tmod (rd l0 1) 16) = 2)), VB (!decide ((Int.tmod (rd l0 1) 16) = 2)), VB (!decide ((Int.tmod (rd l0 1) 16) = 2)), VI aa, VB (decide (aa < 34)), VB (decide (aa < 34)), VB (decide (aa < 34)), VI aa, VB (decide (aa > 400)), VB (decide (aa > 400))]) (by kernel_rfl) ?_ ?_ rfl hS ⟨aG.1, aG.2.1, (bR aH)⟩ ?_ ?_
 ·exact bs3
 ·exact .v (.cons (Stays.a _) (.v (.v (.v (.v (.v (.v (.cons (Stays.a _) (.v (.v (.v (.v (.v (.v (.v (.v (.v (.v (.v (.v (.nil)))))))))))))))))))))
 ·refine .ms 2 rfl rfl rfl ?_
  refine .on rfl (fun a w hS hI hp => does_index (e := 5) (xs := l0) rfl (hp.V 0 rfl rfl) (rfl) (by kernel_rfl) (by kernel_rfl) (by decide) c2 c2 ((Kd.C_below HR0 hI.1))) ?_
  refine .on rfl (fun a w hS hI hp => (hp.V 1 rfl rfl).elim fun _ h_ => does_val (x_load1 (d := .int .u8) rfl h_.1 (by kernel_rfl) rfl h_.2.2) rfl) ?_
  refine .on rfl (fun a w hS hI hp => does_val ((i64_w (rd l0 0)) ▸ x_convI rfl (by kernel_rfl) (by kernel_rfl) (hp.V 2 rfl rfl)) rfl) ?_
  refine .on rfl (fun a w hS hI hp => does_call (by kernel_rfl) (ar1 (hp.V 3 rfl rfl)) ((carillonref06_Known.calls (wrap64 (rd l0 0)) aw _  aZ).mono fun _ _ h => ⟨_, h.1, h.2.below, rfl⟩)) ?_
  refine .on rfl (fun a w hS hI hp => does_val (x_not rfl (hp.V 4 rfl rfl)) rfl) ?_
  refine .mv 5 rfl rfl rfl ?_
  refine .oy 6 23 rfl rfl ((congrArg (!·) c3)) (fun a w hS hI hp => does_val (x_move rfl (hS.get 2 rfl)) rfl) ?_
  refine .oy 6 23 rfl rfl ((congrArg (!·) c3)) (fun a w hS hI hp => does_index (e := 5) (xs := l0) rfl (hp.V 7 rfl rfl) (rfl) (by kernel_rfl) (by kernel_rfl) (by decide) c4 c4 ((Kd.C_below HR0 hI.1))) ?_
  refine .oy 6 23 rfl rfl ((congrArg (!·) c3)) (fun a w hS hI hp => (hp.V 8 rfl rfl).elim fun _ h_ => does_val (x_load1 (d := .int .u8) rfl h_.1 (by kernel_rfl) rfl h_.2.2) rfl) ?_
  refine .oy 6 23 rfl rfl ((congrArg (!·) c3)) (fun a w hS hI hp => does_val (x_bin rfl (hp.V 9 rfl rfl) (rfl) (b_rem _ _ _ _ _ _ (by decide))) rfl) ?_
  refine .oy 6 23 rfl rfl ((congrArg (!·) c3)) (fun a w hS hI hp => does_val (x_bin rfl (hp.V 10 rfl rfl) (rfl) (b_neq _ _ _ _ _ _)) rfl) ?_
  refine .on rfl (fun a w hS hI hp => does_val (x_pickF rfl ((hp.V 6 rfl rfl).trans (bF (congrArg (!·) c3))) (hp.V 11 rfl rfl)) rfl) ?_
  refine .mv 12 rfl rfl rfl ?_
  refine .oy 13 30 rfl rfl ((congrArg (!·) (decide_eq_true c5))) (fun a w hS hI hp => does_val (x_move rfl (hS.get 0 rfl)) rfl) ?_
  refine .oy 13 30 rfl rfl ((congrArg (!·) (decide_eq_true c5))) (fun a w hS hI hp => does_val (x_bin rfl (hp.V 14 rfl rfl) (rfl) (b_lss _ _ _ _ _ _)) rfl) ?_
  refine .on rfl (fun a w hS hI hp => does_val (x_pickF rfl ((hp.V 13 rfl rfl).trans (bF (congrArg (!·) (decide_eq_true c5)))) (hp.V 15 rfl rfl)) rfl) ?_
  refine .mv 16 rfl rfl rfl ?_
  refine .oy 17 34 rfl rfl ((decide_eq_false c6)) (fun a w hS hI hp => does_val (x_move rfl (hS.get 0 rfl)) rfl) ?_
  refine .oy 17 34 rfl rfl ((decide_eq_false c6)) (fun a w hS hI hp => does_val (x_bin rfl (hp.V 18 rfl rfl) (rfl) (b_gtr _ _ _ _ _ _)) rfl) ?_
  refine .on rfl (fun a w hS hI hp => does_val (x_pickF rfl ((hp.V 17 rfl rfl).trans (bF (decide_eq_false c6))) (hp.V 19 rfl rfl)) rfl) ?_
  exact .nil
 clear hS
 intro a0 aB hS av hp
 have ax : sl _ 37 = .bool (decide (aa > 400)) := hp 20 (by decide)
 have hS := hS.cons ax
 clear hp ax
 refine aS _ _ ?_
 by_cases c7 : aa > 400
 ·rw [if_pos c7] at H
  simp only [Option.some.injEq, Prod.mk.injEq] at H
  obtain ⟨rfl, rfl, rfl, rfl, rfl, rfl, rfl, rfl, rfl, rfl, rfl, rfl, rfl, rfl, rfl, rfl, rfl, rfl, rfl, rfl, rfl, rfl, rfl, rfl, rfl⟩ := H
  refine wp_cond_true ((hS.get 0 rfl).trans (bT (decide_eq_true c7))) ?_
  refine wp_seq_k (fun bH aD => ?_)
  refine reg_seq_tail 1 (I := I3_ w w3 aB) (ps := [IsV ((carillonref06_Get.v1 0 0 0 0 0 0 0 0 0 0 0 0 0 0 0 0 0 0 0 0 0 0 0))]) (by kernel_rfl) ?_ ?_ rfl hS ⟨av.1, av.2.1, (bR aB)⟩ ?_ ?_
  ·exact bs3
  ·exact .v (.nil)
  ·refine .on rfl (fun a w hS hI hp => does_val (x_build (vs := []) rfl (by rw [Array.toList_map]; exact (show [] = _ from rfl)) (by kernel_rfl)) rfl) ?_
   exact .nil
  clear hS
  intro bs cr hS ao hp
  replace hS := (hS.nil).cons (hS.get 2 rfl)
  have ay : sl _ 38 = (carillonref06_Get.v1 0 0 0 0 0 0 0 0 0 0 0 0 0 0 0 0 0 0 0 0 0 0 0) := hp 0 (by decide)
  have hS := hS.cons ay
  clear hp ay
  show wpList _ _ _ [_, _, _] _ _
  refine list_step rfl (does_storeAll (g := g4) (cs := (carillonref06_Get.c0 0 0 0 0 0 0 0 0 0 0 0 0 0 0 0 0 0 0 0 0 0 0 0)) rfl (hS.get 1 rfl) (hS.get 0 rfl) ((ao.2.1.block g4 (blk_lt ac)).trans ac) (by kernel_rfl) (by kernel_rfl) (by kernel_rfl)) ?_
  rintro bG aE ⟨rfl, ak, hT⟩
  have aq := hT.below ao.1 az (ao.1).size
  clear hT
  refine list_step rfl (R := fun v w' => Below _ _ w' ∧ (VI 0) v w') (does_val (x_assign rfl (rfl)) rfl) ?_
  rintro aN aY ⟨hb, he⟩
  have ar := below_step aq hb
  have ai := below_step (bR aE) hb
  obtain rfl : aN = .int .i64 0 := he
  refine hS.next (v := .int .i64 0) (d := 3) rfl (by decide) (by rfl) ?_
  clear hS
  intro a1 hS
  refine list_step rfl (R := fun v w' => Below _ _ w' ∧ (VI 4) v w') (does_val (x_assign rfl (rfl)) rfl) ?_
  rintro aO bK ⟨hb, he⟩
  have au := below_step ar hb
  have aj := below_step ai hb
  have aF := below_step (bR aY) hb
  obtain rfl : aO = .int .i64 4 := he
  refine hS.next (v := .int .i64 4) (d := 4) rfl (by decide) (by rfl) ?_
  clear hS
  intro bt hS
  refine wpList_nil ?_
  refine aD _ _ ?_
  refine wp_ret ?_
  (try simp only [Exit.then, Exit.inBlock, Exit.jump, Exit.noGoto])
  exact bodyPost_ret (v := .tuple #[(carillonref06_Get.v1 0 0 0 0 0 0 0 0 0 0 0 0 0 0 0 0 0 0 0 0 0 0 0), .int .i64 0, .int .i64 4]) (results_list (rs := [.cell 2 28, .tmp 3, .tmp 4]) rfl (by simp) (Vals.cell g4 28 (carillonref06_Get.c0 0 0 0 0 0 0 0 0 0 0 0 0 0 0 0 0 0 0 0 0 0 0 0) (0, 0) _ (hS.get 3 rfl) ((aj.block g4 (blk_lt ak)).trans ak) Try.underlying28 rfl (by kernel_rfl) (Vals.at (hS.get 1 rfl) (Vals.at (hS.get 0 rfl) .nil)))) hS.nodef ⟨rfl, au⟩
 rw [if_neg c7] at H
 refine wp_cond_false ((hS.get 0 rfl).trans (bF (decide_eq_false c7))) ?_
 refine wp_skip ?_
 refine b5 _ _ ?_
 refine wp_seq_k (fun bH aD => ?_)
 refine wp_seq_k (fun dV cO => ?_)
 refine reg_seq (I := I3_ w w3 aB) (ps := [IsV (.slice A0 l0.length ap), VI (l0.length : Int), VI aa, VB (decide ((l0.length : Int) < aa))]) (by kernel_rfl) ?_ ?_ rfl hS ⟨av.1, av.2.1, (bR aB)⟩ ?_ ?_
 ·exact bs3
 ·exact .v (.v (.v (.v (.nil))))
 ·refine .ms 3 rfl rfl rfl ?_
  refine .on rfl (fun a w hS hI hp => does_val (x_len (e := 5) rfl (by kernel_rfl) (hp.V 0 rfl rfl)) rfl) ?_
  refine .ms 1 rfl rfl rfl ?_
  refine .on rfl (fun a w hS hI hp => does_val (x_bin rfl (hp.V 1 rfl rfl) (hp.V 2 rfl rfl) (b_lss _ _ _ _ _ _)) rfl) ?_
  exact .nil
 clear hS
 intro dA aE hS a2 hp
 replace hS := (((hS.nil).cons (hS.get 3 rfl)).cons (hS.get 2 rfl)).cons (hS.get 1 rfl)
 have b9 : sl _ 42 = .bool (decide ((l0.length : Int) < aa)) := hp 3 (by decide)
 have hS := hS.cons b9
 clear hp b9
 refine cO _ _ ?_
 by_cases c8 : (l0.length : Int) < aa
 ·rw [if_pos c8] at H
  simp only [Option.some.injEq, Prod.mk.injEq] at H
  obtain ⟨rfl, rfl, rfl, rfl, rfl, rfl, rfl, rfl, rfl, rfl, rfl, rfl, rfl, rfl, rfl, rfl, rfl, rfl, rfl, rfl, rfl, rfl, rfl, rfl, rfl⟩ := H
  refine wp_cond_true ((hS.get 0 rfl).trans (bT (decide_eq_true c8))) ?_
  refine wp_seq_k (fun df bB => ?_)
  refine reg_seq_tail 1 (I := I3_ w w3 aE) (ps := [IsV ((carillonref06_Get.v1 0 0 0 0 0 0 0 0 0 0 0 0 0 0 0 0 0 0 0 0 0 0 0))]) (by kernel_rfl) ?_ ?_ rfl hS ⟨a2.1, a2.2.1, (bR aE)⟩ ?_ ?_
  ·exact bs3
  ·exact .v (.nil)
  ·refine .on rfl (fun a w hS hI hp => does_val (x_build (vs := []) rfl (by rw [Array.toList_map]; exact (show [] = _ from rfl)) (by kernel_rfl)) rfl) ?_
   exact .nil
  clear hS
  intro a1 bK hS bE hp
  replace hS := (hS.nil).cons (hS.get 2 rfl)
  have ca : sl _ 43 = (carillonref06_Get.v1 0 0 0 0 0 0 0 0 0 0 0 0 0 0 0 0 0 0 0 0 0 0 0) := hp 0 (by decide)
  have hS := hS.cons ca
  clear hp ca
  show wpList _ _ _ [_, _, _] _ _
  refine list_step rfl (does_storeAll (g := g4) (cs := (carillonref06_Get.c0 0 0 0 0 0 0 0 0 0 0 0 0 0 0 0 0 0 0 0 0 0 0 0)) rfl (hS.get 1 rfl) (hS.get 0 rfl) ((bE.2.1.block g4 (blk_lt ac)).trans ac) (by kernel_rfl) (by kernel_rfl) (by kernel_rfl)) ?_
  rintro dN aC ⟨rfl, bk, hT⟩
  have bP := hT.below bE.1 az (bE.1).size
  clear hT
  refine list_step rfl (R := fun v w' => Below _ _ w' ∧ (VI 0) v w') (does_val (x_assign rfl (rfl)) rfl) ?_
  rintro cY dt ⟨hb, he⟩
  have bQ := below_step bP hb
  have a6 := below_step (bR aC) hb
  obtain rfl : cY = .int .i64 0 := he
  refine hS.next (v := .int .i64 0) (d := 3) rfl (by decide) (by rfl) ?_
  clear hS
  intro b4 hS
  refine list_step rfl (R := fun v w' => Below _ _ w' ∧ (VI 2) v w') (does_val (x_assign rfl (rfl)) rfl) ?_
  rintro cZ ct ⟨hb, he⟩
  have bS := below_step bQ hb
  have a7 := below_step a6 hb
  have cw := below_step (bR dt) hb
  obtain rfl : cZ = .int .i64 2 := he
  refine hS.next (v := .int .i64 2) (d := 4) rfl (by decide) (by rfl) ?_
  clear hS
  intro dC hS
  refine wpList_nil ?_
  refine bB _ _ ?_
  refine wp_ret ?_
  (try simp only [Exit.then, Exit.inBlock, Exit.jump, Exit.noGoto])
  exact bodyPost_ret (v := .tuple #[(carillonref06_Get.v1 0 0 0 0 0 0 0 0 0 0 0 0 0 0 0 0 0 0 0 0 0 0 0), .int .i64 0, .int .i64 2]) (results_list (rs := [.cell 2 28, .tmp 3, .tmp 4]) rfl (by simp) (Vals.cell g4 28 (carillonref06_Get.c0 0 0 0 0 0 0 0 0 0 0 0 0 0 0 0 0 0 0 0 0 0 0 0) (0, 0) _ (hS.get 3 rfl) ((a7.block g4 (blk_lt bk)).trans bk) Try.underlying28 rfl (by kernel_rfl) (Vals.at (hS.get 1 rfl) (Vals.at (hS.get 0 rfl) .nil)))) hS.nodef ⟨rfl, bS⟩
 rw [if_neg c8] at H
 refine wp_cond_false ((hS.get 0 rfl).trans (bF (decide_eq_false c8))) ?_
 refine wp_skip ?_
 refine aD _ _ ?_
 refine wp_seq_k (fun df bB => ?_)
 refine wp_seq_k (fun dW cP => ?_)
 refine reg_seq (I := I3_ w w3 aE) (ps := [IsV (.slice A0 l0.length ap), VI (l0.length : Int), VI aa, VB (decide ((l0.length : Int) > aa))]) (by kernel_rfl) ?_ ?_ rfl hS ⟨a2.1, a2.2.1, (bR aE)⟩ ?_ ?_
 ·exact bs3
 ·exact .v (.v (.v (.v (.nil))))
 ·refine .ms 3 rfl rfl rfl ?_
  refine .on rfl (fun a w hS hI hp => does_val (x_len (e := 5) rfl (by kernel_rfl) (hp.V 0 rfl rfl)) rfl) ?_
  refine .ms 1 rfl rfl rfl ?_
  refine .on rfl (fun a w hS hI hp => does_val (x_bin rfl (hp.V 1 rfl rfl) (hp.V 2 rfl rfl) (b_gtr _ _ _ _ _ _)) rfl) ?_
  exact .nil
 clear hS
 intro dB aC hS al hp
 replace hS := (((hS.nil).cons (hS.get 3 rfl)).cons (hS.get 2 rfl)).cons (hS.get 1 rfl)
 have cb : sl _ 47 = .bool (decide ((l0.length : Int) > aa)) := hp 3 (by decide)
 have hS := hS.cons cb
 clear hp cb
 refine cP _ _ ?_
 by_cases c9 : (l0.length : Int) > aa
 ·rw [if_pos c9] at H
  simp only [Option.some.injEq, Prod.mk.injEq] at H
  obtain ⟨rfl, rfl, rfl, rfl, rfl, rfl, rfl, rfl, rfl, rfl, rfl, rfl, rfl, rfl, rfl, rfl, rfl, rfl, rfl, rfl, rfl, rfl, rfl, rfl, rfl⟩ := H
  refine wp_cond_true ((hS.get 0 rfl).trans (bT (decide_eq_true c9))) ?_
  refine wp_seq_k (fun dg bC => ?_)
  refine reg_seq_tail 1 (I := I3_ w w3 aC) (ps := [IsV ((carillonref06_Get.v1 0 0 0 0 0 0 0 0 0 0 0 0 0 0 0 0 0 0 0 0 0 0 0))]) (by kernel_rfl) ?_ ?_ rfl hS ⟨al.1, al.2.1, (bR aC)⟩ ?_ ?_
  ·exact bs3
  ·exact .v (.nil)
  ·refine .on rfl (fun a w hS hI hp => does_val (x_build (vs := []) rfl (by rw [Array.toList_map]; exact (show [] = _ from rfl)) (by kernel_rfl)) rfl) ?_
   exact .nil
  clear hS
  intro b4 ct hS aA hp
  replace hS := (hS.nil).cons (hS.get 2 rfl)
  have cc : sl _ 48 = (carillonref06_Get.v1 0 0 0 0 0 0 0 0 0 0 0 0 0 0 0 0 0 0 0 0 0 0 0) := hp 0 (by decide)
  have hS := hS.cons cc
  clear hp cc
  show wpList _ _ _ [_, _, _] _ _
  refine list_step rfl (does_storeAll (g := g4) (cs := (carillonref06_Get.c0 0 0 0 0 0 0 0 0 0 0 0 0 0 0 0 0 0 0 0 0 0 0 0)) rfl (hS.get 1 rfl) (hS.get 0 rfl) ((aA.2.1.block g4 (blk_lt ac)).trans ac) (by kernel_rfl) (by kernel_rfl) (by kernel_rfl)) ?_
  rintro dO du ⟨rfl, bl, hT⟩
  have bU := hT.below aA.1 az (aA.1).size
  clear hT
  refine list_step rfl (R := fun v w' => Below _ _ w' ∧ (VI 0) v w') (does_val (x_assign rfl (rfl)) rfl) ?_
  rintro cq bL ⟨hb, he⟩
  have aR := below_step bU hb
  have a9 := below_step (bR du) hb
  obtain rfl : cq = .int .i64 0 := he
  refine hS.next (v := .int .i64 0) (d := 3) rfl (by decide) (by rfl) ?_
  clear hS
  intro dD hS
  refine list_step rfl (R := fun v w' => Below _ _ w' ∧ (VI 3) v w') (does_val (x_assign rfl (rfl)) rfl) ?_
  rintro da d7 ⟨hb, he⟩
  have bV := below_step aR hb
  have ba := below_step a9 hb
  have cx := below_step (bR bL) hb
  obtain rfl : da = .int .i64 3 := he
  refine hS.next (v := .int .i64 3) (d := 4) rfl (by decide) (by rfl) ?_
  clear hS
  intro cN hS
  refine wpList_nil ?_
  refine bC _ _ ?_
  refine wp_ret ?_
  (try simp only [Exit.then, Exit.inBlock, Exit.jump, Exit.noGoto])
  exact bodyPost_ret (v := .tuple #[(carillonref06_Get.v1 0 0 0 0 0 0 0 0 0 0 0 0 0 0 0 0 0 0 0 0 0 0 0), .int .i64 0, .int .i64 3]) (results_list (rs := [.cell 2 28, .tmp 3, .tmp 4]) rfl (by simp) (Vals.cell g4 28 (carillonref06_Get.c0 0 0 0 0 0 0 0 0 0 0 0 0 0 0 0 0 0 0 0 0 0 0 0) (0, 0) _ (hS.get 3 rfl) ((ba.block g4 (blk_lt bl)).trans bl) Try.underlying28 rfl (by kernel_rfl) (Vals.at (hS.get 1 rfl) (Vals.at (hS.get 0 rfl) .nil)))) hS.nodef ⟨rfl, bV⟩
 rw [if_neg c9] at H
 by_cases bI : 4 < (l0.length : Int)
 rotate_left
 ·rw [if_neg bI] at H
  exact absurd H (by simp)
 rw [if_pos bI] at H
 obtain ⟨dm, cI, H⟩ := Option.bind_eq_some_iff.mp H
 obtain ⟨ad, aT⟩ := dm
 (try dsimp only at H)
 obtain ⟨dn, cJ, H⟩ := Option.bind_eq_some_iff.mp H
 obtain ⟨ae, aU⟩ := dn
 (try dsimp only at H)
 obtain ⟨dp, cK, H⟩ := Option.bind_eq_some_iff.mp H
 obtain ⟨ag, ah, aV⟩ := dp
 (try dsimp only at H)
 obtain ⟨dq, cL, H⟩ := Option.bind_eq_some_iff.mp H
 obtain ⟨am, aW⟩ := dq
 (try dsimp only at H)
 obtain ⟨dr, cM, H⟩ := Option.bind_eq_some_iff.mp H
 obtain ⟨an, aX⟩ := dr
 (try dsimp only at H)
 simp only [Option.some.injEq, Prod.mk.injEq] at H
 obtain ⟨rfl, rfl, rfl, rfl, rfl, rfl, rfl, rfl, rfl, rfl, rfl, rfl, rfl, rfl, rfl, rfl, rfl, rfl, rfl, rfl, rfl, rfl, rfl, rfl, rfl⟩ := H
 refine wp_cond_false ((hS.get 0 rfl).trans (bF (decide_eq_false c9))) ?_
 refine wp_skip ?_
 refine bB _ _ ?_
 refine wp_seq_k (fun dg bC => ?_)
 refine reg_any_tail 10 [0, 1, 3, 7, 0, 16, 48, 112, 255, 0, 1023] (I := I3_ w w3 aC) (ps := [IsV (.slice A0 l0.length ap), IsA (.int .u8 (rd l0 0)), IsV (.int .u8 (rd l0 0)), VI (wrap64 (rd l0 0)), IsV (.slice A0 l0.length ap), IsA (.int .u8 (rd l0 4)), IsV (.int .u8 (rd l0 4)), VI (wrap64 (rd l0 4)), IsV ((carillonref06_Get.v1 (wrap64 (rd l0 0)) (wrap64 (rd l0 4)) 0 0 0 0 0 0 0 0 0 0 0 0 0 0 0 0 0 0 0 0 0)), IsB (carillonref06_Get.c0 0 0 0 0 0 0 0 0 0 0 0 0 0 0 0 0 0 0 0 0 0 0 0) 28 aC.heap.size]) (by kernel_rfl) (by kernel_rfl) (by kernel_rfl) (by decide) ?_ ?_ rfl hS ⟨al.1, al.2.1, (bR aC)⟩ ?_ ?_
 ·exact bs3
 ·exact .v (.cons (Stays.a _) (.v (.v (.v (.cons (Stays.a _) (.v (.v (.v (.cons (Stays.b _ _ _) (.nil))))))))))
 ·refine .ms 3 rfl rfl rfl ?_
  refine .on rfl (fun a w hS hI hp => does_index (e := 5) (xs := l0) rfl (hp.V 0 rfl rfl) (rfl) (by kernel_rfl) (by kernel_rfl) (by decide) c2 c2 ((Kd.C_below HR0 hI.1))) ?_
  refine .on rfl (fun a w hS hI hp => (hp.V 1 rfl rfl).elim fun _ h_ => does_val (x_load1 (d := .int .u8) rfl h_.1 (by kernel_rfl) rfl h_.2.2) rfl) ?_
  refine .on rfl (fun a w hS hI hp => does_val ((i64_w (rd l0 0)) ▸ x_convI rfl (by kernel_rfl) (by kernel_rfl) (hp.V 2 rfl rfl)) rfl) ?_
  refine .ms 3 rfl rfl rfl ?_
  refine .on rfl (fun a w hS hI hp => does_index (e := 5) (xs := l0) rfl (hp.V 4 rfl rfl) (rfl) (by kernel_rfl) (by kernel_rfl) (by decide) bI bI ((Kd.C_below HR0 hI.1))) ?_
  refine .on rfl (fun a w hS hI hp => (hp.V 5 rfl rfl).elim fun _ h_ => does_val (x_load1 (d := .int .u8) rfl h_.1 (by kernel_rfl) rfl h_.2.2) rfl) ?_
  refine .on rfl (fun a w hS hI hp => does_val ((i64_w (rd l0 4)) ▸ x_convI rfl (by kernel_rfl) (by kernel_rfl) (hp.V 6 rfl rfl)) rfl) ?_
  refine .on rfl (fun a w hS hI hp => does_val (x_build (vs := [(0, .int .i64 (wrap64 (rd l0 0))), (1, .int .i64 (wrap64 (rd l0 4)))]) rfl (by rw [Array.toList_map]; exact (show [(0, a.eval (.tmp 52)), (1, a.eval (.tmp 56))] = _ from (li_cons (hp.V 3 rfl rfl) (li_cons (hp.V 7 rfl rfl) rfl)))) (by kernel_rfl)) rfl) ?_
  refine .on rfl (fun a w hS hI hp => does_var (x_alloc rfl (by kernel_rfl)) (hI.2.2).size) ?_
  exact .nil
 clear hS
 intro b4 ct hS aA hp
 replace hS := (((hS.nil).cons (hS.get 3 rfl)).cons (hS.get 2 rfl)).cons (hS.get 1 rfl)
 have cd : sl _ 57 = (carillonref06_Get.v1 (wrap64 (rd l0 0)) (wrap64 (rd l0 4)) 0 0 0 0 0 0 0 0 0 0 0 0 0 0 0 0 0 0 0 0 0) := hp 8 (by decide)
 obtain ⟨af, cB, ab, bi⟩ := (show IsB _ 28 _ (sl _ 7) _ from hp 9 (by decide))
 have hS := hS.cons cd
 have hS := hS.cons cB
 clear hp cd cB
 show wpList _ _ _ [_] _ _
 refine list_step rfl (does_storeAll (g := af) (cs := (carillonref06_Get.c0 (wrap64 (rd l0 0)) (wrap64 (rd l0 4)) 0 0 0 0 0 0 0 0 0 0 0 0 0 0 0 0 0 0 0 0 0)) rfl (hS.get 0 rfl) (hS.get 1 rfl) (((bR ct).block af (blk_lt bi)).trans bi) (by kernel_rfl) (by kernel_rfl) (by kernel_rfl)) ?_
 rintro cq bL ⟨rfl, bm, hT⟩
 have aR := hT.below aA.1 (Nat.le_trans (al.1).size ab) (aA.1).size
 have bu := hT.below aA.2.1 (Nat.le_trans (al.2.1).size ab) (aA.2.1).size
 have a8 := hT.below aA.2.2 ab (aA.2.2).size
 clear hT
 refine wpList_nil ?_
 refine bC _ _ ?_
 refine wp_seq_k (fun dX cQ => ?_)
 refine reg_seq_tail 6 (I := I4_ w w3 aC bL) (ps := [IsV (.slice A0 l0.length ap), IsV (.tuple #[.int .i64 ad, .bool aT]), IsV (.tuple #[.int .i64 ad, .bool aT]), VI ad, VB aT, VP af 2]) (by kernel_rfl) ?_ ?_ rfl hS ⟨aR, bu, a8, (bR bL)⟩ ?_ ?_
 ·exact bs4
 ·exact .v (.v (.v (.v (.v (.v (.nil))))))
 ·refine .ms 4 rfl rfl rfl ?_
  refine .on rfl (fun a w hS hI hp => does_call (by kernel_rfl) (ar3 (hp.V 0 rfl rfl) (rfl) (rfl)) ((carillonref01_Get.calls k _ _ l0 6 2 ad aT _ (Kd.C_below HR0 hI.1) HC0 cI).mono fun _ _ h => ⟨_, h.1, h.2.below, rfl⟩)) ?_
  refine .mv 1 rfl rfl rfl ?_
  iterate 2 refine .on rfl (fun a w hS hI hp => does_val (x_extract rfl (hp.V 2 rfl rfl) rfl) rfl) ?_
  refine .on rfl (fun a w hS hI hp => does_val (x_fieldE (b := 0) rfl (hS.get 0 rfl) Try.underlying28 rfl rfl (by kernel_rfl)) rfl) ?_
  exact .nil
 clear hS
 intro cN d8 hS aI hp
 replace hS := ((((hS.nil).cons (hS.get 4 rfl)).cons (hS.get 3 rfl)).cons (hS.get 2 rfl)).cons (hS.get 0 rfl)
 have ce : sl _ 61 = .int .i64 ad := hp 3 (by decide)
 have cf : sl _ 63 = .pointer (some ⟨af, 2, none⟩) := hp 5 (by decide)
 have hS := hS.cons ce
 have hS := hS.cons cf
 clear hp ce cf
 show wpList _ _ _ [_] _ _
 refine list_step rfl (does_store (g := af) (off := 2) (v := .int .i64 ad) (new := (carillonref06_Get.c0 (wrap64 (rd l0 0)) (wrap64 (rd l0 4)) ad 0 0 0 0 0 0 0 0 0 0 0 0 0 0 0 0 0 0 0 0)) rfl (hS.get 0 rfl) (hS.get 1 rfl) ((aI.2.2.2.block af (blk_lt bm)).trans bm) (by kernel_rfl) (by kernel_rfl) (by kernel_rfl) (by kernel_rfl)) ?_
 rintro dP cC ⟨rfl, bn, hT⟩
 have bW := hT.below aI.1 (Nat.le_trans (al.1).size ab) (aI.1).size
 have bv := hT.below aI.2.1 (Nat.le_trans (al.2.1).size ab) (aI.2.1).size
 have bb := hT.below aI.2.2.1 ab (aI.2.2.1).size
 clear hT
 refine wpList_nil ?_
 refine cQ _ _ ?_
 refine wp_seq_k (fun dY cR => ?_)
 refine reg_seq_tail 6 (I := I4_ w w3 aC cC) (ps := [IsV (.slice A0 l0.length ap), IsV (.tuple #[.int .i64 ae, .bool aU]), IsV (.tuple #[.int .i64 ae, .bool aU]), VI ae, VB aU, VP af 3]) (by kernel_rfl) ?_ ?_ rfl hS ⟨bW, bv, bb, (bR cC)⟩ ?_ ?_
 ·exact bs4
 ·exact .v (.v (.v (.v (.v (.v (.nil))))))
 ·refine .ms 5 rfl rfl rfl ?_
  refine .on rfl (fun a w hS hI hp => does_call (by kernel_rfl) (ar3 (hp.V 0 rfl rfl) (rfl) (rfl)) ((carillonref01_Signed.calls k _ _ l0 8 8 ae aU _ (Kd.C_below HR0 hI.1) HC0 cJ).mono fun _ _ h => ⟨_, h.1, h.2.below, rfl⟩)) ?_
  refine .mv 1 rfl rfl rfl ?_
  iterate 2 refine .on rfl (fun a w hS hI hp => does_val (x_extract rfl (hp.V 2 rfl rfl) rfl) rfl) ?_
  refine .on rfl (fun a w hS hI hp => does_val (x_fieldE (b := 0) rfl (hS.get 2 rfl) Try.underlying28 rfl rfl (by kernel_rfl)) rfl) ?_
  exact .nil
 clear hS
 intro dE d9 hS aJ hp
 replace hS := ((((hS.nil).cons (hS.get 5 rfl)).cons (hS.get 4 rfl)).cons (hS.get 3 rfl)).cons (hS.get 2 rfl)
 have cg : sl _ 67 = .int .i64 ae := hp 3 (by decide)
 have ch : sl _ 69 = .pointer (some ⟨af, 3, none⟩) := hp 5 (by decide)
 have hS := hS.cons cg
 have hS := hS.cons ch
 clear hp cg ch
 show wpList _ _ _ [_] _ _
 refine list_step rfl (does_store (g := af) (off := 3) (v := .int .i64 ae) (new := (carillonref06_Get.c0 (wrap64 (rd l0 0)) (wrap64 (rd l0 4)) ad ae 0 0 0 0 0 0 0 0 0 0 0 0 0 0 0 0 0 0 0)) rfl (hS.get 0 rfl) (hS.get 1 rfl) ((aJ.2.2.2.block af (blk_lt bn)).trans bn) (by kernel_rfl) (by kernel_rfl) (by kernel_rfl) (by kernel_rfl)) ?_
 rintro dQ cD ⟨rfl, bo, hT⟩
 have bX := hT.below aJ.1 (Nat.le_trans (al.1).size ab) (aJ.1).size
 have bw := hT.below aJ.2.1 (Nat.le_trans (al.2.1).size ab) (aJ.2.1).size
 have bc := hT.below aJ.2.2.1 ab (aJ.2.2.1).size
 clear hT
 refine wpList_nil ?_
 refine cR _ _ ?_
 refine wp_seq_k (fun dZ cS => ?_)
 refine reg_seq_tail 6 (I := I4_ w w3 aC cD) (ps := [IsV (.slice A0 l0.length ap), IsV (.tuple #[.agg #[.int .u64 ag, .int .i64 ah], .bool aV]), IsV (.tuple #[.agg #[.int .u64 ag, .int .i64 ah], .bool aV]), IsV (.agg #[.int .u64 ag, .int .i64 ah]), VB aV, VP af 4]) (by kernel_rfl) ?_ ?_ rfl hS ⟨bX, bw, bc, (bR cD)⟩ ?_ ?_
 ·exact bs4
 ·exact .v (.v (.v (.v (.v (.v (.nil))))))
 ·refine .ms 5 rfl rfl rfl ?_
  refine .on rfl (fun a w hS hI hp => does_call (by kernel_rfl) (ar2 (hp.V 0 rfl rfl) (rfl)) ((carillonref04_Get.calls k _ _ l0 20 ag ah aV _ (Kd.C_below HR0 hI.1) HC0 cK).mono fun _ _ h => ⟨_, h.1, h.2, rfl⟩)) ?_
  refine .mv 1 rfl rfl rfl ?_
  iterate 2 refine .on rfl (fun a w hS hI hp => does_val (x_extract rfl (hp.V 2 rfl rfl) rfl) rfl) ?_
  refine .on rfl (fun a w hS hI hp => does_val (x_fieldE (b := 0) rfl (hS.get 2 rfl) Try.underlying28 rfl rfl (by kernel_rfl)) rfl) ?_
  exact .nil
 clear hS
 intro dF ea hS aK hp
 replace hS := ((((hS.nil).cons (hS.get 5 rfl)).cons (hS.get 4 rfl)).cons (hS.get 3 rfl)).cons (hS.get 2 rfl)
 have ci : sl _ 73 = .agg #[.int .u64 ag, .int .i64 ah] := hp 3 (by decide)
 have cj : sl _ 75 = .pointer (some ⟨af, 4, none⟩) := hp 5 (by decide)
 have hS := hS.cons ci
 have hS := hS.cons cj
 clear hp ci cj
 show wpList _ _ _ [_] _ _
 refine list_step rfl (does_store (g := af) (off := 4) (v := .agg #[.int .u64 ag, .int .i64 ah]) (new := (carillonref06_Get.c0 (wrap64 (rd l0 0)) (wrap64 (rd l0 4)) ad ae ag ah 0 0 0 0 0 0 0 0 0 0 0 0 0 0 0 0 0)) rfl (hS.get 0 rfl) (hS.get 1 rfl) ((aK.2.2.2.block af (blk_lt bo)).trans bo) (by kernel_rfl) (by kernel_rfl) (by kernel_rfl) (by kernel_rfl)) ?_
 rintro dR cE ⟨rfl, bp, hT⟩
 have bY := hT.below aK.1 (Nat.le_trans (al.1).size ab) (aK.1).size
 have bx := hT.below aK.2.1 (Nat.le_trans (al.2.1).size ab) (aK.2.1).size
 have bd := hT.below aK.2.2.1 ab (aK.2.2.1).size
 clear hT
 refine wpList_nil ?_
 refine cS _ _ ?_
 refine wp_seq_k (fun d0 cT => ?_)
 refine reg_seq_tail 6 (I := I4_ w w3 aC cE) (ps := [IsV (.slice A0 l0.length ap), IsV (.tuple #[.int .i64 am, .bool aW]), IsV (.tuple #[.int .i64 am, .bool aW]), VI am, VB aW, VP af 6]) (by kernel_rfl) ?_ ?_ rfl hS ⟨bY, bx, bd, (bR cE)⟩ ?_ ?_
 ·exact bs4
 ·exact .v (.v (.v (.v (.v (.v (.nil))))))
 ·refine .ms 5 rfl rfl rfl ?_
  refine .on rfl (fun a w hS hI hp => does_call (by kernel_rfl) (ar3 (hp.V 0 rfl rfl) (rfl) (rfl)) ((carillonref01_Get.calls k _ _ l0 30 2 am aW _ (Kd.C_below HR0 hI.1) HC0 cL).mono fun _ _ h => ⟨_, h.1, h.2.below, rfl⟩)) ?_
  refine .mv 1 rfl rfl rfl ?_
  iterate 2 refine .on rfl (fun a w hS hI hp => does_val (x_extract rfl (hp.V 2 rfl rfl) rfl) rfl) ?_
  refine .on rfl (fun a w hS hI hp => does_val (x_fieldE (b := 0) rfl (hS.get 2 rfl) Try.underlying28 rfl rfl (by kernel_rfl)) rfl) ?_
  exact .nil
 clear hS
 intro dG eb hS aL hp
 replace hS := ((((hS.nil).cons (hS.get 5 rfl)).cons (hS.get 4 rfl)).cons (hS.get 3 rfl)).cons (hS.get 2 rfl)
 have ck : sl _ 79 = .int .i64 am := hp 3 (by decide)
 have cl : sl _ 81 = .pointer (some ⟨af, 6, none⟩) := hp 5 (by decide)
 have hS := hS.cons ck
 have hS := hS.cons cl
 clear hp ck cl
 show wpList _ _ _ [_] _ _
 refine list_step rfl (does_store (g := af) (off := 6) (v := .int .i64 am) (new := (carillonref06_Get.c0 (wrap64 (rd l0 0)) (wrap64 (rd l0 4)) ad ae ag ah am 0 0 0 0 0 0 0 0 0 0 0 0 0 0 0 0)) rfl (hS.get 0 rfl) (hS.get 1 rfl) ((aL.2.2.2.block af (blk_lt bp)).trans bp) (by kernel_rfl) (by kernel_rfl) (by kernel_rfl) (by kernel_rfl)) ?_
 rintro dS cF ⟨rfl, bq, hT⟩
 have bZ := hT.below aL.1 (Nat.le_trans (al.1).size ab) (aL.1).size
 have bz := hT.below aL.2.1 (Nat.le_trans (al.2.1).size ab) (aL.2.1).size
 have be := hT.below aL.2.2.1 ab (aL.2.2.1).size
 clear hT
 refine wpList_nil ?_
 refine cT _ _ ?_
 refine wp_seq_k (fun d1 cU => ?_)
 refine reg_seq_tail 6 (I := I4_ w w3 aC cF) (ps := [IsV (.slice A0 l0.length ap), IsV (.tuple #[.int .i64 an, .bool aX]), IsV (.tuple #[.int .i64 an, .bool aX]), VI an, VB aX, VP af 7]) (by kernel_rfl) ?_ ?_ rfl hS ⟨bZ, bz, be, (bR cF)⟩ ?_ ?_
 ·exact bs4
 ·exact .v (.v (.v (.v (.v (.v (.nil))))))
 ·refine .ms 5 rfl rfl rfl ?_
  refine .on rfl (fun a w hS hI hp => does_call (by kernel_rfl) (ar3 (hp.V 0 rfl rfl) (rfl) (rfl)) ((carillonref01_Signed.calls k _ _ l0 33 1 an aX _ (Kd.C_below HR0 hI.1) HC0 cM).mono fun _ _ h => ⟨_, h.1, h.2.below, rfl⟩)) ?_
  refine .mv 1 rfl rfl rfl ?_
  iterate 2 refine .on rfl (fun a w hS hI hp => does_val (x_extract rfl (hp.V 2 rfl rfl) rfl) rfl) ?_
  refine .on rfl (fun a w hS hI hp => does_val (x_fieldE (b := 0) rfl (hS.get 2 rfl) Try.underlying28 rfl rfl (by kernel_rfl)) rfl) ?_
  exact .nil
 clear hS
 intro dH ec hS aM hp
 replace hS := (((hS.nil).cons (hS.get 4 rfl)).cons (hS.get 3 rfl)).cons (hS.get 2 rfl)
 have cm : sl _ 85 = .int .i64 an := hp 3 (by decide)
 have cn : sl _ 87 = .pointer (some ⟨af, 7, none⟩) := hp 5 (by decide)
 have hS := hS.cons cm
 have hS := hS.cons cn
 clear hp cm cn
 show wpList _ _ _ [_] _ _
 refine list_step rfl (does_store (g := af) (off := 7) (v := .int .i64 an) (new := (carillonref06_Get.c0 (wrap64 (rd l0 0)) (wrap64 (rd l0 4)) ad ae ag ah am an 0 0 0 0 0 0 0 0 0 0 0 0 0 0 0)) rfl (hS.get 0 rfl) (hS.get 1 rfl) ((aM.2.2.2.block af (blk_lt bq)).trans bq) (by kernel_rfl) (by kernel_rfl) (by kernel_rfl) (by kernel_rfl)) ?_
 rintro dT cG ⟨rfl, aP, hT⟩
 have b0 := hT.below aM.1 (Nat.le_trans (al.1).size ab) (aM.1).size
 have bA := hT.below aM.2.1 (Nat.le_trans (al.2.1).size ab) (aM.2.1).size
 have bf := hT.below aM.2.2.1 ab (aM.2.2.1).size
 clear hT
 refine wpList_nil ?_
 refine cU _ _ ?_
 refine wp_seq_k (fun d2 cV => ?_)
 refine reg_seq_tail 2 (I := I4_ w w3 aC cG) (ps := [IsV ((carillonref06_Get.v1 (wrap64 (rd l0 0)) (wrap64 (rd l0 4)) ad ae ag ah am an 0 0 0 0 0 0 0 0 0 0 0 0 0 0 0)), VI aa]) (by kernel_rfl) ?_ ?_ rfl hS ⟨b0, bA, bf, (bR cG)⟩ ?_ ?_
 ·exact bs4
 ·exact .v (.v (.nil))
 ·refine .on rfl (fun a w hS hI hp => does_loadrow rfl (hS.get 2 rfl) (((hI.2.2.2).block af (blk_lt aP)).trans aP) Try.underlying28 rfl (by kernel_rfl) rfl) ?_
  refine .ms 3 rfl rfl rfl ?_
  exact .nil
 clear hS
 intro dI ed hS a3 hp
 replace hS := (hS.nil).cons (hS.get 4 rfl)
 have co : sl _ 88 = (carillonref06_Get.v1 (wrap64 (rd l0 0)) (wrap64 (rd l0 4)) ad ae ag ah am an 0 0 0 0 0 0 0 0 0 0 0 0 0 0 0) := hp 0 (by decide)
 have cp : sl _ 89 = .int .i64 aa := hp 1 (by decide)
 have hS := hS.cons co
 have hS := hS.cons cp
 clear hp co cp
 show wpList _ _ _ [_, _, _] _ _
 refine list_step rfl (does_storeAll (g := g4) (cs := (carillonref06_Get.c0 (wrap64 (rd l0 0)) (wrap64 (rd l0 4)) ad ae ag ah am an 0 0 0 0 0 0 0 0 0 0 0 0 0 0 0)) rfl (hS.get 2 rfl) (hS.get 1 rfl) ((a3.2.1.block g4 (blk_lt ac)).trans ac) (by kernel_rfl) (by kernel_rfl) (by kernel_rfl)) ?_
 rintro dU dv ⟨rfl, br, hT⟩
 have dL := hT.blk ((a3.2.2.2.block af (blk_lt aP)).trans aP) (Nat.ne_of_gt (Nat.lt_of_lt_of_le (Nat.lt_of_lt_of_le (blk_lt ac) (al.2.1).size) ab))
 have b1 := hT.below a3.1 az (a3.1).size
 clear hT
 refine list_step rfl (R := fun v w' => Below _ _ w' ∧ (VI aa) v w') (does_val (x_assign rfl (hS.get 0 rfl)) rfl) ?_
 rintro db dw ⟨hb, he⟩
 have b2 := below_step b1 hb
 have bg := below_step (bR dv) hb
 obtain rfl : db = .int .i64 aa := he
 refine hS.next (v := .int .i64 aa) (d := 3) rfl (by decide) (by rfl) ?_
 clear hS
 intro dJ hS
 refine list_step rfl (R := fun v w' => Below _ _ w' ∧ (VI 0) v w') (does_val (x_assign rfl (rfl)) rfl) ?_
 rintro dc ee ⟨hb, he⟩
 have b3 := below_step b2 hb
 have bh := below_step bg hb
 have cy := below_step (bR dw) hb
 obtain rfl : dc = .int .i64 0 := he
 refine hS.next (v := .int .i64 0) (d := 4) rfl (by decide) (by rfl) ?_
 clear hS
 intro dK hS
 refine wpList_nil ?_
 refine cV _ _ ?_
 refine wp_ret ?_
 (try simp only [Exit.then, Exit.inBlock, Exit.jump, Exit.noGoto])
 exact bodyPost_ret (v := .tuple #[(carillonref06_Get.v1 (wrap64 (rd l0 0)) (wrap64 (rd l0 4)) ad ae ag ah am an 0 0 0 0 0 0 0 0 0 0 0 0 0 0 0), .int .i64 aa, .int .i64 0]) (results_list (rs := [.cell 2 28, .tmp 3, .tmp 4]) rfl (by simp) (Vals.cell g4 28 (carillonref06_Get.c0 (wrap64 (rd l0 0)) (wrap64 (rd l0 4)) ad ae ag ah am an 0 0 0 0 0 0 0 0 0 0 0 0 0 0 0) (0, 0) _ (hS.get 4 rfl) ((bh.block g4 (blk_lt br)).trans br) Try.underlying28 rfl (by kernel_rfl) (Vals.at (hS.get 1 rfl) (Vals.at (hS.get 0 rfl) .nil)))) hS.nodef ⟨rfl, b3⟩
mutual
def carillonref07_Len.j0 : Nat → Int → Bool → Option (Int)
  | 0, _, _ => none
  | k + 1, x3, x4 => if x4 = true then (some 10) else (if x3 = 2 then (carillonref07_Len.j1 k x3 (x3 == 2)) else (if x3 = 3 then (carillonref07_Len.j1 k x3 (x3 == 3)) else (if x3 = 10 then (carillonref07_Len.j1 k x3 (x3 == 10)) else (carillonref07_Len.j1 k x3 (x3 == 9)))))
def carillonref07_Len.j1 : Nat → Int → Bool → Option (Int)
  | 0, _, _ => none
  | k + 1, x3, x9 => if x9 = true then (some 20) else (if x3 = 11 then (some 30) else (if x3 = 13 then (some 14) else (some 0)))
end
def carillonref07_Len.f (k : Nat) (a0 : Int) : Option (Int) := if a0 = 0 then (carillonref07_Len.j0 k a0 (a0 == 0)) else (if a0 = 1 then (carillonref07_Len.j0 k a0 (a0 == 1)) else (if a0 = 8 then (carillonref07_Len.j0 k a0 (a0 == 8)) else (carillonref07_Len.j0 k a0 (a0 == 12))))
set_option maxHeartbeats 8000000 in
set_option maxRecDepth 100000 in
theorem carillonref07_Len.calls (k : Nat) (a0 : Int) (r : Int) (w : World) (h : carillonref07_Len.f k a0 = some r) :
    Calls Try.prog 25 #[.int .i64 a0] w fun e w' => e = .returned (.int .i64 r) ∧ Drawn0 w w' := by
  have H : (if a0 = 0 then (carillonref07_Len.j0 k a0 (a0 == 0)) else (if a0 = 1 then (carillonref07_Len.j0 k a0 (a0 == 1)) else (if a0 = 8 then (carillonref07_Len.j0 k a0 (a0 == 8)) else (carillonref07_Len.j0 k a0 (a0 == 12))))) = some r := h
  clear h
  have HC2 := Aside0.mk H
  clear H
  go_enter Try.func25, Try.ntmps25
  go_upto_if 4 with (fail)
  go_cut [4] (fun v4 wc => ∃ (kq : Nat) (x4_1 : Bool), v4 = .bool x4_1 ∧ Aside0 (carillonref07_Len.j0 kq a0 x4_1 = some r) ∧ Aside0 (kq ≤ k) ∧ Drawn0 w wc)
  case first =>
    have H := HC2.out
    clear HC2
    by_cases c3 : a0 = 0
    · rw [if_pos c3] at H
      have c3b0 : (a0 == 0) = true := beq_iff_eq.mpr c3
      have c3b1 : (a0 != 0) = false := bne_eq_false_iff_eq.mpr c3
      clear c3
      (first | rw [c3b0] | (simp only [i64_w, i32_w]; rw [c3b0]) | skip)
      have H' := Aside0.mk H
      clear H
      go_wp2
      go_meet
      case rel => exact ⟨_, ((a0 == 0)), (by first | rfl | (simp; done) | (simp [*]; done)), H', ⟨by first | omega | exact Nat.le_refl _⟩, by repeat (first | exact Drawn0.refl _ | apply Drawn0.step)⟩
    · rw [if_neg c3] at H
      have c3b0 : (a0 == 0) = false := beq_eq_false_iff_ne.mpr c3
      have c3b1 : (a0 != 0) = true := bne_iff_ne.mpr c3
      (first | rw [c3b0] | (simp only [i64_w, i32_w]; rw [c3b0]) | skip)
      by_cases c4 : a0 = 1
      · rw [if_pos c4] at H
        have c4b0 : (a0 == 1) = true := beq_iff_eq.mpr c4
        have c4b1 : (a0 != 1) = false := bne_eq_false_iff_eq.mpr c4
        clear c4
        have H' := Aside0.mk H
        clear H
        go_wp2
        go_meet
        case rel => exact ⟨_, ((a0 == 1)), (by first | rfl | (simp; done) | (simp [*]; done)), H', ⟨by first | omega | exact Nat.le_refl _⟩, by repeat (first | exact Drawn0.refl _ | apply Drawn0.step)⟩
      · rw [if_neg c4] at H
        have c4b0 : (a0 == 1) = false := beq_eq_false_iff_ne.mpr c4
        have c4b1 : (a0 != 1) = true := bne_iff_ne.mpr c4
        by_cases c5 : a0 = 8
        · rw [if_pos c5] at H
          have c5b0 : (a0 == 8) = true := beq_iff_eq.mpr c5
          have c5b1 : (a0 != 8) = false := bne_eq_false_iff_eq.mpr c5
          clear c5
          have H' := Aside0.mk H
          clear H
          go_wp2
          go_meet
          case rel => exact ⟨_, ((a0 == 8)), (by first | rfl | (simp; done) | (simp [*]; done)), H', ⟨by first | omega | exact Nat.le_refl _⟩, by repeat (first | exact Drawn0.refl _ | apply Drawn0.step)⟩
        · rw [if_neg c5] at H
          have c5b0 : (a0 == 8) = false := beq_eq_false_iff_ne.mpr c5
          have c5b1 : (a0 != 8) = true := bne_iff_ne.mpr c5
          have H' := Aside0.mk H
          clear H
          go_wp2
          go_meet
          case rel => exact ⟨_, ((a0 == 12)), (by first | rfl | (simp; done) | (simp [*]; done)), H', ⟨by first | omega | exact Nat.le_refl _⟩, by repeat (first | exact Drawn0.refl _ | apply Drawn0.step)⟩
  case rest =>
    clear HC2
    try clear c2
    try clear p2
    try clear c3
    try clear c3b0
    try clear c3b1
    try clear c4
    try clear c4b0
    try clear c4b1
    try clear c5
    try clear c5b0
    try clear c5b1
    obtain ⟨kq, x4_1, rfl, HA, HJ1, ⟨mc1, rfl⟩⟩ := hcut
    cases kq with
    | zero => exact absurd HA.out (by simp [carillonref07_Len.j0])
    | succ kj1 =>
      have H := HA.out
      clear HA
      simp only [carillonref07_Len.j0] at H
      by_cases c6 : x4_1 = true
      · subst c6
        have H1 : (some 10) = some r := by rw [if_pos rfl] at H; exact H
        clear H
        have H := H1
        clear H1
        obtain rfl := Option.some.inj H
        go_wp2
        all_goals
          go_ret
          exact ⟨by first | rfl | (simp; done) | (simp [*]; done), by repeat (first | exact Drawn0.refl _ | apply Drawn0.step)⟩
      · replace c6 := Bool.eq_false_iff.mpr c6
        subst c6
        have H1 : (if a0 = 2 then (carillonref07_Len.j1 kj1 a0 (a0 == 2)) else (if a0 = 3 then (carillonref07_Len.j1 kj1 a0 (a0 == 3)) else (if a0 = 10 then (carillonref07_Len.j1 kj1 a0 (a0 == 10)) else (carillonref07_Len.j1 kj1 a0 (a0 == 9))))) = some r := by rw [if_neg (show ¬ (false = true) by decide)] at H; exact H
        clear H
        have H := H1
        clear H1
        have HC7 := Aside0.mk H
        clear H
        go_upto_if 9 with (fail)
        go_cut [9] (fun v9 wc => ∃ (kq : Nat) (x9_6 : Bool), v9 = .bool x9_6 ∧ Aside0 (carillonref07_Len.j1 kq a0 x9_6 = some r) ∧ Aside0 (kq ≤ kj1) ∧ Drawn0 w wc)
        case first =>
          have H := HC7.out
          clear HC7
          by_cases c8 : a0 = 2
          · rw [if_pos c8] at H
            have c8b0 : (a0 == 2) = true := beq_iff_eq.mpr c8
            have c8b1 : (a0 != 2) = false := bne_eq_false_iff_eq.mpr c8
            clear c8
            (first | rw [c8b0] | (simp only [i64_w, i32_w]; rw [c8b0]) | skip)
            have H' := Aside0.mk H
            clear H
            go_wp2
            go_meet
            case rel => exact ⟨_, ((a0 == 2)), (by first | rfl | (simp; done) | (simp [*]; done)), H', ⟨by have := HJ1.out; first | omega | exact Nat.le_refl _⟩, by repeat (first | exact Drawn0.refl _ | apply Drawn0.step)⟩
          · rw [if_neg c8] at H
            have c8b0 : (a0 == 2) = false := beq_eq_false_iff_ne.mpr c8
            have c8b1 : (a0 != 2) = true := bne_iff_ne.mpr c8
            (first | rw [c8b0] | (simp only [i64_w, i32_w]; rw [c8b0]) | skip)
            by_cases c9 : a0 = 3
            · rw [if_pos c9] at H
              have c9b0 : (a0 == 3) = true := beq_iff_eq.mpr c9
              have c9b1 : (a0 != 3) = false := bne_eq_false_iff_eq.mpr c9
              clear c9
              have H' := Aside0.mk H
              clear H
              go_wp2
              go_meet
              case rel => exact ⟨_, ((a0 == 3)), (by first | rfl | (simp; done) | (simp [*]; done)), H', ⟨by have := HJ1.out; first | omega | exact Nat.le_refl _⟩, by repeat (first | exact Drawn0.refl _ | apply Drawn0.step)⟩
            · rw [if_neg c9] at H
              have c9b0 : (a0 == 3) = false := beq_eq_false_iff_ne.mpr c9
              have c9b1 : (a0 != 3) = true := bne_iff_ne.mpr c9
              by_cases c10 : a0 = 10
              · rw [if_pos c10] at H
                have c10b0 : (a0 == 10) = true := beq_iff_eq.mpr c10
                have c10b1 : (a0 != 10) = false := bne_eq_false_iff_eq.mpr c10
                clear c10
                have H' := Aside0.mk H
                clear H
                go_wp2
                go_meet
                case rel => exact ⟨_, ((a0 == 10)), (by first | rfl | (simp; done) | (simp [*]; done)), H', ⟨by have := HJ1.out; first | omega | exact Nat.le_refl _⟩, by repeat (first | exact Drawn0.refl _ | apply Drawn0.step)⟩
              · rw [if_neg c10] at H
                have c10b0 : (a0 == 10) = false := beq_eq_false_iff_ne.mpr c10
                have c10b1 : (a0 != 10) = true := bne_iff_ne.mpr c10
                have H' := Aside0.mk H
                clear H
                go_wp2
                go_meet
                case rel => exact ⟨_, ((a0 == 9)), (by first | rfl | (simp; done) | (simp [*]; done)), H', ⟨by have := HJ1.out; first | omega | exact Nat.le_refl _⟩, by repeat (first | exact Drawn0.refl _ | apply Drawn0.step)⟩
        case rest =>
          clear HC7
          try clear c1
          try clear c2
          try clear p2
          try clear c3
          try clear c3b0
          try clear c3b1
          try clear c4
          try clear c4b0
          try clear c4b1
          try clear c5
          try clear c5b0
          try clear c5b1
          try clear c6
          try clear c8
          try clear c8b0
          try clear c8b1
          try clear c9
          try clear c9b0
          try clear c9b1
          try clear c10
          try clear c10b0
          try clear c10b1
          try clear p2
          obtain ⟨kq, x9_6, rfl, HA, HJ6, ⟨mc6, rfl⟩⟩ := hcut
          cases kq with
          | zero => exact absurd HA.out (by simp [carillonref07_Len.j1])
          | succ kj6 =>
            have H := HA.out
            clear HA
            simp only [carillonref07_Len.j1] at H
            by_cases c11 : x9_6 = true
            · subst c11
              have H1 : (some 20) = some r := by rw [if_pos rfl] at H; exact H
              clear H
              have H := H1
              clear H1
              obtain rfl := Option.some.inj H
              go_wp2
              all_goals
                go_ret
                exact ⟨by first | rfl | (simp; done) | (simp [*]; done), by repeat (first | exact Drawn0.refl _ | apply Drawn0.step)⟩
            · replace c11 := Bool.eq_false_iff.mpr c11
              subst c11
              have H1 : (if a0 = 11 then (some 30) else (if a0 = 13 then (some 14) else (some 0))) = some r := by rw [if_neg (show ¬ (false = true) by decide)] at H; exact H
              clear H
              have H := H1
              clear H1
              by_cases c12 : a0 = 11
              · rw [if_pos c12] at H
                have c12b0 : (a0 == 11) = true := beq_iff_eq.mpr c12
                have c12b1 : (a0 != 11) = false := bne_eq_false_iff_eq.mpr c12
                clear c12
                obtain rfl := Option.some.inj H
                go_wp2
                all_goals
                  go_ret
                  exact ⟨by first | rfl | (simp; done) | (simp [*]; done), by repeat (first | exact Drawn0.refl _ | apply Drawn0.step)⟩
              · rw [if_neg c12] at H
                have c12b0 : (a0 == 11) = false := beq_eq_false_iff_ne.mpr c12
                have c12b1 : (a0 != 11) = true := bne_iff_ne.mpr c12
                by_cases c13 : a0 = 13
                · rw [if_pos c13] at H
                  have c13b0 : (a0 == 13) = true := beq_iff_eq.mpr c13
                  have c13b1 : (a0 != 13) = false := bne_eq_false_iff_eq.mpr c13
                  clear c13
                  obtain rfl := Option.some.inj H
                  go_wp2
                  all_goals
                    go_ret
                    exact ⟨by first | rfl | (simp; done) | (simp [*]; done), by repeat (first | exact Drawn0.refl _ | apply Drawn0.step)⟩
                · rw [if_neg c13] at H
                  have c13b0 : (a0 == 13) = false := beq_eq_false_iff_ne.mpr c13
                  have c13b1 : (a0 != 13) = true := bne_iff_ne.mpr c13
                  obtain rfl := Option.some.inj H
                  go_wp2
                  all_goals
                    go_ret
                    exact ⟨by first | rfl | (simp; done) | (simp [*]; done), by repeat (first | exact Drawn0.refl _ | apply Drawn0.step)⟩
def carillonref07_stamped.f (a0 : Int) : Option (Bool) := if a0 = 12 then (some false) else (some (a0 != 13))
set_option maxHeartbeats 8000000 in
set_option maxRecDepth 100000 in
theorem carillonref07_stamped.calls (a0 : Int) (r : Bool) (w : World) (h : carillonref07_stamped.f a0 = some r) :
    Calls Try.prog 49 #[.int .i64 a0] w fun e w' => e = .returned (.bool r) ∧ Drawn0 w w' := by
  have H : (if a0 = 12 then (some false) else (some (a0 != 13))) = some r := h
  clear h
  by_cases c2 : a0 = 12
  · rw [if_pos c2] at H
    have c2b0 : (a0 == 12) = true := beq_iff_eq.mpr c2
    have c2b1 : (a0 != 12) = false := bne_eq_false_iff_eq.mpr c2
    clear c2
    obtain rfl := Option.some.inj H
    go_enter Try.func49, Try.ntmps49
    go_wp2
    all_goals
      go_ret
      exact ⟨by first | rfl | (simp; done) | (simp [*]; done), by repeat (first | exact Drawn0.refl _ | apply Drawn0.step)⟩
  · rw [if_neg c2] at H
    have c2b0 : (a0 == 12) = false := beq_eq_false_iff_ne.mpr c2
    have c2b1 : (a0 != 12) = true := bne_iff_ne.mpr c2
    obtain rfl := Option.some.inj H
    go_enter Try.func49, Try.ntmps49
    go_wp2
    all_goals
      go_ret
      exact ⟨by first | rfl | (simp; done) | (simp [*]; done), by repeat (first | exact Drawn0.refl _ | apply Drawn0.step)⟩
def carillonref07_targeted.f (a0 : Int) : Option (Bool) := if a0 = 9 then (some true) else (if a0 = 3 then (some true) else (if a0 = 10 then (some true) else (if a0 = 12 then (some true) else (some (a0 == 13)))))
set_option maxHeartbeats 8000000 in
set_option maxRecDepth 100000 in
theorem carillonref07_targeted.calls (a0 : Int) (r : Bool) (w : World) (h : carillonref07_targeted.f a0 = some r) :
    Calls Try.prog 51 #[.int .i64 a0] w fun e w' => e = .returned (.bool r) ∧ Drawn0 w w' := by
  have H : (if a0 = 9 then (some true) else (if a0 = 3 then (some true) else (if a0 = 10 then (some true) else (if a0 = 12 then (some true) else (some (a0 == 13)))))) = some r := h
  clear h
  by_cases c2 : a0 = 9
  · rw [if_pos c2] at H
    have c2b0 : (a0 == 9) = true := beq_iff_eq.mpr c2
    have c2b1 : (a0 != 9) = false := bne_eq_false_iff_eq.mpr c2
    clear c2
    obtain rfl := Option.some.inj H
    go_enter Try.func51, Try.ntmps51
    go_wp2
    all_goals
      go_ret
      exact ⟨by first | rfl | (simp; done) | (simp [*]; done), by repeat (first | exact Drawn0.refl _ | apply Drawn0.step)⟩
  · rw [if_neg c2] at H
    have c2b0 : (a0 == 9) = false := beq_eq_false_iff_ne.mpr c2
    have c2b1 : (a0 != 9) = true := bne_iff_ne.mpr c2
    by_cases c3 : a0 = 3
    · rw [if_pos c3] at H
      have c3b0 : (a0 == 3) = true := beq_iff_eq.mpr c3
      have c3b1 : (a0 != 3) = false := bne_eq_false_iff_eq.mpr c3
      clear c3
      obtain rfl := Option.some.inj H
      go_enter Try.func51, Try.ntmps51
      go_wp2
      all_goals
        go_ret
        exact ⟨by first | rfl | (simp; done) | (simp [*]; done), by repeat (first | exact Drawn0.refl _ | apply Drawn0.step)⟩
    · rw [if_neg c3] at H
      have c3b0 : (a0 == 3) = false := beq_eq_false_iff_ne.mpr c3
      have c3b1 : (a0 != 3) = true := bne_iff_ne.mpr c3
      by_cases c4 : a0 = 10
      · rw [if_pos c4] at H
        have c4b0 : (a0 == 10) = true := beq_iff_eq.mpr c4
        have c4b1 : (a0 != 10) = false := bne_eq_false_iff_eq.mpr c4
        clear c4
        obtain rfl := Option.some.inj H
        go_enter Try.func51, Try.ntmps51
        go_wp2
        all_goals
          go_ret
          exact ⟨by first | rfl | (simp; done) | (simp [*]; done), by repeat (first | exact Drawn0.refl _ | apply Drawn0.step)⟩
      · rw [if_neg c4] at H
        have c4b0 : (a0 == 10) = false := beq_eq_false_iff_ne.mpr c4
        have c4b1 : (a0 != 10) = true := bne_iff_ne.mpr c4
        by_cases c5 : a0 = 12
        · rw [if_pos c5] at H
          have c5b0 : (a0 == 12) = true := beq_iff_eq.mpr c5
          have c5b1 : (a0 != 12) = false := bne_eq_false_iff_eq.mpr c5
          clear c5
          obtain rfl := Option.some.inj H
          go_enter Try.func51, Try.ntmps51
          go_wp2
          all_goals
            go_ret
            exact ⟨by first | rfl | (simp; done) | (simp [*]; done), by repeat (first | exact Drawn0.refl _ | apply Drawn0.step)⟩
        · rw [if_neg c5] at H
          have c5b0 : (a0 == 12) = false := beq_eq_false_iff_ne.mpr c5
          have c5b1 : (a0 != 12) = true := bne_iff_ne.mpr c5
          obtain rfl := Option.some.inj H
          go_enter Try.func51, Try.ntmps51
          go_wp2
          all_goals
            go_ret
            exact ⟨by first | rfl | (simp; done) | (simp [*]; done), by repeat (first | exact Drawn0.refl _ | apply Drawn0.step)⟩
def carillonref02_May.f (a0 : Int) : Option (Bool) := if a0 ≥ 0 then (some (decide (a0 ≤ 4000000000000000))) else (some false)
set_option maxHeartbeats 8000000 in
set_option maxRecDepth 100000 in
theorem carillonref02_May.calls (a0 : Int) (r : Bool) (w : World) (h : carillonref02_May.f a0 = some r) :
    Calls Try.prog 50 #[.int .i64 a0] w fun e w' => e = .returned (.bool r) ∧ Drawn0 w w' := by
  have H : (if a0 ≥ 0 then (some (decide (a0 ≤ 4000000000000000))) else (some false)) = some r := h
  clear h
  by_cases c2 : a0 ≥ 0
  · rw [if_pos c2] at H
    have c2b0 : decide (0 ≤ a0) = true := decide_eq_true c2
    clear c2
    obtain rfl := Option.some.inj H
    go_enter Try.func50, Try.ntmps50
    go_wp2
    all_goals
      go_ret
      exact ⟨by first | rfl | (simp; done) | (simp [*]; done), by repeat (first | exact Drawn0.refl _ | apply Drawn0.step)⟩
  · rw [if_neg c2] at H
    have c2b0 : decide (0 ≤ a0) = false := decide_eq_false c2
    clear c2
    obtain rfl := Option.some.inj H
    go_enter Try.func50, Try.ntmps50
    go_wp2
    all_goals
      go_ret
      exact ⟨by first | rfl | (simp; done) | (simp [*]; done), by repeat (first | exact Drawn0.refl _ | apply Drawn0.step)⟩
def carillonref02_Get.j0 : Nat → List Int → Int → Int → Bool → Option (Int × Bool)
  | 0, _, _, _, _ => none
  | k + 1, x0, x1, x6, x24 => if x24 = true then (some (0, false)) else ((carillonref01_Get.f k x0 (wrap64 (x1 + 6)) 4).bind fun bt182 => (if bt182.1 ≥ 1000000000 then (some (0, false)) else (if x6 > 4000000 then (some (0, false)) else ((carillonref02_May.f (wrap64 ((wrap64 (x6 * 1000000000)) + bt182.1))).bind fun t184 => (if t184 = true then (some (wrap64 ((wrap64 (x6 * 1000000000)) + bt182.1), true)) else (some (0, false)))))))
def carillonref02_Get.f (k : Nat) (l0 : List Int) (a1 : Int) : Option (Int × Bool) := (carillonref01_Get.f k l0 a1 6).bind fun bt180 => (if bt180.2 = true then (carillonref02_Get.j0 k l0 a1 bt180.1 (decide (a1 > (wrap64 ((l0.length : Int) - 10))))) else (carillonref02_Get.j0 k l0 a1 bt180.1 true))
set_option maxHeartbeats 8000000 in
set_option maxRecDepth 100000 in
theorem carillonref02_Get.calls (k : Nat) (A0 : Option Addr) (c0 : Nat) (l0 : List Int) (a1 : Int) (r1 : Int) (r2 : Bool) (w : World) (hr0 : Kd.C (Kd.int .u8) w A0 l0.length l0) (hc0 : l0.length ≤ c0) (h : carillonref02_Get.f k l0 a1 = some (r1, r2)) :
    Calls Try.prog 71 #[.slice A0 l0.length c0, .int .i64 a1] w fun e w' => e = .returned (.tuple #[.int .i64 r1, .bool r2]) ∧ Drawn0 w w' := by
  have HR0 := Aside0.mk hr0
  have HC0 := Aside0.mk hc0
  clear hr0 hc0
  have H : ((carillonref01_Get.f k l0 a1 6).bind fun bt180 => (if bt180.2 = true then (carillonref02_Get.j0 k l0 a1 bt180.1 (decide (a1 > (wrap64 ((l0.length : Int) - 10))))) else (carillonref02_Get.j0 k l0 a1 bt180.1 true))) = some (r1, r2) := h
  clear h
  replace H := Option.bind_eq_some_iff.mp H
  obtain ⟨⟨t180, t181⟩, A30, H⟩ := H
  replace H : (if t181 = true then (carillonref02_Get.j0 k l0 a1 t180 (decide (a1 > (wrap64 ((l0.length : Int) - 10))))) else (carillonref02_Get.j0 k l0 a1 t180 true)) = some (r1, r2) := H
  have A3 := Aside0.mk A30
  clear A30
  have HC4 := Aside0.mk H
  clear H
  go_enter Try.func71, Try.ntmps71
  go_upto_region 2 with (first | ((with_reducible refine gate_callee (f := 67) rfl ?_); refine goesL_ (some 13) rfl rfl Try.func67 (by kernel_rfl) rfl #[.slice A0 l0.length c0, .int .i64 a1, .int .i64 6] rfl (by (try simp only [List.map_toArray, List.map_cons, List.map_nil]); first | done | rfl | (simp only [List.length_drop, List.length_take]; rfl)) ?_; (with_reducible refine (carillonref01_Get.calls k _ _ l0 a1 6 t180 t181 _ ?side1 ?side2 A3.out).mono ?_); (case side1 => repeat (first | exact HR0.out | (with_reducible refine Kd.C_alloc ?_ _) | (with_reducible refine Kd.C_drewN ?_ _) | (with_reducible refine Kd.C_drew ?_))); (case side2 => exact HC0.out); rintro e w' ⟨rfl, ⟨nd, rfl⟩⟩; refine ⟨_, rfl, ?_⟩))
  (try simp only [Act.put, List.setIfInBounds_toArray, List.set_cons_zero, List.set_cons_succ])
  go_cut [24] (fun v24 wc => ∃ (kq : Nat) (x24_3 : Bool), v24 = .bool x24_3 ∧ Aside0 (carillonref02_Get.j0 kq l0 a1 t180 x24_3 = some (r1, r2)) ∧ Aside0 (kq ≤ k) ∧ Drawn0 w wc)
  case first =>
    have H := HC4.out
    clear HC4
    by_cases c5 : t181 = true
    · subst c5
      have H1 : (carillonref02_Get.j0 k l0 a1 t180 (decide (a1 > (wrap64 ((l0.length : Int) - 10))))) = some (r1, r2) := by rw [if_pos rfl] at H; exact H
      clear H
      have H := H1
      clear H1
      have H' := Aside0.mk H
      clear H
      go_wp2
      go_meet
      case rel => exact ⟨_, (decide (a1 > (wrap64 ((l0.length : Int) - 10)))), (by first | rfl | (simp; done) | (simp [*]; done)), H', ⟨by first | omega | exact Nat.le_refl _⟩, by repeat (first | exact Drawn0.refl _ | apply Drawn0.step)⟩
    · replace c5 := Bool.eq_false_iff.mpr c5
      subst c5
      have H1 : (carillonref02_Get.j0 k l0 a1 t180 true) = some (r1, r2) := by rw [if_neg (show ¬ (false = true) by decide)] at H; exact H
      clear H
      have H := H1
      clear H1
      have H' := Aside0.mk H
      clear H
      go_wp2
      go_meet
      case rel => exact ⟨_, (true), (by first | rfl | (simp; done) | (simp [*]; done)), H', ⟨by first | omega | exact Nat.le_refl _⟩, by repeat (first | exact Drawn0.refl _ | apply Drawn0.step)⟩
  case rest =>
    clear HC4
    try clear p2
    try clear c5
    obtain ⟨kq, x24_3, rfl, HA, HJ3, ⟨mc3, rfl⟩⟩ := hcut
    cases kq with
    | zero => exact absurd HA.out (by simp [carillonref02_Get.j0])
    | succ kj3 =>
      have H := HA.out
      clear HA
      simp only [carillonref02_Get.j0] at H
      by_cases c6 : x24_3 = true
      · subst c6
        have H1 : (some (0, false)) = some (r1, r2) := by rw [if_pos rfl] at H; exact H
        clear H
        have H := H1
        clear H1
        simp only [Option.some.injEq, Prod.mk.injEq] at H
        obtain ⟨rfl, rfl⟩ := H
        go_wp2
        go_ret2
        exact ⟨by first | rfl | (simp; done) | (simp [*]; done), by repeat (first | exact Drawn0.refl _ | apply Drawn0.step)⟩
      · replace c6 := Bool.eq_false_iff.mpr c6
        subst c6
        have H1 : ((carillonref01_Get.f kj3 l0 (wrap64 (a1 + 6)) 4).bind fun bt182 => (if bt182.1 ≥ 1000000000 then (some (0, false)) else (if t180 > 4000000 then (some (0, false)) else ((carillonref02_May.f (wrap64 ((wrap64 (t180 * 1000000000)) + bt182.1))).bind fun t184 => (if t184 = true then (some (wrap64 ((wrap64 (t180 * 1000000000)) + bt182.1), true)) else (some (0, false))))))) = some (r1, r2) := by rw [if_neg (show ¬ (false = true) by decide)] at H; exact H
        clear H
        have H := H1
        clear H1
        replace H := Option.bind_eq_some_iff.mp H
        obtain ⟨⟨t182, t183⟩, A70, H⟩ := H
        replace H : (if t182 ≥ 1000000000 then (some (0, false)) else (if t180 > 4000000 then (some (0, false)) else ((carillonref02_May.f (wrap64 ((wrap64 (t180 * 1000000000)) + t182))).bind fun t184 => (if t184 = true then (some (wrap64 ((wrap64 (t180 * 1000000000)) + t182), true)) else (some (0, false)))))) = some (r1, r2) := H
        have A7 := Aside0.mk A70
        clear A70
        by_cases c8 : t182 ≥ 1000000000
        · rw [if_pos c8] at H
          have c8b0 : decide (1000000000 ≤ t182) = true := decide_eq_true c8
          clear c8
          simp only [Option.some.injEq, Prod.mk.injEq] at H
          obtain ⟨rfl, rfl⟩ := H
          go_wp2_with (first | ((with_reducible refine gate_callee (f := 67) rfl ?_); refine goesL_ (some 29) rfl rfl Try.func67 (by kernel_rfl) rfl #[.slice A0 l0.length c0, .int .i64 (wrap64 (a1 + 6)), .int .i64 4] rfl (by (try simp only [List.map_toArray, List.map_cons, List.map_nil]); first | done | rfl | (simp only [List.length_drop, List.length_take]; rfl)) ?_; (with_reducible refine (carillonref01_Get.calls kj3 _ _ l0 (wrap64 (a1 + 6)) 4 t182 t183 _ ?side1 ?side2 A7.out).mono ?_); (case side1 => repeat (first | exact HR0.out | (with_reducible refine Kd.C_alloc ?_ _) | (with_reducible refine Kd.C_drewN ?_ _) | (with_reducible refine Kd.C_drew ?_))); (case side2 => exact HC0.out); rintro e w' ⟨rfl, ⟨nd, rfl⟩⟩; refine ⟨_, rfl, ?_⟩))
          go_ret2
          exact ⟨by first | rfl | (simp; done) | (simp [*]; done), by repeat (first | exact Drawn0.refl _ | apply Drawn0.step)⟩
        · rw [if_neg c8] at H
          have c8b0 : decide (1000000000 ≤ t182) = false := decide_eq_false c8
          clear c8
          by_cases c9 : t180 > 4000000
          · rw [if_pos c9] at H
            have c9b0 : decide (4000000 < t180) = true := decide_eq_true c9
            clear c9
            simp only [Option.some.injEq, Prod.mk.injEq] at H
            obtain ⟨rfl, rfl⟩ := H
            go_wp2_with (first | ((with_reducible refine gate_callee (f := 67) rfl ?_); refine goesL_ (some 29) rfl rfl Try.func67 (by kernel_rfl) rfl #[.slice A0 l0.length c0, .int .i64 (wrap64 (a1 + 6)), .int .i64 4] rfl (by (try simp only [List.map_toArray, List.map_cons, List.map_nil]); first | done | rfl | (simp only [List.length_drop, List.length_take]; rfl)) ?_; (with_reducible refine (carillonref01_Get.calls kj3 _ _ l0 (wrap64 (a1 + 6)) 4 t182 t183 _ ?side1 ?side2 A7.out).mono ?_); (case side1 => repeat (first | exact HR0.out | (with_reducible refine Kd.C_alloc ?_ _) | (with_reducible refine Kd.C_drewN ?_ _) | (with_reducible refine Kd.C_drew ?_))); (case side2 => exact HC0.out); rintro e w' ⟨rfl, ⟨nd, rfl⟩⟩; refine ⟨_, rfl, ?_⟩))
            go_ret2
            exact ⟨by first | rfl | (simp; done) | (simp [*]; done), by repeat (first | exact Drawn0.refl _ | apply Drawn0.step)⟩
          · rw [if_neg c9] at H
            have c9b0 : decide (4000000 < t180) = false := decide_eq_false c9
            clear c9
            replace H := Option.bind_eq_some_iff.mp H
            obtain ⟨t184, A100, H⟩ := H
            replace H : (if t184 = true then (some (wrap64 ((wrap64 (t180 * 1000000000)) + t182), true)) else (some (0, false))) = some (r1, r2) := H
            have A10 := Aside0.mk A100
            clear A100
            by_cases c11 : t184 = true
            · subst c11
              have H1 : (some (wrap64 ((wrap64 (t180 * 1000000000)) + t182), true)) = some (r1, r2) := by rw [if_pos rfl] at H; exact H
              clear H
              have H := H1
              clear H1
              simp only [Option.some.injEq, Prod.mk.injEq] at H
              obtain ⟨rfl, rfl⟩ := H
              go_wp2_with (first | ((with_reducible refine gate_callee (f := 67) rfl ?_); refine goesL_ (some 29) rfl rfl Try.func67 (by kernel_rfl) rfl #[.slice A0 l0.length c0, .int .i64 (wrap64 (a1 + 6)), .int .i64 4] rfl (by (try simp only [List.map_toArray, List.map_cons, List.map_nil]); first | done | rfl | (simp only [List.length_drop, List.length_take]; rfl)) ?_; (with_reducible refine (carillonref01_Get.calls kj3 _ _ l0 (wrap64 (a1 + 6)) 4 t182 t183 _ ?side1 ?side2 A7.out).mono ?_); (case side1 => repeat (first | exact HR0.out | (with_reducible refine Kd.C_alloc ?_ _) | (with_reducible refine Kd.C_drewN ?_ _) | (with_reducible refine Kd.C_drew ?_))); (case side2 => exact HC0.out); rintro e w' ⟨rfl, ⟨nd, rfl⟩⟩; refine ⟨_, rfl, ?_⟩) | (go_at_call 50; (with_reducible refine (carillonref02_May.calls (wrap64 ((wrap64 (t180 * 1000000000)) + t182)) true _ A10.out).mono ?_); rintro e w' ⟨rfl, ⟨nd, rfl⟩⟩))
              go_ret2
              exact ⟨by first | rfl | (simp; done) | (simp [*]; done), by repeat (first | exact Drawn0.refl _ | apply Drawn0.step)⟩
            · replace c11 := Bool.eq_false_iff.mpr c11
              subst c11
              have H1 : (some (0, false)) = some (r1, r2) := by rw [if_neg (show ¬ (false = true) by decide)] at H; exact H
              clear H
              have H := H1
              clear H1
              simp only [Option.some.injEq, Prod.mk.injEq] at H
              obtain ⟨rfl, rfl⟩ := H
              go_wp2_with (first | ((with_reducible refine gate_callee (f := 67) rfl ?_); refine goesL_ (some 29) rfl rfl Try.func67 (by kernel_rfl) rfl #[.slice A0 l0.length c0, .int .i64 (wrap64 (a1 + 6)), .int .i64 4] rfl (by (try simp only [List.map_toArray, List.map_cons, List.map_nil]); first | done | rfl | (simp only [List.length_drop, List.length_take]; rfl)) ?_; (with_reducible refine (carillonref01_Get.calls kj3 _ _ l0 (wrap64 (a1 + 6)) 4 t182 t183 _ ?side1 ?side2 A7.out).mono ?_); (case side1 => repeat (first | exact HR0.out | (with_reducible refine Kd.C_alloc ?_ _) | (with_reducible refine Kd.C_drewN ?_ _) | (with_reducible refine Kd.C_drew ?_))); (case side2 => exact HC0.out); rintro e w' ⟨rfl, ⟨nd, rfl⟩⟩; refine ⟨_, rfl, ?_⟩) | (go_at_call 50; (with_reducible refine (carillonref02_May.calls (wrap64 ((wrap64 (t180 * 1000000000)) + t182)) false _ A10.out).mono ?_); rintro e w' ⟨rfl, ⟨nd, rfl⟩⟩))
              go_ret2
              exact ⟨by first | rfl | (simp; done) | (simp [*]; done), by repeat (first | exact Drawn0.refl _ | apply Drawn0.step)⟩
def carillonref05_Get.f (k : Nat) (l0 : List Int) (a1 : Int) : Option (Int × Int × Int × Bool) := (carillonref01_Get.f k l0 a1 4).bind fun bt186 => (if bt186.2 = true then (some (wrap64 (Int.tdiv bt186.1 16777216), Int.tmod (wrap64 (Int.tdiv bt186.1 65536)) 256, Int.tmod bt186.1 65536, true)) else (some (0, 0, 0, false)))
set_option maxHeartbeats 8000000 in
set_option maxRecDepth 100000 in
theorem carillonref05_Get.calls (k : Nat) (A0 : Option Addr) (c0 : Nat) (l0 : List Int) (a1 : Int) (r1 : Int) (r2 : Int) (r3 : Int) (r4 : Bool) (w : World) (hr0 : Kd.C (Kd.int .u8) w A0 l0.length l0) (hc0 : l0.length ≤ c0) (h : carillonref05_Get.f k l0 a1 = some (r1, r2, r3, r4)) :
    Calls Try.prog 72 #[.slice A0 l0.length c0, .int .i64 a1] w fun e w' => e = .returned (.tuple #[.agg #[.int .i64 r1, .int .i64 r2, .int .i64 r3], .bool r4]) ∧ Below w.heap.size w w' := by
  have hu26 := Try.underlying26
  have HR0 := Aside0.mk hr0
  have HC0 := Aside0.mk hc0
  clear hr0 hc0
  have HB := Aside0.mk (Below.refl w.heap.size w)
  have H : ((carillonref01_Get.f k l0 a1 4).bind fun bt186 => (if bt186.2 = true then (some (wrap64 (Int.tdiv bt186.1 16777216), Int.tmod (wrap64 (Int.tdiv bt186.1 65536)) 256, Int.tmod bt186.1 65536, true)) else (some (0, 0, 0, false)))) = some (r1, r2, r3, r4) := h
  clear h
  replace H := Option.bind_eq_some_iff.mp H
  obtain ⟨⟨t186, t187⟩, A30, H⟩ := H
  replace H : (if t187 = true then (some (wrap64 (Int.tdiv t186 16777216), Int.tmod (wrap64 (Int.tdiv t186 65536)) 256, Int.tmod t186 65536, true)) else (some (0, 0, 0, false))) = some (r1, r2, r3, r4) := H
  have A3 := Aside0.mk A30
  clear A30
  by_cases c4 : t187 = true
  · subst c4
    have H1 : (some (wrap64 (Int.tdiv t186 16777216), Int.tmod (wrap64 (Int.tdiv t186 65536)) 256, Int.tmod t186 65536, true)) = some (r1, r2, r3, r4) := by rw [if_pos rfl] at H; exact H
    clear H
    have H := H1
    clear H1
    simp only [Option.some.injEq, Prod.mk.injEq] at H
    obtain ⟨rfl, rfl, rfl, rfl⟩ := H
    go_enter Try.func72, Try.ntmps72
    go_wp2_with (first | ((with_reducible refine gate_dst (N := 4) rfl ?_); refine box_event ?hg (N := 4) ?hd (cs := #[.int .i64 0, .int .i64 0, .int .i64 0]) (t := 26) ?hr ?_; (case hd => rfl); (case hg => rfl); (case hr => first | (go_simp; done) | (go_simp; rfl)); intro gb185 hg w5 hbox hb; have n0_ := Aside0.mk (below_step (by repeat (first | (with_reducible first | exact HB.out | apply below_alloc | apply pw_below_drewN | apply below_drew1) | exact HB.out)) hb); have n1_ := Aside0.mk (hbox); have n2_ := Aside0.mk ((by rw [hg]; exact (below_size (by repeat (first | (with_reducible first | exact HB.out | apply below_alloc | apply pw_below_drewN | apply below_drew1) | exact HB.out))) : w.heap.size ≤ gb185)); have n3_ := Aside0.mk ((by rw [hg]; exact (below_size (by repeat (first | (with_reducible first | exact HB.out | apply below_alloc | apply pw_below_drewN | apply below_drew1) | exact HB.out))) : w.heap.size ≤ gb185)); clear HB; have HB := n0_; have BK185 := n1_; have GW185 := n2_; have GE185 := n3_; clear n0_ n1_ n2_ n3_; clear hb hbox hg) | ((with_reducible refine gate_callee (f := 67) rfl ?_); refine goesL_ (some 11) rfl rfl Try.func67 (by kernel_rfl) rfl #[.slice A0 l0.length c0, .int .i64 a1, .int .i64 4] rfl (by (try simp only [List.map_toArray, List.map_cons, List.map_nil]); first | done | rfl | (simp only [List.length_drop, List.length_take]; rfl)) ?_; (with_reducible refine (carillonref01_Get.calls k _ _ l0 a1 4 t186 true _ ?side1 ?side2 A3.out).mono ?_); (case side1 => repeat (first | exact (Kd.C_below HR0.out HB.out) | (with_reducible refine Kd.C_alloc ?_ _) | (with_reducible refine Kd.C_drewN ?_ _) | (with_reducible refine Kd.C_drew ?_))); (case side2 => exact HC0.out); rintro e w' ⟨rfl, ⟨nd, rfl⟩⟩; refine ⟨_, rfl, ?_⟩; (try (rw [drewN_self w5]; generalize hq_ : World.drewN w5 _ = w5; have n0_ : Aside0 (w5.heap[gb185]? = some (.cells #[.int .i64 0, .int .i64 0, .int .i64 0] 26 (0, 0))) := ⟨by rw [← hq_]; exact (by (with_reducible repeat (first | refine blk_drewN ?_ _ | refine blk_drew ?_ | refine blk_alloc ?_ _)); exact BK185.out)⟩; have n1_ : Aside0 (Below w.heap.size w w5) := ⟨by rw [← hq_]; exact (by repeat (first | (with_reducible first | exact HB.out | apply below_alloc | apply pw_below_drewN | apply below_drew1 | refine below_set ?_ GE185.out) | exact HB.out))⟩; clear BK185 HB hq_; have BK185 := n0_; have HB := n1_; clear n0_ n1_)); have hcz6_0 : w5.cell? ⟨gb185, 0, none⟩ = some (.int .i64 0) := (blk_cell BK185.out 0).trans rfl; have hcz6_1 : w5.cell? ⟨gb185, 1, none⟩ = some (.int .i64 0) := (blk_cell BK185.out 1).trans rfl; have hcz6_2 : w5.cell? ⟨gb185, 2, none⟩ = some (.int .i64 0) := (blk_cell BK185.out 2).trans rfl; have hfz6_0 := blk_frozen BK185.out 0; have hfz6_1 := blk_frozen BK185.out 1; have hfz6_2 := blk_frozen BK185.out 2))
    refine bodyPost_ret (results_ct rfl _ _ gb185 26 #[.int .i64 (wrap64 (Int.tdiv t186 16777216)), .int .i64 (Int.tmod (wrap64 (Int.tdiv t186 65536)) 256), .int .i64 (Int.tmod t186 65536)] (0, 0) _ rfl (by (with_reducible repeat (first | refine blk_drewN ?_ _ | refine blk_drew ?_ | refine blk_alloc ?_ _)); refine blk_put (cs := #[.int .i64 (wrap64 (Int.tdiv t186 16777216)), .int .i64 (Int.tmod (wrap64 (Int.tdiv t186 65536)) 256), .int .i64 0]) ?_ 2 _ rfl; (with_reducible repeat (first | refine blk_drewN ?_ _ | refine blk_drew ?_ | refine blk_alloc ?_ _)); refine blk_put (cs := #[.int .i64 (wrap64 (Int.tdiv t186 16777216)), .int .i64 0, .int .i64 0]) ?_ 1 _ rfl; (with_reducible repeat (first | refine blk_drewN ?_ _ | refine blk_drew ?_ | refine blk_alloc ?_ _)); refine blk_put (cs := #[.int .i64 0, .int .i64 0, .int .i64 0]) ?_ 0 _ rfl; (with_reducible repeat (first | refine blk_drewN ?_ _ | refine blk_drew ?_ | refine blk_alloc ?_ _)); exact BK185.out) Try.underlying26 rfl (by kernel_rfl)) rfl ?_
    exact ⟨by first | rfl | (simp [errW_none, errW_some] <;> rfl) | (simp [*, errW_none, errW_some] <;> rfl), by repeat (first | (with_reducible first | exact HB.out | apply below_alloc | apply pw_below_drewN | apply below_drew1 | refine below_set ?_ GE185.out) | exact HB.out)⟩
  · replace c4 := Bool.eq_false_iff.mpr c4
    subst c4
    have H1 : (some (0, 0, 0, false)) = some (r1, r2, r3, r4) := by rw [if_neg (show ¬ (false = true) by decide)] at H; exact H
    clear H
    have H := H1
    clear H1
    simp only [Option.some.injEq, Prod.mk.injEq] at H
    obtain ⟨rfl, rfl, rfl, rfl⟩ := H
    go_enter Try.func72, Try.ntmps72
    go_wp2_with (first | ((with_reducible refine gate_dst (N := 4) rfl ?_); refine box_event ?hg (N := 4) ?hd (cs := #[.int .i64 0, .int .i64 0, .int .i64 0]) (t := 26) ?hr ?_; (case hd => rfl); (case hg => rfl); (case hr => first | (go_simp; done) | (go_simp; rfl)); intro gb185 hg w7 hbox hb; have n0_ := Aside0.mk (below_step (by repeat (first | (with_reducible first | exact HB.out | apply below_alloc | apply pw_below_drewN | apply below_drew1) | exact HB.out)) hb); have n1_ := Aside0.mk (hbox); have n2_ := Aside0.mk ((by rw [hg]; exact (below_size (by repeat (first | (with_reducible first | exact HB.out | apply below_alloc | apply pw_below_drewN | apply below_drew1) | exact HB.out))) : w.heap.size ≤ gb185)); have n3_ := Aside0.mk ((by rw [hg]; exact (below_size (by repeat (first | (with_reducible first | exact HB.out | apply below_alloc | apply pw_below_drewN | apply below_drew1) | exact HB.out))) : w.heap.size ≤ gb185)); clear HB; have HB := n0_; have BK185 := n1_; have GW185 := n2_; have GE185 := n3_; clear n0_ n1_ n2_ n3_; clear hb hbox hg) | ((with_reducible refine gate_callee (f := 67) rfl ?_); refine goesL_ (some 11) rfl rfl Try.func67 (by kernel_rfl) rfl #[.slice A0 l0.length c0, .int .i64 a1, .int .i64 4] rfl (by (try simp only [List.map_toArray, List.map_cons, List.map_nil]); first | done | rfl | (simp only [List.length_drop, List.length_take]; rfl)) ?_; (with_reducible refine (carillonref01_Get.calls k _ _ l0 a1 4 t186 false _ ?side1 ?side2 A3.out).mono ?_); (case side1 => repeat (first | exact (Kd.C_below HR0.out HB.out) | (with_reducible refine Kd.C_alloc ?_ _) | (with_reducible refine Kd.C_drewN ?_ _) | (with_reducible refine Kd.C_drew ?_))); (case side2 => exact HC0.out); rintro e w' ⟨rfl, ⟨nd, rfl⟩⟩; refine ⟨_, rfl, ?_⟩; (try (rw [drewN_self w7]; generalize hq_ : World.drewN w7 _ = w7; have n0_ : Aside0 (w7.heap[gb185]? = some (.cells #[.int .i64 0, .int .i64 0, .int .i64 0] 26 (0, 0))) := ⟨by rw [← hq_]; exact (by (with_reducible repeat (first | refine blk_drewN ?_ _ | refine blk_drew ?_ | refine blk_alloc ?_ _)); exact BK185.out)⟩; have n1_ : Aside0 (Below w.heap.size w w7) := ⟨by rw [← hq_]; exact (by repeat (first | (with_reducible first | exact HB.out | apply below_alloc | apply pw_below_drewN | apply below_drew1 | refine below_set ?_ GE185.out) | exact HB.out))⟩; clear BK185 HB hq_; have BK185 := n0_; have HB := n1_; clear n0_ n1_)); have hcz8_0 : w7.cell? ⟨gb185, 0, none⟩ = some (.int .i64 0) := (blk_cell BK185.out 0).trans rfl; have hcz8_1 : w7.cell? ⟨gb185, 1, none⟩ = some (.int .i64 0) := (blk_cell BK185.out 1).trans rfl; have hcz8_2 : w7.cell? ⟨gb185, 2, none⟩ = some (.int .i64 0) := (blk_cell BK185.out 2).trans rfl; have hfz8_0 := blk_frozen BK185.out 0; have hfz8_1 := blk_frozen BK185.out 1; have hfz8_2 := blk_frozen BK185.out 2))
    refine bodyPost_ret (results_ct rfl _ _ gb185 26 #[.int .i64 0, .int .i64 0, .int .i64 0] (0, 0) _ rfl (by (with_reducible repeat (first | refine blk_drewN ?_ _ | refine blk_drew ?_ | refine blk_alloc ?_ _)); refine blk_put (cs := #[.int .i64 0, .int .i64 0, .int .i64 0]) ?_ 2 _ rfl; (with_reducible repeat (first | refine blk_drewN ?_ _ | refine blk_drew ?_ | refine blk_alloc ?_ _)); refine blk_put (cs := #[.int .i64 0, .int .i64 0, .int .i64 0]) ?_ 1 _ rfl; (with_reducible repeat (first | refine blk_drewN ?_ _ | refine blk_drew ?_ | refine blk_alloc ?_ _)); refine blk_put (cs := #[.int .i64 0, .int .i64 0, .int .i64 0]) ?_ 0 _ rfl; (with_reducible repeat (first | refine blk_drewN ?_ _ | refine blk_drew ?_ | refine blk_alloc ?_ _)); exact BK185.out) Try.underlying26 rfl (by kernel_rfl)) rfl ?_
    exact ⟨by first | rfl | (simp [errW_none, errW_some] <;> rfl) | (simp [*, errW_none, errW_some] <;> rfl), by repeat (first | (with_reducible first | exact HB.out | apply below_alloc | apply pw_below_drewN | apply below_drew1 | refine below_set ?_ GE185.out) | exact HB.out)⟩
end Go.Proofs.Ytiomlbkakiienaa.P
