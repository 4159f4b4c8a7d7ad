/- Functions and loops of the given program as Lean functions, and that the code comes to what they say: written by this session's own program; Lean checks it. -/
import Derived.Test.YtiomlbkakiienaaZzPx0
import Derived.Test.YtiomlbkakiienaaZzPx2
import Derived.Test.YtiomlbkakiienaaZzPx6
namespace Go.Proofs.Ytiomlbkakiienaa.P
open Go.RowKit Go.Proofs.YtiomlbkakiienaaW.PrintWords Go.Proofs.YtiomlbkakiienaaW.PrintLast Go.Proofs.YtiomlbkakiienaaW.PrintMore
attribute [local go_sem] max2_int min2_int max_two min_two max_three min_three max_four min_four   -- for this text's walks alone
set_option linter.unusedVariables false
set_option linter.unusedSimpArgs false
/-! ### header_Get: function 28: by our own printer -/
def header_Get.f (k : Nat) (l0 : List Int) : Option (Int × Int × Int × Int × Int × Int × Int × Int × Int × Int × Int × Int × Int × Int × Int × Int × Int × Int × Int × Int × Int × Int × Int × Int × Int) := if (l0.length : Int) < 34 then (some (0, 0, 0, 0, 0, 0, 0, 0, 0, 0, 0, 0, 0, 0, 0, 0, 0, 0, 0, 0, 0, 0, 0, 0, 2)) else ((octets_Get.f k l0 2 2).bind fun t10 => (if 0 < (l0.length : Int) then ((header_Known.f k (wrap64 (rd l0 0))).bind fun t15 => (if t15 = true then (if 1 < (l0.length : Int) then (if (Go.bits .and .u8 (rd l0 1) 15) = 2 then ((header_in.f t10.1 34 400).bind fun t16 => (if t16 = true then (if (l0.length : Int) < t10.1 then (some (0, 0, 0, 0, 0, 0, 0, 0, 0, 0, 0, 0, 0, 0, 0, 0, 0, 0, 0, 0, 0, 0, 0, 0, 2)) else (if (l0.length : Int) > t10.1 then (some (0, 0, 0, 0, 0, 0, 0, 0, 0, 0, 0, 0, 0, 0, 0, 0, 0, 0, 0, 0, 0, 0, 0, 0, 3)) else (if 4 < (l0.length : Int) then ((octets_Get.f k l0 6 2).bind fun t31 => ((octets_Signed.f k l0 8 8).bind fun t36 => ((ident_Get.f k l0 20).bind fun t41 => ((octets_Get.f k l0 30 2).bind fun t46 => ((octets_Signed.f k l0 33 1).bind fun t51 => (some (wrap64 (rd l0 0), wrap64 (rd l0 4), t31.1, t36.1, t41.1, t41.2.1, t46.1, t51.1, 0, 0, 0, 0, 0, 0, 0, 0, 0, 0, 0, 0, 0, 0, 0, t10.1, 0))))))) else (none)))) else (some (0, 0, 0, 0, 0, 0, 0, 0, 0, 0, 0, 0, 0, 0, 0, 0, 0, 0, 0, 0, 0, 0, 0, 0, 4)))) else (some (0, 0, 0, 0, 0, 0, 0, 0, 0, 0, 0, 0, 0, 0, 0, 0, 0, 0, 0, 0, 0, 0, 0, 0, 4))) else (none)) else (some (0, 0, 0, 0, 0, 0, 0, 0, 0, 0, 0, 0, 0, 0, 0, 0, 0, 0, 0, 0, 0, 0, 0, 0, 4)))) else (none)))
abbrev header_Get.c0 (x0 x1 x2 x3 x4 x5 x6 x7 x8 x9 x10 x11 x12 x13 x14 x15 x16 x17 x18 x19 x20 x21 x22 : Int) : Array Value := #[.int .i64 x0, .int .i64 x1, .int .i64 x2, .int .i64 x3, .int .u64 x4, .int .i64 x5, .int .i64 x6, .int .i64 x7, .int .i64 x8, .int .u64 x9, .int .i64 x10, .int .i64 x11, .int .i64 x12, .int .i64 x13, .int .i64 x14, .int .i64 x15, .int .i64 x16, .int .u64 x17, .int .i64 x18, .int .i64 x19, .int .i64 x20, .int .i64 x21, .int .i64 x22]
abbrev header_Get.v1 (x0 x1 x2 x3 x4 x5 x6 x7 x8 x9 x10 x11 x12 x13 x14 x15 x16 x17 x18 x19 x20 x21 x22 : Int) : Value := .agg #[.int .i64 x0, .int .i64 x1, .int .i64 x2, .int .i64 x3, .int .u64 x4, .int .i64 x5, .int .i64 x6, .int .i64 x7, .int .i64 x8, .int .u64 x9, .int .i64 x10, .int .i64 x11, .int .i64 x12, .int .i64 x13, .int .i64 x14, .int .i64 x15, .int .i64 x16, .int .u64 x17, .int .i64 x18, .int .i64 x19, .int .i64 x20, .int .i64 x21, .int .i64 x22]
open Go.Proofs.Ytiomlbkakiienaa.E in
set_option maxHeartbeats 60000000 in
set_option maxRecDepth 100000 in
theorem header_Get.calls (k : Nat) (A0 : Option Addr) (ac : Nat) (l0 : List Int) (r1 r2 r3 r4 r5 r6 r7 r8 r9 em en eo ep eq er es et eu ev ew ex ey ez eA eB : Int) (w : World) (HR0 : Kd.C (Kd.int .u8) w A0 l0.length l0) (HC0 : l0.length ≤ ac) (h : header_Get.f k l0 = some (r1, r2, r3, r4, r5, r6, r7, r8, r9, em, en, eo, ep, eq, er, es, et, eu, ev, ew, ex, ey, ez, eA, eB)) :
    Calls Try.prog 28 #[.slice A0 l0.length ac] w fun e w' => e = .returned (.tuple #[.agg #[.int .i64 r1, .int .i64 r2, .int .i64 r3, .int .i64 r4, .int .u64 r5, .int .i64 r6, .int .i64 r7, .int .i64 r8, .int .i64 r9, .int .u64 em, .int .i64 en, .int .i64 eo, .int .i64 ep, .int .i64 eq, .int .i64 er, .int .i64 es, .int .i64 et, .int .u64 eu, .int .i64 ev, .int .i64 ew, .int .i64 ex, .int .i64 ey, .int .i64 ez], .int .i64 eA, .int .i64 eB]) ∧ Below w.heap.size w w' := by
 have H := h
 clear h
 unfold header_Get.f at H
 by_cases c1 : (l0.length : Int) < 34
 ·rw [if_pos c1] at H
  simp only [Option.some.injEq, Prod.mk.injEq] at H
  obtain ⟨rfl, rfl, rfl, rfl, rfl, rfl, rfl, rfl, rfl, rfl, rfl, rfl, rfl, rfl, rfl, rfl, rfl, rfl, rfl, rfl, rfl, rfl, rfl, rfl, rfl⟩ := H
  refine calls_of_wp (fn := Try.f28) (by kernel_rfl) rfl ?_
  have hS := St.enter #[.slice A0 l0.length ac] 90 (by simp) [(0, .slice A0 l0.length ac)] (by simp)
  have aE := Below.refl w.heap.size w
  refine wp_seq_k (fun K1 aG => ?_)
  refine reg_seq (I := I1_ w) (ps := [IsB (header_Get.c0 0 0 0 0 0 0 0 0 0 0 0 0 0 0 0 0 0 0 0 0 0 0 0) 28 w.heap.size, VI 0, VI 0]) (by kernel_rfl) ?_ ?_ rfl hS aE ?_ ?_
  ·exact bs1
  ·exact .cons (Stays.b _ _ _) (.v (.v (.nil)))
  ·refine .on rfl (fun a w hS hI hp => does_var (x_alloc rfl (by kernel_rfl)) (hI).size) ?_
   iterate 2 refine .on rfl (fun a w hS hI hp => does_val (x_assign rfl (rfl)) rfl) ?_
   exact .nil
  clear hS
  intro bh w3 hS aJ hp
  obtain ⟨g4, av, aq, ae⟩ := (show IsB _ 28 _ (sl _ 2) _ from hp 0 (by decide))
  have hS := hS.cons av
  clear hp av
  refine aG _ _ ?_
  refine wp_seq_k (fun K5 aL => ?_)
  refine wp_seq_k (fun K6 aH => ?_)
  refine reg_seq (I := I2_ w w3) (ps := [IsV (.slice A0 l0.length ac), VI (l0.length : Int), VB (decide ((l0.length : Int) < 34))]) (by kernel_rfl) ?_ ?_ rfl hS ⟨aJ, (bR w3)⟩ ?_ ?_
  ·exact bs2
  ·exact .v (.v (.v (.nil)))
  ·refine .ms 1 rfl rfl rfl ?_
   refine .on rfl (fun a w hS hI hp => does_val (x_len (e := 5) rfl (by kernel_rfl) (hp.V 0 rfl rfl)) rfl) ?_
   refine .on rfl (fun a w hS hI hp => does_val (x_bin rfl (hp.V 1 rfl rfl) (rfl) (b_lss _ _ _ _ _ _)) rfl) ?_
   exact .nil
  clear hS
  intro bi w8 hS aw hp
  have ah : sl _ 10 = .bool (decide ((l0.length : Int) < 34)) := hp 2 (by decide)
  have hS := hS.cons ah
  clear hp ah
  refine aH _ _ ?_
  refine wp_cond_true ((hS.get 0 rfl).trans (bT (decide_eq_true c1))) ?_
  refine wp_seq_k (fun K9 aI => ?_)
  refine reg_seq_tail 1 (I := I3_ w w3 w8) (ps := [IsV ((header_Get.v1 0 0 0 0 0 0 0 0 0 0 0 0 0 0 0 0 0 0 0 0 0 0 0))]) (by kernel_rfl) ?_ ?_ rfl hS ⟨aw.1, aw.2, (bR w8)⟩ ?_ ?_
  ·exact bs3
  ·exact .v (.nil)
  ·refine .on rfl (fun a w hS hI hp => does_val (x_build (vs := []) rfl (by rw [Array.toList_map]; exact (show [] = _ from rfl)) (by kernel_rfl)) rfl) ?_
   exact .nil
  clear hS
  intro dL ec hS b7 hp
  replace hS := (hS.nil).cons (hS.get 1 rfl)
  have cr : sl _ 11 = (header_Get.v1 0 0 0 0 0 0 0 0 0 0 0 0 0 0 0 0 0 0 0 0 0 0 0) := hp 0 (by decide)
  have hS := hS.cons cr
  clear hp cr
  show wpList _ _ _ [_, _, _] _ _
  refine list_step rfl (does_storeAll (g := g4) (cs := (header_Get.c0 0 0 0 0 0 0 0 0 0 0 0 0 0 0 0 0 0 0 0 0 0 0 0)) rfl (hS.get 1 rfl) (hS.get 0 rfl) ((b7.2.1.block g4 (blk_lt ae)).trans ae) (by kernel_rfl) (by kernel_rfl) (by kernel_rfl)) ?_
  rintro dZ ax ⟨rfl, bJ, hT⟩
  have ca := hT.below b7.1 aq (b7.1).size
  clear hT
  refine list_step rfl (R := fun v w' => Below _ _ w' ∧ (VI 0) v w') (does_val (x_assign rfl (rfl)) rfl) ?_
  rintro dp dF ⟨hb, he⟩
  have cb := below_step ca hb
  have bp := below_step (bR ax) hb
  obtain rfl : dp = .int .i64 0 := he
  refine hS.next (v := .int .i64 0) (d := 3) rfl (by decide) (by rfl) ?_
  clear hS
  intro dM hS
  refine list_step rfl (R := fun v w' => Below _ _ w' ∧ (VI 2) v w') (does_val (x_assign rfl (rfl)) rfl) ?_
  rintro dq ed ⟨hb, he⟩
  have cc := below_step cb hb
  have bq := below_step bp hb
  have cM := below_step (bR dF) hb
  obtain rfl : dq = .int .i64 2 := he
  refine hS.next (v := .int .i64 2) (d := 4) rfl (by decide) (by rfl) ?_
  clear hS
  intro cp hS
  refine wpList_nil ?_
  refine aI _ _ ?_
  refine wp_ret ?_
  (try simp only [Exit.then, Exit.inBlock, Exit.jump, Exit.noGoto])
  exact bodyPost_ret (v := .tuple #[(header_Get.v1 0 0 0 0 0 0 0 0 0 0 0 0 0 0 0 0 0 0 0 0 0 0 0), .int .i64 0, .int .i64 2]) (results_list (rs := [.cell 2 28, .tmp 3, .tmp 4]) rfl (by simp) (Vals.cell g4 28 (header_Get.c0 0 0 0 0 0 0 0 0 0 0 0 0 0 0 0 0 0 0 0 0 0 0 0) (0, 0) _ (hS.get 3 rfl) ((bq.block g4 (blk_lt bJ)).trans bJ) Try.underlying28 rfl (by kernel_rfl) (Vals.at (hS.get 1 rfl) (Vals.at (hS.get 0 rfl) .nil)))) hS.nodef ⟨rfl, cc⟩
 rw [if_neg c1] at H
 obtain ⟨dz, a0, H⟩ := Option.bind_eq_some_iff.mp H
 obtain ⟨aa, ab⟩ := dz
 (try dsimp only at H)
 by_cases c2 : 0 < (l0.length : Int)
 rotate_left
 ·rw [if_neg c2] at H
  exact absurd H (by simp)
 rw [if_pos c2] at H
 obtain ⟨aj, a1, H⟩ := Option.bind_eq_some_iff.mp H
 by_cases c3 : aj = true
 rotate_left
 ·rw [if_neg c3] at H
  simp only [Option.some.injEq, Prod.mk.injEq] at H
  obtain ⟨rfl, rfl, rfl, rfl, rfl, rfl, rfl, rfl, rfl, rfl, rfl, rfl, rfl, rfl, rfl, rfl, rfl, rfl, rfl, rfl, rfl, rfl, rfl, rfl, rfl⟩ := H
  refine calls_of_wp (fn := Try.f28) (by kernel_rfl) rfl ?_
  have hS := St.enter #[.slice A0 l0.length ac] 90 (by simp) [(0, .slice A0 l0.length ac)] (by simp)
  have aE := Below.refl w.heap.size w
  refine wp_seq_k (fun K1 aG => ?_)
  refine reg_seq (I := I1_ w) (ps := [IsB (header_Get.c0 0 0 0 0 0 0 0 0 0 0 0 0 0 0 0 0 0 0 0 0 0 0 0) 28 w.heap.size, VI 0, VI 0]) (by kernel_rfl) ?_ ?_ rfl hS aE ?_ ?_
  ·exact bs1
  ·exact .cons (Stays.b _ _ _) (.v (.v (.nil)))
  ·refine .on rfl (fun a w hS hI hp => does_var (x_alloc rfl (by kernel_rfl)) (hI).size) ?_
   iterate 2 refine .on rfl (fun a w hS hI hp => does_val (x_assign rfl (rfl)) rfl) ?_
   exact .nil
  clear hS
  intro bh w3 hS aJ hp
  obtain ⟨g4, av, aq, ae⟩ := (show IsB _ 28 _ (sl _ 2) _ from hp 0 (by decide))
  have hS := hS.cons av
  clear hp av
  refine aG _ _ ?_
  refine wp_seq_k (fun K5 aL => ?_)
  refine wp_seq_k (fun K6 aH => ?_)
  refine reg_seq (I := I2_ w w3) (ps := [IsV (.slice A0 l0.length ac), VI (l0.length : Int), VB (decide ((l0.length : Int) < 34))]) (by kernel_rfl) ?_ ?_ rfl hS ⟨aJ, (bR w3)⟩ ?_ ?_
  ·exact bs2
  ·exact .v (.v (.v (.nil)))
  ·refine .ms 1 rfl rfl rfl ?_
   refine .on rfl (fun a w hS hI hp => does_val (x_len (e := 5) rfl (by kernel_rfl) (hp.V 0 rfl rfl)) rfl) ?_
   refine .on rfl (fun a w hS hI hp => does_val (x_bin rfl (hp.V 1 rfl rfl) (rfl) (b_lss _ _ _ _ _ _)) rfl) ?_
   exact .nil
  clear hS
  intro bi w8 hS aw hp
  have ah : sl _ 10 = .bool (decide ((l0.length : Int) < 34)) := hp 2 (by decide)
  have hS := hS.cons ah
  clear hp ah
  refine aH _ _ ?_
  refine wp_cond_false ((hS.get 0 rfl).trans (bF (decide_eq_false c1))) ?_
  refine wp_skip ?_
  refine aL _ _ ?_
  refine wp_seq_k (fun K9 aI => ?_)
  refine reg_seq (I := I3_ w w3 w8) (ps := [IsV (.slice A0 l0.length ac), IsV (.tuple #[.int .i64 aa, .bool ab]), IsV (.tuple #[.int .i64 aa, .bool ab]), VI aa, VB ab, VI aa, VB ab]) (by kernel_rfl) ?_ ?_ rfl hS ⟨aw.1, aw.2, (bR w8)⟩ ?_ ?_
  ·exact bs3
  ·exact .v (.v (.v (.v (.v (.v (.v (.nil)))))))
  ·refine .ms 2 rfl rfl rfl ?_
   refine .on rfl (fun a w hS hI hp => does_call (by kernel_rfl) (ar3 (hp.V 0 rfl rfl) (rfl) (rfl)) ((octets_Get.calls k _ _ l0 2 2 aa ab _ (Kd.C_below HR0 hI.1) HC0 a0).mono fun _ _ h => ⟨_, h.1, h.2.below, rfl⟩)) ?_
   refine .mv 1 rfl rfl rfl rfl ?_
   iterate 2 refine .on rfl (fun a w hS hI hp => does_val (x_extract rfl (hp.V 2 rfl rfl) rfl) rfl) ?_
   refine .asg 3 rfl rfl rfl rfl ?_
   refine .asg 4 rfl rfl rfl rfl ?_
   exact .nil
  clear hS
  intro bd ax hS ap hp
  replace hS := ((hS.nil).cons (hS.get 2 rfl)).cons (hS.get 1 rfl)
  have ay : sl _ 5 = .int .i64 aa := hp 5 (by decide)
  have hS := hS.cons ay
  clear hp ay
  refine aI _ _ ?_
  refine wp_seq_k (fun bn a7 => ?_)
  refine wp_block ?_
  refine wp_seq_k (fun bo aA => ?_)
  refine reg_seq (I := I3_ w w3 ax) (ps := [IsV (.slice A0 l0.length ac), IsA (.int .u8 (rd l0 0)), IsV (.int .u8 (rd l0 0)), VI (wrap64 (rd l0 0)), VB aj, VB (!aj), VB (!aj), VU, VU, VU, VU, VU, VB true, VB true, VU, VU, VU, VB true, VB true]) (by kernel_rfl) ?_ ?_ rfl hS ⟨ap.1, ap.2.1, (bR ax)⟩ ?_ ?_
  ·exact bs3
  ·exact .v (.cons (Stays.a _) (.v (.v (.v (.v (.v (.v (.v (.v (.v (.v (.v (.v (.v (.v (.v (.v (.v (.nil)))))))))))))))))))
  ·refine .ms 2 rfl rfl rfl ?_
   refine .on rfl (fun a w hS hI hp => does_index (e := 5) (xs := l0) rfl (hp.V 0 rfl rfl) (rfl) (by kernel_rfl) (by kernel_rfl) (by decide) c2 c2 ((Kd.C_below HR0 hI.1))) ?_
   refine .on rfl (fun a w hS hI hp => (hp.V 1 rfl rfl).elim fun _ h_ => does_val (x_load1 (d := .int .u8) rfl h_.1 (by kernel_rfl) rfl h_.2.2) rfl) ?_
   refine .on rfl (fun a w hS hI hp => does_val ((i64_w (rd l0 0)) ▸ x_convI rfl (by kernel_rfl) (by kernel_rfl) (hp.V 2 rfl rfl)) rfl) ?_
   refine .on rfl (fun a w hS hI hp => does_call (by kernel_rfl) (ar1 (hp.V 3 rfl rfl)) ((header_Known.calls k (wrap64 (rd l0 0)) aj _  a1).mono fun _ _ h => ⟨_, h.1, h.2.below, rfl⟩)) ?_
   refine .on rfl (fun a w hS hI hp => does_val (x_not rfl (hp.V 4 rfl rfl)) rfl) ?_
   refine .mv 5 rfl rfl rfl rfl ?_
   iterate 5 refine .sn 6 24 rfl rfl rfl rfl rfl ((congrArg (!·) (Bool.eq_false_iff.2 c3))) ?_
   refine .on rfl (fun a w hS hI hp => does_val (x_pickT rfl ((hp.V 6 rfl rfl).trans (bT (congrArg (!·) (Bool.eq_false_iff.2 c3)))) (rfl)) rfl) ?_
   refine .mv 12 rfl rfl rfl rfl ?_
   iterate 3 refine .sn 13 31 rfl rfl rfl rfl rfl rfl ?_
   refine .on rfl (fun a w hS hI hp => does_val (x_pickT rfl ((hp.V 13 rfl rfl).trans (bT rfl)) (rfl)) rfl) ?_
   refine .asg 17 rfl rfl rfl rfl ?_
   exact .nil
  clear hS
  intro cp bV hS bg hp
  have ao : sl _ 17 = .bool true := hp 18 (by decide)
  have hS := hS.cons ao
  clear hp ao
  refine aA _ _ ?_
  refine wp_cond_true ((hS.get 0 rfl).trans (bT rfl)) ?_
  refine wp_seq_k (fun dx b5 => ?_)
  refine reg_seq_tail 1 (I := I3_ w w3 bV) (ps := [IsV ((header_Get.v1 0 0 0 0 0 0 0 0 0 0 0 0 0 0 0 0 0 0 0 0 0 0 0))]) (by kernel_rfl) ?_ ?_ rfl hS ⟨bg.1, bg.2.1, (bR bV)⟩ ?_ ?_
  ·exact bs3
  ·exact .v (.nil)
  ·refine .on rfl (fun a w hS hI hp => does_val (x_build (vs := []) rfl (by rw [Array.toList_map]; exact (show [] = _ from rfl)) (by kernel_rfl)) rfl) ?_
   exact .nil
  clear hS
  intro df dG hS aT hp
  replace hS := (hS.nil).cons (hS.get 2 rfl)
  have aP : sl _ 36 = (header_Get.v1 0 0 0 0 0 0 0 0 0 0 0 0 0 0 0 0 0 0 0 0 0 0 0) := hp 0 (by decide)
  have hS := hS.cons aP
  clear hp aP
  show wpList _ _ _ [_, _, _] _ _
  refine list_step rfl (does_storeAll (g := g4) (cs := (header_Get.c0 0 0 0 0 0 0 0 0 0 0 0 0 0 0 0 0 0 0 0 0 0 0 0)) rfl (hS.get 1 rfl) (hS.get 0 rfl) ((aT.2.1.block g4 (blk_lt ae)).trans ae) (by kernel_rfl) (by kernel_rfl) (by kernel_rfl)) ?_
  rintro dr aK ⟨rfl, aO, hT⟩
  have a2 := hT.below aT.1 aq (aT.1).size
  clear hT
  refine list_step rfl (R := fun v w' => Below _ _ w' ∧ (VI 0) v w') (does_val (x_assign rfl (rfl)) rfl) ?_
  rintro bm bW ⟨hb, he⟩
  have aF := below_step a2 hb
  have aM := below_step (bR aK) hb
  obtain rfl : bm = .int .i64 0 := he
  refine hS.next (v := .int .i64 0) (d := 3) rfl (by decide) (by rfl) ?_
  clear hS
  intro bk hS
  refine list_step rfl (R := fun v w' => Below _ _ w' ∧ (VI 4) v w') (does_val (x_assign rfl (rfl)) rfl) ?_
  rintro b8 aC ⟨hb, he⟩
  have a3 := below_step aF hb
  have aN := below_step aM hb
  have bs := below_step (bR bW) hb
  obtain rfl : b8 = .int .i64 4 := he
  refine hS.next (v := .int .i64 4) (d := 4) rfl (by decide) (by rfl) ?_
  clear hS
  intro dg hS
  refine wpList_nil ?_
  refine b5 _ _ ?_
  refine wp_ret ?_
  (try simp only [Exit.then, Exit.inBlock, Exit.jump, Exit.noGoto])
  exact bodyPost_ret (v := .tuple #[(header_Get.v1 0 0 0 0 0 0 0 0 0 0 0 0 0 0 0 0 0 0 0 0 0 0 0), .int .i64 0, .int .i64 4]) (results_list (rs := [.cell 2 28, .tmp 3, .tmp 4]) rfl (by simp) (Vals.cell g4 28 (header_Get.c0 0 0 0 0 0 0 0 0 0 0 0 0 0 0 0 0 0 0 0 0 0 0 0) (0, 0) _ (hS.get 3 rfl) ((aN.block g4 (blk_lt aO)).trans aO) Try.underlying28 rfl (by kernel_rfl) (Vals.at (hS.get 1 rfl) (Vals.at (hS.get 0 rfl) .nil)))) hS.nodef ⟨rfl, a3⟩
 rw [if_pos c3] at H
 by_cases c4 : 1 < (l0.length : Int)
 rotate_left
 ·rw [if_neg c4] at H
  exact absurd H (by simp)
 rw [if_pos c4] at H
 by_cases c5 : (Go.bits .and .u8 (rd l0 1) 15) = 2
 rotate_left
 ·rw [if_neg c5] at H
  simp only [Option.some.injEq, Prod.mk.injEq] at H
  obtain ⟨rfl, rfl, rfl, rfl, rfl, rfl, rfl, rfl, rfl, rfl, rfl, rfl, rfl, rfl, rfl, rfl, rfl, rfl, rfl, rfl, rfl, rfl, rfl, rfl, rfl⟩ := H
  refine calls_of_wp (fn := Try.f28) (by kernel_rfl) rfl ?_
  have hS := St.enter #[.slice A0 l0.length ac] 90 (by simp) [(0, .slice A0 l0.length ac)] (by simp)
  have aE := Below.refl w.heap.size w
  refine wp_seq_k (fun K1 aG => ?_)
  refine reg_seq (I := I1_ w) (ps := [IsB (header_Get.c0 0 0 0 0 0 0 0 0 0 0 0 0 0 0 0 0 0 0 0 0 0 0 0) 28 w.heap.size, VI 0, VI 0]) (by kernel_rfl) ?_ ?_ rfl hS aE ?_ ?_
  ·exact bs1
  ·exact .cons (Stays.b _ _ _) (.v (.v (.nil)))
  ·refine .on rfl (fun a w hS hI hp => does_var (x_alloc rfl (by kernel_rfl)) (hI).size) ?_
   iterate 2 refine .on rfl (fun a w hS hI hp => does_val (x_assign rfl (rfl)) rfl) ?_
   exact .nil
  clear hS
  intro bh w3 hS aJ hp
  obtain ⟨g4, av, aq, ae⟩ := (show IsB _ 28 _ (sl _ 2) _ from hp 0 (by decide))
  have hS := hS.cons av
  clear hp av
  refine aG _ _ ?_
  refine wp_seq_k (fun K5 aL => ?_)
  refine wp_seq_k (fun K6 aH => ?_)
  refine reg_seq (I := I2_ w w3) (ps := [IsV (.slice A0 l0.length ac), VI (l0.length : Int), VB (decide ((l0.length : Int) < 34))]) (by kernel_rfl) ?_ ?_ rfl hS ⟨aJ, (bR w3)⟩ ?_ ?_
  ·exact bs2
  ·exact .v (.v (.v (.nil)))
  ·refine .ms 1 rfl rfl rfl ?_
   refine .on rfl (fun a w hS hI hp => does_val (x_len (e := 5) rfl (by kernel_rfl) (hp.V 0 rfl rfl)) rfl) ?_
   refine .on rfl (fun a w hS hI hp => does_val (x_bin rfl (hp.V 1 rfl rfl) (rfl) (b_lss _ _ _ _ _ _)) rfl) ?_
   exact .nil
  clear hS
  intro bi w8 hS aw hp
  have ah : sl _ 10 = .bool (decide ((l0.length : Int) < 34)) := hp 2 (by decide)
  have hS := hS.cons ah
  clear hp ah
  refine aH _ _ ?_
  refine wp_cond_false ((hS.get 0 rfl).trans (bF (decide_eq_false c1))) ?_
  refine wp_skip ?_
  refine aL _ _ ?_
  refine wp_seq_k (fun K9 aI => ?_)
  refine reg_seq (I := I3_ w w3 w8) (ps := [IsV (.slice A0 l0.length ac), IsV (.tuple #[.int .i64 aa, .bool ab]), IsV (.tuple #[.int .i64 aa, .bool ab]), VI aa, VB ab, VI aa, VB ab]) (by kernel_rfl) ?_ ?_ rfl hS ⟨aw.1, aw.2, (bR w8)⟩ ?_ ?_
  ·exact bs3
  ·exact .v (.v (.v (.v (.v (.v (.v (.nil)))))))
  ·refine .ms 2 rfl rfl rfl ?_
   refine .on rfl (fun a w hS hI hp => does_call (by kernel_rfl) (ar3 (hp.V 0 rfl rfl) (rfl) (rfl)) ((octets_Get.calls k _ _ l0 2 2 aa ab _ (Kd.C_below HR0 hI.1) HC0 a0).mono fun _ _ h => ⟨_, h.1, h.2.below, rfl⟩)) ?_
   refine .mv 1 rfl rfl rfl rfl ?_
   iterate 2 refine .on rfl (fun a w hS hI hp => does_val (x_extract rfl (hp.V 2 rfl rfl) rfl) rfl) ?_
   refine .asg 3 rfl rfl rfl rfl ?_
   refine .asg 4 rfl rfl rfl rfl ?_
   exact .nil
  clear hS
  intro bd ax hS ap hp
  replace hS := ((hS.nil).cons (hS.get 2 rfl)).cons (hS.get 1 rfl)
  have ay : sl _ 5 = .int .i64 aa := hp 5 (by decide)
  have hS := hS.cons ay
  clear hp ay
  refine aI _ _ ?_
  refine wp_seq_k (fun bn a7 => ?_)
  refine wp_block ?_
  refine wp_seq_k (fun bo aA => ?_)
  refine reg_seq (I := I3_ w w3 ax) (ps := [IsV (.slice A0 l0.length ac), IsA (.int .u8 (rd l0 0)), IsV (.int .u8 (rd l0 0)), VI (wrap64 (rd l0 0)), VB aj, VB (!aj), VB (!aj), IsV (.slice A0 l0.length ac), IsA (.int .u8 (rd l0 1)), IsV (.int .u8 (rd l0 1)), IsV (.int .u8 (Go.bits .and .u8 (rd l0 1) 15)), VB (!decide ((Go.bits .and .u8 (rd l0 1) 15) = 2)), VB (!decide ((Go.bits .and .u8 (rd l0 1) 15) = 2)), VB (!decide ((Go.bits .and .u8 (rd l0 1) 15) = 2)), VU, VU, VU, VB true, VB true]) (by kernel_rfl) ?_ ?_ rfl hS ⟨ap.1, ap.2.1, (bR ax)⟩ ?_ ?_
  ·exact bs3
  ·exact .v (.cons (Stays.a _) (.v (.v (.v (.v (.v (.v (.cons (Stays.a _) (.v (.v (.v (.v (.v (.v (.v (.v (.v (.v (.nil)))))))))))))))))))
  ·refine .ms 2 rfl rfl rfl ?_
   refine .on rfl (fun a w hS hI hp => does_index (e := 5) (xs := l0) rfl (hp.V 0 rfl rfl) (rfl) (by kernel_rfl) (by kernel_rfl) (by decide) c2 c2 ((Kd.C_below HR0 hI.1))) ?_
   refine .on rfl (fun a w hS hI hp => (hp.V 1 rfl rfl).elim fun _ h_ => does_val (x_load1 (d := .int .u8) rfl h_.1 (by kernel_rfl) rfl h_.2.2) rfl) ?_
   refine .on rfl (fun a w hS hI hp => does_val ((i64_w (rd l0 0)) ▸ x_convI rfl (by kernel_rfl) (by kernel_rfl) (hp.V 2 rfl rfl)) rfl) ?_
   refine .on rfl (fun a w hS hI hp => does_call (by kernel_rfl) (ar1 (hp.V 3 rfl rfl)) ((header_Known.calls k (wrap64 (rd l0 0)) aj _  a1).mono fun _ _ h => ⟨_, h.1, h.2.below, rfl⟩)) ?_
   refine .on rfl (fun a w hS hI hp => does_val (x_not rfl (hp.V 4 rfl rfl)) rfl) ?_
   refine .mv 5 rfl rfl rfl rfl ?_
   refine .oy 6 24 rfl rfl rfl rfl rfl ((congrArg (!·) c3)) (fun a w hS hI hp => does_val (x_move rfl (hS.get 2 rfl)) rfl) ?_
   refine .oy 6 24 rfl rfl rfl rfl rfl ((congrArg (!·) c3)) (fun a w hS hI hp => does_index (e := 5) (xs := l0) rfl (hp.V 7 rfl rfl) (rfl) (by kernel_rfl) (by kernel_rfl) (by decide) c4 c4 ((Kd.C_below HR0 hI.1))) ?_
   refine .oy 6 24 rfl rfl rfl rfl rfl ((congrArg (!·) c3)) (fun a w hS hI hp => (hp.V 8 rfl rfl).elim fun _ h_ => does_val (x_load1 (d := .int .u8) rfl h_.1 (by kernel_rfl) rfl h_.2.2) rfl) ?_
   refine .oy 6 24 rfl rfl rfl rfl rfl ((congrArg (!·) c3)) (fun a w hS hI hp => does_val (x_bin rfl (hp.V 9 rfl rfl) (rfl) (b_and _ _ _ _ _ _)) rfl) ?_
   refine .oy 6 24 rfl rfl rfl rfl rfl ((congrArg (!·) c3)) (fun a w hS hI hp => does_val (x_bin rfl (hp.V 10 rfl rfl) (rfl) (b_neq _ _ _ _ _ _)) rfl) ?_
   refine .on rfl (fun a w hS hI hp => does_val (x_pickF rfl ((hp.V 6 rfl rfl).trans (bF (congrArg (!·) c3))) (hp.V 11 rfl rfl)) rfl) ?_
   refine .mv 12 rfl rfl rfl rfl ?_
   iterate 3 refine .sn 13 31 rfl rfl rfl rfl rfl ((congrArg (!·) (decide_eq_false c5))) ?_
   refine .on rfl (fun a w hS hI hp => does_val (x_pickT rfl ((hp.V 13 rfl rfl).trans (bT (congrArg (!·) (decide_eq_false c5)))) (rfl)) rfl) ?_
   refine .asg 17 rfl rfl rfl rfl ?_
   exact .nil
  clear hS
  intro cp bV hS bg hp
  have ao : sl _ 17 = .bool true := hp 18 (by decide)
  have hS := hS.cons ao
  clear hp ao
  refine aA _ _ ?_
  refine wp_cond_true ((hS.get 0 rfl).trans (bT rfl)) ?_
  refine wp_seq_k (fun dx b5 => ?_)
  refine reg_seq_tail 1 (I := I3_ w w3 bV) (ps := [IsV ((header_Get.v1 0 0 0 0 0 0 0 0 0 0 0 0 0 0 0 0 0 0 0 0 0 0 0))]) (by kernel_rfl) ?_ ?_ rfl hS ⟨bg.1, bg.2.1, (bR bV)⟩ ?_ ?_
  ·exact bs3
  ·exact .v (.nil)
  ·refine .on rfl (fun a w hS hI hp => does_val (x_build (vs := []) rfl (by rw [Array.toList_map]; exact (show [] = _ from rfl)) (by kernel_rfl)) rfl) ?_
   exact .nil
  clear hS
  intro df dG hS aT hp
  replace hS := (hS.nil).cons (hS.get 2 rfl)
  have aP : sl _ 36 = (header_Get.v1 0 0 0 0 0 0 0 0 0 0 0 0 0 0 0 0 0 0 0 0 0 0 0) := hp 0 (by decide)
  have hS := hS.cons aP
  clear hp aP
  show wpList _ _ _ [_, _, _] _ _
  refine list_step rfl (does_storeAll (g := g4) (cs := (header_Get.c0 0 0 0 0 0 0 0 0 0 0 0 0 0 0 0 0 0 0 0 0 0 0 0)) rfl (hS.get 1 rfl) (hS.get 0 rfl) ((aT.2.1.block g4 (blk_lt ae)).trans ae) (by kernel_rfl) (by kernel_rfl) (by kernel_rfl)) ?_
  rintro dr aK ⟨rfl, aO, hT⟩
  have a2 := hT.below aT.1 aq (aT.1).size
  clear hT
  refine list_step rfl (R := fun v w' => Below _ _ w' ∧ (VI 0) v w') (does_val (x_assign rfl (rfl)) rfl) ?_
  rintro bm bW ⟨hb, he⟩
  have aF := below_step a2 hb
  have aM := below_step (bR aK) hb
  obtain rfl : bm = .int .i64 0 := he
  refine hS.next (v := .int .i64 0) (d := 3) rfl (by decide) (by rfl) ?_
  clear hS
  intro bk hS
  refine list_step rfl (R := fun v w' => Below _ _ w' ∧ (VI 4) v w') (does_val (x_assign rfl (rfl)) rfl) ?_
  rintro b8 aC ⟨hb, he⟩
  have a3 := below_step aF hb
  have aN := below_step aM hb
  have bs := below_step (bR bW) hb
  obtain rfl : b8 = .int .i64 4 := he
  refine hS.next (v := .int .i64 4) (d := 4) rfl (by decide) (by rfl) ?_
  clear hS
  intro dg hS
  refine wpList_nil ?_
  refine b5 _ _ ?_
  refine wp_ret ?_
  (try simp only [Exit.then, Exit.inBlock, Exit.jump, Exit.noGoto])
  exact bodyPost_ret (v := .tuple #[(header_Get.v1 0 0 0 0 0 0 0 0 0 0 0 0 0 0 0 0 0 0 0 0 0 0 0), .int .i64 0, .int .i64 4]) (results_list (rs := [.cell 2 28, .tmp 3, .tmp 4]) rfl (by simp) (Vals.cell g4 28 (header_Get.c0 0 0 0 0 0 0 0 0 0 0 0 0 0 0 0 0 0 0 0 0 0 0 0) (0, 0) _ (hS.get 3 rfl) ((aN.block g4 (blk_lt aO)).trans aO) Try.underlying28 rfl (by kernel_rfl) (Vals.at (hS.get 1 rfl) (Vals.at (hS.get 0 rfl) .nil)))) hS.nodef ⟨rfl, a3⟩
 rw [if_pos c5] at H
 obtain ⟨ak, bj, H⟩ := Option.bind_eq_some_iff.mp H
 by_cases c6 : ak = true
 rotate_left
 ·rw [if_neg c6] at H
  simp only [Option.some.injEq, Prod.mk.injEq] at H
  obtain ⟨rfl, rfl, rfl, rfl, rfl, rfl, rfl, rfl, rfl, rfl, rfl, rfl, rfl, rfl, rfl, rfl, rfl, rfl, rfl, rfl, rfl, rfl, rfl, rfl, rfl⟩ := H
  refine calls_of_wp (fn := Try.f28) (by kernel_rfl) rfl ?_
  have hS := St.enter #[.slice A0 l0.length ac] 90 (by simp) [(0, .slice A0 l0.length ac)] (by simp)
  have aE := Below.refl w.heap.size w
  refine wp_seq_k (fun K1 aG => ?_)
  refine reg_seq (I := I1_ w) (ps := [IsB (header_Get.c0 0 0 0 0 0 0 0 0 0 0 0 0 0 0 0 0 0 0 0 0 0 0 0) 28 w.heap.size, VI 0, VI 0]) (by kernel_rfl) ?_ ?_ rfl hS aE ?_ ?_
  ·exact bs1
  ·exact .cons (Stays.b _ _ _) (.v (.v (.nil)))
  ·refine .on rfl (fun a w hS hI hp => does_var (x_alloc rfl (by kernel_rfl)) (hI).size) ?_
   iterate 2 refine .on rfl (fun a w hS hI hp => does_val (x_assign rfl (rfl)) rfl) ?_
   exact .nil
  clear hS
  intro bh w3 hS aJ hp
  obtain ⟨g4, av, aq, ae⟩ := (show IsB _ 28 _ (sl _ 2) _ from hp 0 (by decide))
  have hS := hS.cons av
  clear hp av
  refine aG _ _ ?_
  refine wp_seq_k (fun K5 aL => ?_)
  refine wp_seq_k (fun K6 aH => ?_)
  refine reg_seq (I := I2_ w w3) (ps := [IsV (.slice A0 l0.length ac), VI (l0.length : Int), VB (decide ((l0.length : Int) < 34))]) (by kernel_rfl) ?_ ?_ rfl hS ⟨aJ, (bR w3)⟩ ?_ ?_
  ·exact bs2
  ·exact .v (.v (.v (.nil)))
  ·refine .ms 1 rfl rfl rfl ?_
   refine .on rfl (fun a w hS hI hp => does_val (x_len (e := 5) rfl (by kernel_rfl) (hp.V 0 rfl rfl)) rfl) ?_
   refine .on rfl (fun a w hS hI hp => does_val (x_bin rfl (hp.V 1 rfl rfl) (rfl) (b_lss _ _ _ _ _ _)) rfl) ?_
   exact .nil
  clear hS
  intro bi w8 hS aw hp
  have ah : sl _ 10 = .bool (decide ((l0.length : Int) < 34)) := hp 2 (by decide)
  have hS := hS.cons ah
  clear hp ah
  refine aH _ _ ?_
  refine wp_cond_false ((hS.get 0 rfl).trans (bF (decide_eq_false c1))) ?_
  refine wp_skip ?_
  refine aL _ _ ?_
  refine wp_seq_k (fun K9 aI => ?_)
  refine reg_seq (I := I3_ w w3 w8) (ps := [IsV (.slice A0 l0.length ac), IsV (.tuple #[.int .i64 aa, .bool ab]), IsV (.tuple #[.int .i64 aa, .bool ab]), VI aa, VB ab, VI aa, VB ab]) (by kernel_rfl) ?_ ?_ rfl hS ⟨aw.1, aw.2, (bR w8)⟩ ?_ ?_
  ·exact bs3
  ·exact .v (.v (.v (.v (.v (.v (.v (.nil)))))))
  ·refine .ms 2 rfl rfl rfl ?_
   refine .on rfl (fun a w hS hI hp => does_call (by kernel_rfl) (ar3 (hp.V 0 rfl rfl) (rfl) (rfl)) ((octets_Get.calls k _ _ l0 2 2 aa ab _ (Kd.C_below HR0 hI.1) HC0 a0).mono fun _ _ h => ⟨_, h.1, h.2.below, rfl⟩)) ?_
   refine .mv 1 rfl rfl rfl rfl ?_
   iterate 2 refine .on rfl (fun a w hS hI hp => does_val (x_extract rfl (hp.V 2 rfl rfl) rfl) rfl) ?_
   refine .asg 3 rfl rfl rfl rfl ?_
   refine .asg 4 rfl rfl rfl rfl ?_
   exact .nil
  clear hS
  intro bd ax hS ap hp
  replace hS := ((hS.nil).cons (hS.get 2 rfl)).cons (hS.get 1 rfl)
  have ay : sl _ 5 = .int .i64 aa := hp 5 (by decide)
  have hS := hS.cons ay
  clear hp ay
  refine aI _ _ ?_
  refine wp_seq_k (fun bn a7 => ?_)
  refine wp_block ?_
  refine wp_seq_k (fun bo aA => ?_)
  refine reg_seq (I := I3_ w w3 ax) (ps := [IsV (.slice A0 l0.length ac), IsA (.int .u8 (rd l0 0)), IsV (.int .u8 (rd l0 0)), VI (wrap64 (rd l0 0)), VB aj, VB (!aj), VB (!aj), IsV (.slice A0 l0.length ac), IsA (.int .u8 (rd l0 1)), IsV (.int .u8 (rd l0 1)), IsV (.int .u8 (Go.bits .and .u8 (rd l0 1) 15)), VB (!decide ((Go.bits .and .u8 (rd l0 1) 15) = 2)), VB (!decide ((Go.bits .and .u8 (rd l0 1) 15) = 2)), VB (!decide ((Go.bits .and .u8 (rd l0 1) 15) = 2)), VI aa, VB ak, VB (!ak), VB (!ak), VB (!ak)]) (by kernel_rfl) ?_ ?_ rfl hS ⟨ap.1, ap.2.1, (bR ax)⟩ ?_ ?_
  ·exact bs3
  ·exact .v (.cons (Stays.a _) (.v (.v (.v (.v (.v (.v (.cons (Stays.a _) (.v (.v (.v (.v (.v (.v (.v (.v (.v (.v (.nil)))))))))))))))))))
  ·refine .ms 2 rfl rfl rfl ?_
   refine .on rfl (fun a w hS hI hp => does_index (e := 5) (xs := l0) rfl (hp.V 0 rfl rfl) (rfl) (by kernel_rfl) (by kernel_rfl) (by decide) c2 c2 ((Kd.C_below HR0 hI.1))) ?_
   refine .on rfl (fun a w hS hI hp => (hp.V 1 rfl rfl).elim fun _ h_ => does_val (x_load1 (d := .int .u8) rfl h_.1 (by kernel_rfl) rfl h_.2.2) rfl) ?_
   refine .on rfl (fun a w hS hI hp => does_val ((i64_w (rd l0 0)) ▸ x_convI rfl (by kernel_rfl) (by kernel_rfl) (hp.V 2 rfl rfl)) rfl) ?_
   refine .on rfl (fun a w hS hI hp => does_call (by kernel_rfl) (ar1 (hp.V 3 rfl rfl)) ((header_Known.calls k (wrap64 (rd l0 0)) aj _  a1).mono fun _ _ h => ⟨_, h.1, h.2.below, rfl⟩)) ?_
   refine .on rfl (fun a w hS hI hp => does_val (x_not rfl (hp.V 4 rfl rfl)) rfl) ?_
   refine .mv 5 rfl rfl rfl rfl ?_
   refine .oy 6 24 rfl rfl rfl rfl rfl ((congrArg (!·) c3)) (fun a w hS hI hp => does_val (x_move rfl (hS.get 2 rfl)) rfl) ?_
   refine .oy 6 24 rfl rfl rfl rfl rfl ((congrArg (!·) c3)) (fun a w hS hI hp => does_index (e := 5) (xs := l0) rfl (hp.V 7 rfl rfl) (rfl) (by kernel_rfl) (by kernel_rfl) (by decide) c4 c4 ((Kd.C_below HR0 hI.1))) ?_
   refine .oy 6 24 rfl rfl rfl rfl rfl ((congrArg (!·) c3)) (fun a w hS hI hp => (hp.V 8 rfl rfl).elim fun _ h_ => does_val (x_load1 (d := .int .u8) rfl h_.1 (by kernel_rfl) rfl h_.2.2) rfl) ?_
   refine .oy 6 24 rfl rfl rfl rfl rfl ((congrArg (!·) c3)) (fun a w hS hI hp => does_val (x_bin rfl (hp.V 9 rfl rfl) (rfl) (b_and _ _ _ _ _ _)) rfl) ?_
   refine .oy 6 24 rfl rfl rfl rfl rfl ((congrArg (!·) c3)) (fun a w hS hI hp => does_val (x_bin rfl (hp.V 10 rfl rfl) (rfl) (b_neq _ _ _ _ _ _)) rfl) ?_
   refine .on rfl (fun a w hS hI hp => does_val (x_pickF rfl ((hp.V 6 rfl rfl).trans (bF (congrArg (!·) c3))) (hp.V 11 rfl rfl)) rfl) ?_
   refine .mv 12 rfl rfl rfl rfl ?_
   refine .oy 13 31 rfl rfl rfl rfl rfl ((congrArg (!·) (decide_eq_true c5))) (fun a w hS hI hp => does_val (x_move rfl (hS.get 0 rfl)) rfl) ?_
   refine .oy 13 31 rfl rfl rfl rfl rfl ((congrArg (!·) (decide_eq_true c5))) (fun a w hS hI hp => does_call (by kernel_rfl) (ar3 (hp.V 14 rfl rfl) (rfl) (rfl)) ((header_in.calls aa 34 400 ak _  bj).mono fun _ _ h => ⟨_, h.1, h.2.below, rfl⟩)) ?_
   refine .oy 13 31 rfl rfl rfl rfl rfl ((congrArg (!·) (decide_eq_true c5))) (fun a w hS hI hp => does_val (x_not rfl (hp.V 15 rfl rfl)) rfl) ?_
   refine .on rfl (fun a w hS hI hp => does_val (x_pickF rfl ((hp.V 13 rfl rfl).trans (bF (congrArg (!·) (decide_eq_true c5)))) (hp.V 16 rfl rfl)) rfl) ?_
   refine .asg 17 rfl rfl rfl rfl ?_
   exact .nil
  clear hS
  intro bX aR hS aB hp
  have ao : sl _ 17 = .bool (!ak) := hp 18 (by decide)
  have hS := hS.cons ao
  clear hp ao
  refine aA _ _ ?_
  refine wp_cond_true ((hS.get 0 rfl).trans (bT (congrArg (!·) (Bool.eq_false_iff.2 c6)))) ?_
  refine wp_seq_k (fun co aS => ?_)
  refine reg_seq_tail 1 (I := I3_ w w3 aR) (ps := [IsV ((header_Get.v1 0 0 0 0 0 0 0 0 0 0 0 0 0 0 0 0 0 0 0 0 0 0 0))]) (by kernel_rfl) ?_ ?_ rfl hS ⟨aB.1, aB.2.1, (bR aR)⟩ ?_ ?_
  ·exact bs3
  ·exact .v (.nil)
  ·refine .on rfl (fun a w hS hI hp => does_val (x_build (vs := []) rfl (by rw [Array.toList_map]; exact (show [] = _ from rfl)) (by kernel_rfl)) rfl) ?_
   exact .nil
  clear hS
  intro bY aK hS az hp
  replace hS := (hS.nil).cons (hS.get 2 rfl)
  have aP : sl _ 36 = (header_Get.v1 0 0 0 0 0 0 0 0 0 0 0 0 0 0 0 0 0 0 0 0 0 0 0) := hp 0 (by decide)
  have hS := hS.cons aP
  clear hp aP
  show wpList _ _ _ [_, _, _] _ _
  refine list_step rfl (does_storeAll (g := g4) (cs := (header_Get.c0 0 0 0 0 0 0 0 0 0 0 0 0 0 0 0 0 0 0 0 0 0 0 0)) rfl (hS.get 1 rfl) (hS.get 0 rfl) ((az.2.1.block g4 (blk_lt ae)).trans ae) (by kernel_rfl) (by kernel_rfl) (by kernel_rfl)) ?_
  rintro bm bW ⟨rfl, bK, hT⟩
  have aF := hT.below az.1 aq (az.1).size
  clear hT
  refine list_step rfl (R := fun v w' => Below _ _ w' ∧ (VI 0) v w') (does_val (x_assign rfl (rfl)) rfl) ?_
  rintro ds dH ⟨hb, he⟩
  have cd := below_step aF hb
  have br := below_step (bR bW) hb
  obtain rfl : ds = .int .i64 0 := he
  refine hS.next (v := .int .i64 0) (d := 3) rfl (by decide) (by rfl) ?_
  clear hS
  intro dN hS
  refine list_step rfl (R := fun v w' => Below _ _ w' ∧ (VI 4) v w') (does_val (x_assign rfl (rfl)) rfl) ?_
  rintro cI cS ⟨hb, he⟩
  have a4 := below_step cd hb
  have bt := below_step br hb
  have cN := below_step (bR dH) hb
  obtain rfl : cI = .int .i64 4 := he
  refine hS.next (v := .int .i64 4) (d := 4) rfl (by decide) (by rfl) ?_
  clear hS
  intro cq hS
  refine wpList_nil ?_
  refine aS _ _ ?_
  refine wp_ret ?_
  (try simp only [Exit.then, Exit.inBlock, Exit.jump, Exit.noGoto])
  exact bodyPost_ret (v := .tuple #[(header_Get.v1 0 0 0 0 0 0 0 0 0 0 0 0 0 0 0 0 0 0 0 0 0 0 0), .int .i64 0, .int .i64 4]) (results_list (rs := [.cell 2 28, .tmp 3, .tmp 4]) rfl (by simp) (Vals.cell g4 28 (header_Get.c0 0 0 0 0 0 0 0 0 0 0 0 0 0 0 0 0 0 0 0 0 0 0 0) (0, 0) _ (hS.get 3 rfl) ((bt.block g4 (blk_lt bK)).trans bK) Try.underlying28 rfl (by kernel_rfl) (Vals.at (hS.get 1 rfl) (Vals.at (hS.get 0 rfl) .nil)))) hS.nodef ⟨rfl, a4⟩
 rw [if_pos c6] at H
 by_cases c7 : (l0.length : Int) < aa
 ·rw [if_pos c7] at H
  simp only [Option.some.injEq, Prod.mk.injEq] at H
  obtain ⟨rfl, rfl, rfl, rfl, rfl, rfl, rfl, rfl, rfl, rfl, rfl, rfl, rfl, rfl, rfl, rfl, rfl, rfl, rfl, rfl, rfl, rfl, rfl, rfl, rfl⟩ := H
  refine calls_of_wp (fn := Try.f28) (by kernel_rfl) rfl ?_
  have hS := St.enter #[.slice A0 l0.length ac] 90 (by simp) [(0, .slice A0 l0.length ac)] (by simp)
  have aE := Below.refl w.heap.size w
  refine wp_seq_k (fun K1 aG => ?_)
  refine reg_seq (I := I1_ w) (ps := [IsB (header_Get.c0 0 0 0 0 0 0 0 0 0 0 0 0 0 0 0 0 0 0 0 0 0 0 0) 28 w.heap.size, VI 0, VI 0]) (by kernel_rfl) ?_ ?_ rfl hS aE ?_ ?_
  ·exact bs1
  ·exact .cons (Stays.b _ _ _) (.v (.v (.nil)))
  ·refine .on rfl (fun a w hS hI hp => does_var (x_alloc rfl (by kernel_rfl)) (hI).size) ?_
   iterate 2 refine .on rfl (fun a w hS hI hp => does_val (x_assign rfl (rfl)) rfl) ?_
   exact .nil
  clear hS
  intro bh w3 hS aJ hp
  obtain ⟨g4, av, aq, ae⟩ := (show IsB _ 28 _ (sl _ 2) _ from hp 0 (by decide))
  have hS := hS.cons av
  clear hp av
  refine aG _ _ ?_
  refine wp_seq_k (fun K5 aL => ?_)
  refine wp_seq_k (fun K6 aH => ?_)
  refine reg_seq (I := I2_ w w3) (ps := [IsV (.slice A0 l0.length ac), VI (l0.length : Int), VB (decide ((l0.length : Int) < 34))]) (by kernel_rfl) ?_ ?_ rfl hS ⟨aJ, (bR w3)⟩ ?_ ?_
  ·exact bs2
  ·exact .v (.v (.v (.nil)))
  ·refine .ms 1 rfl rfl rfl ?_
   refine .on rfl (fun a w hS hI hp => does_val (x_len (e := 5) rfl (by kernel_rfl) (hp.V 0 rfl rfl)) rfl) ?_
   refine .on rfl (fun a w hS hI hp => does_val (x_bin rfl (hp.V 1 rfl rfl) (rfl) (b_lss _ _ _ _ _ _)) rfl) ?_
   exact .nil
  clear hS
  intro bi w8 hS aw hp
  have ah : sl _ 10 = .bool (decide ((l0.length : Int) < 34)) := hp 2 (by decide)
  have hS := hS.cons ah
  clear hp ah
  refine aH _ _ ?_
  refine wp_cond_false ((hS.get 0 rfl).trans (bF (decide_eq_false c1))) ?_
  refine wp_skip ?_
  refine aL _ _ ?_
  refine wp_seq_k (fun K9 aI => ?_)
  refine reg_seq (I := I3_ w w3 w8) (ps := [IsV (.slice A0 l0.length ac), IsV (.tuple #[.int .i64 aa, .bool ab]), IsV (.tuple #[.int .i64 aa, .bool ab]), VI aa, VB ab, VI aa, VB ab]) (by kernel_rfl) ?_ ?_ rfl hS ⟨aw.1, aw.2, (bR w8)⟩ ?_ ?_
  ·exact bs3
  ·exact .v (.v (.v (.v (.v (.v (.v (.nil)))))))
  ·refine .ms 2 rfl rfl rfl ?_
   refine .on rfl (fun a w hS hI hp => does_call (by kernel_rfl) (ar3 (hp.V 0 rfl rfl) (rfl) (rfl)) ((octets_Get.calls k _ _ l0 2 2 aa ab _ (Kd.C_below HR0 hI.1) HC0 a0).mono fun _ _ h => ⟨_, h.1, h.2.below, rfl⟩)) ?_
   refine .mv 1 rfl rfl rfl rfl ?_
   iterate 2 refine .on rfl (fun a w hS hI hp => does_val (x_extract rfl (hp.V 2 rfl rfl) rfl) rfl) ?_
   refine .asg 3 rfl rfl rfl rfl ?_
   refine .asg 4 rfl rfl rfl rfl ?_
   exact .nil
  clear hS
  intro bd ax hS ap hp
  replace hS := ((hS.nil).cons (hS.get 2 rfl)).cons (hS.get 1 rfl)
  have ay : sl _ 5 = .int .i64 aa := hp 5 (by decide)
  have hS := hS.cons ay
  clear hp ay
  refine aI _ _ ?_
  refine wp_seq_k (fun bn a7 => ?_)
  refine wp_block ?_
  refine wp_seq_k (fun bo aA => ?_)
  refine reg_seq (I := I3_ w w3 ax) (ps := [IsV (.slice A0 l0.length ac), IsA (.int .u8 (rd l0 0)), IsV (.int .u8 (rd l0 0)), VI (wrap64 (rd l0 0)), VB aj, VB (!aj), VB (!aj), IsV (.slice A0 l0.length ac), IsA (.int .u8 (rd l0 1)), IsV (.int .u8 (rd l0 1)), IsV (.int .u8 (Go.bits .and .u8 (rd l0 1) 15)), VB (!decide ((Go.bits .and .u8 (rd l0 1) 15) = 2)), VB (!decide ((Go.bits .and .u8 (rd l0 1) 15) = 2)), VB (!decide ((Go.bits .and .u8 (rd l0 1) 15) = 2)), VI aa, VB ak, VB (!ak), VB (!ak), VB (!ak)]) (by kernel_rfl) ?_ ?_ rfl hS ⟨ap.1, ap.2.1, (bR ax)⟩ ?_ ?_
  ·exact bs3
  ·exact .v (.cons (Stays.a _) (.v (.v (.v (.v (.v (.v (.cons (Stays.a _) (.v (.v (.v (.v (.v (.v (.v (.v (.v (.v (.nil)))))))))))))))))))
  ·refine .ms 2 rfl rfl rfl ?_
   refine .on rfl (fun a w hS hI hp => does_index (e := 5) (xs := l0) rfl (hp.V 0 rfl rfl) (rfl) (by kernel_rfl) (by kernel_rfl) (by decide) c2 c2 ((Kd.C_below HR0 hI.1))) ?_
   refine .on rfl (fun a w hS hI hp => (hp.V 1 rfl rfl).elim fun _ h_ => does_val (x_load1 (d := .int .u8) rfl h_.1 (by kernel_rfl) rfl h_.2.2) rfl) ?_
   refine .on rfl (fun a w hS hI hp => does_val ((i64_w (rd l0 0)) ▸ x_convI rfl (by kernel_rfl) (by kernel_rfl) (hp.V 2 rfl rfl)) rfl) ?_
   refine .on rfl (fun a w hS hI hp => does_call (by kernel_rfl) (ar1 (hp.V 3 rfl rfl)) ((header_Known.calls k (wrap64 (rd l0 0)) aj _  a1).mono fun _ _ h => ⟨_, h.1, h.2.below, rfl⟩)) ?_
   refine .on rfl (fun a w hS hI hp => does_val (x_not rfl (hp.V 4 rfl rfl)) rfl) ?_
   refine .mv 5 rfl rfl rfl rfl ?_
   refine .oy 6 24 rfl rfl rfl rfl rfl ((congrArg (!·) c3)) (fun a w hS hI hp => does_val (x_move rfl (hS.get 2 rfl)) rfl) ?_
   refine .oy 6 24 rfl rfl rfl rfl rfl ((congrArg (!·) c3)) (fun a w hS hI hp => does_index (e := 5) (xs := l0) rfl (hp.V 7 rfl rfl) (rfl) (by kernel_rfl) (by kernel_rfl) (by decide) c4 c4 ((Kd.C_below HR0 hI.1))) ?_
   refine .oy 6 24 rfl rfl rfl rfl rfl ((congrArg (!·) c3)) (fun a w hS hI hp => (hp.V 8 rfl rfl).elim fun _ h_ => does_val (x_load1 (d := .int .u8) rfl h_.1 (by kernel_rfl) rfl h_.2.2) rfl) ?_
   refine .oy 6 24 rfl rfl rfl rfl rfl ((congrArg (!·) c3)) (fun a w hS hI hp => does_val (x_bin rfl (hp.V 9 rfl rfl) (rfl) (b_and _ _ _ _ _ _)) rfl) ?_
   refine .oy 6 24 rfl rfl rfl rfl rfl ((congrArg (!·) c3)) (fun a w hS hI hp => does_val (x_bin rfl (hp.V 10 rfl rfl) (rfl) (b_neq _ _ _ _ _ _)) rfl) ?_
   refine .on rfl (fun a w hS hI hp => does_val (x_pickF rfl ((hp.V 6 rfl rfl).trans (bF (congrArg (!·) c3))) (hp.V 11 rfl rfl)) rfl) ?_
   refine .mv 12 rfl rfl rfl rfl ?_
   refine .oy 13 31 rfl rfl rfl rfl rfl ((congrArg (!·) (decide_eq_true c5))) (fun a w hS hI hp => does_val (x_move rfl (hS.get 0 rfl)) rfl) ?_
   refine .oy 13 31 rfl rfl rfl rfl rfl ((congrArg (!·) (decide_eq_true c5))) (fun a w hS hI hp => does_call (by kernel_rfl) (ar3 (hp.V 14 rfl rfl) (rfl) (rfl)) ((header_in.calls aa 34 400 ak _  bj).mono fun _ _ h => ⟨_, h.1, h.2.below, rfl⟩)) ?_
   refine .oy 13 31 rfl rfl rfl rfl rfl ((congrArg (!·) (decide_eq_true c5))) (fun a w hS hI hp => does_val (x_not rfl (hp.V 15 rfl rfl)) rfl) ?_
   refine .on rfl (fun a w hS hI hp => does_val (x_pickF rfl ((hp.V 13 rfl rfl).trans (bF (congrArg (!·) (decide_eq_true c5)))) (hp.V 16 rfl rfl)) rfl) ?_
   refine .asg 17 rfl rfl rfl rfl ?_
   exact .nil
  clear hS
  intro bX aR hS aB hp
  have ao : sl _ 17 = .bool (!ak) := hp 18 (by decide)
  have hS := hS.cons ao
  clear hp ao
  refine aA _ _ ?_
  refine wp_cond_false ((hS.get 0 rfl).trans (bF (congrArg (!·) c6))) ?_
  refine wp_seq_k (fun co aS => ?_)
  refine reg_seq (I := I3_ w w3 aR) (ps := [IsV (.slice A0 l0.length ac), VI (l0.length : Int), VI aa, VB (decide ((l0.length : Int) < aa)), VB (decide ((l0.length : Int) < aa))]) (by kernel_rfl) ?_ ?_ rfl hS ⟨aB.1, aB.2.1, (bR aR)⟩ ?_ ?_
  ·exact bs3
  ·exact .v (.v (.v (.v (.v (.nil)))))
  ·refine .ms 3 rfl rfl rfl ?_
   refine .on rfl (fun a w hS hI hp => does_val (x_len (e := 5) rfl (by kernel_rfl) (hp.V 0 rfl rfl)) rfl) ?_
   refine .ms 1 rfl rfl rfl ?_
   refine .on rfl (fun a w hS hI hp => does_val (x_bin rfl (hp.V 1 rfl rfl) (hp.V 2 rfl rfl) (b_lss _ _ _ _ _ _)) rfl) ?_
   refine .asg 3 rfl rfl rfl rfl ?_
   exact .nil
  clear hS
  intro bY aK hS az hp
  replace hS := (((hS.nil).cons (hS.get 3 rfl)).cons (hS.get 2 rfl)).cons (hS.get 1 rfl)
  have aQ : sl _ 37 = .bool (decide ((l0.length : Int) < aa)) := hp 4 (by decide)
  have hS := hS.cons aQ
  clear hp aQ
  refine aS _ _ ?_
  refine wp_cond_true ((hS.get 0 rfl).trans (bT (decide_eq_true c7))) ?_
  refine wp_seq_k (fun cL be => ?_)
  refine reg_seq_tail 1 (I := I3_ w w3 aK) (ps := [IsV ((header_Get.v1 0 0 0 0 0 0 0 0 0 0 0 0 0 0 0 0 0 0 0 0 0 0 0))]) (by kernel_rfl) ?_ ?_ rfl hS ⟨az.1, az.2.1, (bR aK)⟩ ?_ ?_
  ·exact bs3
  ·exact .v (.nil)
  ·refine .on rfl (fun a w hS hI hp => does_val (x_build (vs := []) rfl (by rw [Array.toList_map]; exact (show [] = _ from rfl)) (by kernel_rfl)) rfl) ?_
   exact .nil
  clear hS
  intro bk aC hS af hp
  replace hS := (hS.nil).cons (hS.get 2 rfl)
  have ct : sl _ 42 = (header_Get.v1 0 0 0 0 0 0 0 0 0 0 0 0 0 0 0 0 0 0 0 0 0 0 0) := hp 0 (by decide)
  have hS := hS.cons ct
  clear hp ct
  show wpList _ _ _ [_, _, _] _ _
  refine list_step rfl (does_storeAll (g := g4) (cs := (header_Get.c0 0 0 0 0 0 0 0 0 0 0 0 0 0 0 0 0 0 0 0 0 0 0 0)) rfl (hS.get 1 rfl) (hS.get 0 rfl) ((af.2.1.block g4 (blk_lt ae)).trans ae) (by kernel_rfl) (by kernel_rfl) (by kernel_rfl)) ?_
  rintro cI cS ⟨rfl, bL, hT⟩
  have a4 := hT.below af.1 aq (af.1).size
  clear hT
  refine list_step rfl (R := fun v w' => Below _ _ w' ∧ (VI 0) v w') (does_val (x_assign rfl (rfl)) rfl) ?_
  rintro dt dI ⟨hb, he⟩
  have ce := below_step a4 hb
  have bu := below_step (bR cS) hb
  obtain rfl : dt = .int .i64 0 := he
  refine hS.next (v := .int .i64 0) (d := 3) rfl (by decide) (by rfl) ?_
  clear hS
  intro dO hS
  refine list_step rfl (R := fun v w' => Below _ _ w' ∧ (VI 2) v w') (does_val (x_assign rfl (rfl)) rfl) ?_
  rintro cJ cU ⟨hb, he⟩
  have a5 := below_step ce hb
  have bv := below_step bu hb
  have cO := below_step (bR dI) hb
  obtain rfl : cJ = .int .i64 2 := he
  refine hS.next (v := .int .i64 2) (d := 4) rfl (by decide) (by rfl) ?_
  clear hS
  intro dP hS
  refine wpList_nil ?_
  refine be _ _ ?_
  refine wp_ret ?_
  (try simp only [Exit.then, Exit.inBlock, Exit.jump, Exit.noGoto])
  exact bodyPost_ret (v := .tuple #[(header_Get.v1 0 0 0 0 0 0 0 0 0 0 0 0 0 0 0 0 0 0 0 0 0 0 0), .int .i64 0, .int .i64 2]) (results_list (rs := [.cell 2 28, .tmp 3, .tmp 4]) rfl (by simp) (Vals.cell g4 28 (header_Get.c0 0 0 0 0 0 0 0 0 0 0 0 0 0 0 0 0 0 0 0 0 0 0 0) (0, 0) _ (hS.get 3 rfl) ((bv.block g4 (blk_lt bL)).trans bL) Try.underlying28 rfl (by kernel_rfl) (Vals.at (hS.get 1 rfl) (Vals.at (hS.get 0 rfl) .nil)))) hS.nodef ⟨rfl, a5⟩
 rw [if_neg c7] at H
 by_cases c8 : (l0.length : Int) > aa
 ·rw [if_pos c8] at H
  simp only [Option.some.injEq, Prod.mk.injEq] at H
  obtain ⟨rfl, rfl, rfl, rfl, rfl, rfl, rfl, rfl, rfl, rfl, rfl, rfl, rfl, rfl, rfl, rfl, rfl, rfl, rfl, rfl, rfl, rfl, rfl, rfl, rfl⟩ := H
  refine calls_of_wp (fn := Try.f28) (by kernel_rfl) rfl ?_
  have hS := St.enter #[.slice A0 l0.length ac] 90 (by simp) [(0, .slice A0 l0.length ac)] (by simp)
  have aE := Below.refl w.heap.size w
  refine wp_seq_k (fun K1 aG => ?_)
  refine reg_seq (I := I1_ w) (ps := [IsB (header_Get.c0 0 0 0 0 0 0 0 0 0 0 0 0 0 0 0 0 0 0 0 0 0 0 0) 28 w.heap.size, VI 0, VI 0]) (by kernel_rfl) ?_ ?_ rfl hS aE ?_ ?_
  ·exact bs1
  ·exact .cons (Stays.b _ _ _) (.v (.v (.nil)))
  ·refine .on rfl (fun a w hS hI hp => does_var (x_alloc rfl (by kernel_rfl)) (hI).size) ?_
   iterate 2 refine .on rfl (fun a w hS hI hp => does_val (x_assign rfl (rfl)) rfl) ?_
   exact .nil
  clear hS
  intro bh w3 hS aJ hp
  obtain ⟨g4, av, aq, ae⟩ := (show IsB _ 28 _ (sl _ 2) _ from hp 0 (by decide))
  have hS := hS.cons av
  clear hp av
  refine aG _ _ ?_
  refine wp_seq_k (fun K5 aL => ?_)
  refine wp_seq_k (fun K6 aH => ?_)
  refine reg_seq (I := I2_ w w3) (ps := [IsV (.slice A0 l0.length ac), VI (l0.length : Int), VB (decide ((l0.length : Int) < 34))]) (by kernel_rfl) ?_ ?_ rfl hS ⟨aJ, (bR w3)⟩ ?_ ?_
  ·exact bs2
  ·exact .v (.v (.v (.nil)))
  ·refine .ms 1 rfl rfl rfl ?_
   refine .on rfl (fun a w hS hI hp => does_val (x_len (e := 5) rfl (by kernel_rfl) (hp.V 0 rfl rfl)) rfl) ?_
   refine .on rfl (fun a w hS hI hp => does_val (x_bin rfl (hp.V 1 rfl rfl) (rfl) (b_lss _ _ _ _ _ _)) rfl) ?_
   exact .nil
  clear hS
  intro bi w8 hS aw hp
  have ah : sl _ 10 = .bool (decide ((l0.length : Int) < 34)) := hp 2 (by decide)
  have hS := hS.cons ah
  clear hp ah
  refine aH _ _ ?_
  refine wp_cond_false ((hS.get 0 rfl).trans (bF (decide_eq_false c1))) ?_
  refine wp_skip ?_
  refine aL _ _ ?_
  refine wp_seq_k (fun K9 aI => ?_)
  refine reg_seq (I := I3_ w w3 w8) (ps := [IsV (.slice A0 l0.length ac), IsV (.tuple #[.int .i64 aa, .bool ab]), IsV (.tuple #[.int .i64 aa, .bool ab]), VI aa, VB ab, VI aa, VB ab]) (by kernel_rfl) ?_ ?_ rfl hS ⟨aw.1, aw.2, (bR w8)⟩ ?_ ?_
  ·exact bs3
  ·exact .v (.v (.v (.v (.v (.v (.v (.nil)))))))
  ·refine .ms 2 rfl rfl rfl ?_
   refine .on rfl (fun a w hS hI hp => does_call (by kernel_rfl) (ar3 (hp.V 0 rfl rfl) (rfl) (rfl)) ((octets_Get.calls k _ _ l0 2 2 aa ab _ (Kd.C_below HR0 hI.1) HC0 a0).mono fun _ _ h => ⟨_, h.1, h.2.below, rfl⟩)) ?_
   refine .mv 1 rfl rfl rfl rfl ?_
   iterate 2 refine .on rfl (fun a w hS hI hp => does_val (x_extract rfl (hp.V 2 rfl rfl) rfl) rfl) ?_
   refine .asg 3 rfl rfl rfl rfl ?_
   refine .asg 4 rfl rfl rfl rfl ?_
   exact .nil
  clear hS
  intro bd ax hS ap hp
  replace hS := ((hS.nil).cons (hS.get 2 rfl)).cons (hS.get 1 rfl)
  have ay : sl _ 5 = .int .i64 aa := hp 5 (by decide)
  have hS := hS.cons ay
  clear hp ay
  refine aI _ _ ?_
  refine wp_seq_k (fun bn a7 => ?_)
  refine wp_block ?_
  refine wp_seq_k (fun bo aA => ?_)
  refine reg_seq (I := I3_ w w3 ax) (ps := [IsV (.slice A0 l0.length ac), IsA (.int .u8 (rd l0 0)), IsV (.int .u8 (rd l0 0)), VI (wrap64 (rd l0 0)), VB aj, VB (!aj), VB (!aj), IsV (.slice A0 l0.length ac), IsA (.int .u8 (rd l0 1)), IsV (.int .u8 (rd l0 1)), IsV (.int .u8 (Go.bits .and .u8 (rd l0 1) 15)), VB (!decide ((Go.bits .and .u8 (rd l0 1) 15) = 2)), VB (!decide ((Go.bits .and .u8 (rd l0 1) 15) = 2)), VB (!decide ((Go.bits .and .u8 (rd l0 1) 15) = 2)), VI aa, VB ak, VB (!ak), VB (!ak), VB (!ak)]) (by kernel_rfl) ?_ ?_ rfl hS ⟨ap.1, ap.2.1, (bR ax)⟩ ?_ ?_
  ·exact bs3
  ·exact .v (.cons (Stays.a _) (.v (.v (.v (.v (.v (.v (.cons (Stays.a _) (.v (.v (.v (.v (.v (.v (.v (.v (.v (.v (.nil)))))))))))))))))))
  ·refine .ms 2 rfl rfl rfl ?_
   refine .on rfl (fun a w hS hI hp => does_index (e := 5) (xs := l0) rfl (hp.V 0 rfl rfl) (rfl) (by kernel_rfl) (by kernel_rfl) (by decide) c2 c2 ((Kd.C_below HR0 hI.1))) ?_
   refine .on rfl (fun a w hS hI hp => (hp.V 1 rfl rfl).elim fun _ h_ => does_val (x_load1 (d := .int .u8) rfl h_.1 (by kernel_rfl) rfl h_.2.2) rfl) ?_
   refine .on rfl (fun a w hS hI hp => does_val ((i64_w (rd l0 0)) ▸ x_convI rfl (by kernel_rfl) (by kernel_rfl) (hp.V 2 rfl rfl)) rfl) ?_
   refine .on rfl (fun a w hS hI hp => does_call (by kernel_rfl) (ar1 (hp.V 3 rfl rfl)) ((header_Known.calls k (wrap64 (rd l0 0)) aj _  a1).mono fun _ _ h => ⟨_, h.1, h.2.below, rfl⟩)) ?_
   refine .on rfl (fun a w hS hI hp => does_val (x_not rfl (hp.V 4 rfl rfl)) rfl) ?_
   refine .mv 5 rfl rfl rfl rfl ?_
   refine .oy 6 24 rfl rfl rfl rfl rfl ((congrArg (!·) c3)) (fun a w hS hI hp => does_val (x_move rfl (hS.get 2 rfl)) rfl) ?_
   refine .oy 6 24 rfl rfl rfl rfl rfl ((congrArg (!·) c3)) (fun a w hS hI hp => does_index (e := 5) (xs := l0) rfl (hp.V 7 rfl rfl) (rfl) (by kernel_rfl) (by kernel_rfl) (by decide) c4 c4 ((Kd.C_below HR0 hI.1))) ?_
   refine .oy 6 24 rfl rfl rfl rfl rfl ((congrArg (!·) c3)) (fun a w hS hI hp => (hp.V 8 rfl rfl).elim fun _ h_ => does_val (x_load1 (d := .int .u8) rfl h_.1 (by kernel_rfl) rfl h_.2.2) rfl) ?_
   refine .oy 6 24 rfl rfl rfl rfl rfl ((congrArg (!·) c3)) (fun a w hS hI hp => does_val (x_bin rfl (hp.V 9 rfl rfl) (rfl) (b_and _ _ _ _ _ _)) rfl) ?_
   refine .oy 6 24 rfl rfl rfl rfl rfl ((congrArg (!·) c3)) (fun a w hS hI hp => does_val (x_bin rfl (hp.V 10 rfl rfl) (rfl) (b_neq _ _ _ _ _ _)) rfl) ?_
   refine .on rfl (fun a w hS hI hp => does_val (x_pickF rfl ((hp.V 6 rfl rfl).trans (bF (congrArg (!·) c3))) (hp.V 11 rfl rfl)) rfl) ?_
   refine .mv 12 rfl rfl rfl rfl ?_
   refine .oy 13 31 rfl rfl rfl rfl rfl ((congrArg (!·) (decide_eq_true c5))) (fun a w hS hI hp => does_val (x_move rfl (hS.get 0 rfl)) rfl) ?_
   refine .oy 13 31 rfl rfl rfl rfl rfl ((congrArg (!·) (decide_eq_true c5))) (fun a w hS hI hp => does_call (by kernel_rfl) (ar3 (hp.V 14 rfl rfl) (rfl) (rfl)) ((header_in.calls aa 34 400 ak _  bj).mono fun _ _ h => ⟨_, h.1, h.2.below, rfl⟩)) ?_
   refine .oy 13 31 rfl rfl rfl rfl rfl ((congrArg (!·) (decide_eq_true c5))) (fun a w hS hI hp => does_val (x_not rfl (hp.V 15 rfl rfl)) rfl) ?_
   refine .on rfl (fun a w hS hI hp => does_val (x_pickF rfl ((hp.V 13 rfl rfl).trans (bF (congrArg (!·) (decide_eq_true c5)))) (hp.V 16 rfl rfl)) rfl) ?_
   refine .asg 17 rfl rfl rfl rfl ?_
   exact .nil
  clear hS
  intro bX aR hS aB hp
  have ao : sl _ 17 = .bool (!ak) := hp 18 (by decide)
  have hS := hS.cons ao
  clear hp ao
  refine aA _ _ ?_
  refine wp_cond_false ((hS.get 0 rfl).trans (bF (congrArg (!·) c6))) ?_
  refine wp_seq_k (fun co aS => ?_)
  refine reg_seq (I := I3_ w w3 aR) (ps := [IsV (.slice A0 l0.length ac), VI (l0.length : Int), VI aa, VB (decide ((l0.length : Int) < aa)), VB (decide ((l0.length : Int) < aa))]) (by kernel_rfl) ?_ ?_ rfl hS ⟨aB.1, aB.2.1, (bR aR)⟩ ?_ ?_
  ·exact bs3
  ·exact .v (.v (.v (.v (.v (.nil)))))
  ·refine .ms 3 rfl rfl rfl ?_
   refine .on rfl (fun a w hS hI hp => does_val (x_len (e := 5) rfl (by kernel_rfl) (hp.V 0 rfl rfl)) rfl) ?_
   refine .ms 1 rfl rfl rfl ?_
   refine .on rfl (fun a w hS hI hp => does_val (x_bin rfl (hp.V 1 rfl rfl) (hp.V 2 rfl rfl) (b_lss _ _ _ _ _ _)) rfl) ?_
   refine .asg 3 rfl rfl rfl rfl ?_
   exact .nil
  clear hS
  intro bY aK hS az hp
  replace hS := (((hS.nil).cons (hS.get 3 rfl)).cons (hS.get 2 rfl)).cons (hS.get 1 rfl)
  have aQ : sl _ 37 = .bool (decide ((l0.length : Int) < aa)) := hp 4 (by decide)
  have hS := hS.cons aQ
  clear hp aQ
  refine aS _ _ ?_
  refine wp_cond_false ((hS.get 0 rfl).trans (bF (decide_eq_false c7))) ?_
  refine wp_seq_k (fun cL be => ?_)
  refine reg_seq (I := I3_ w w3 aK) (ps := [IsV (.slice A0 l0.length ac), VI (l0.length : Int), VI aa, VB (decide ((l0.length : Int) > aa)), VB (decide ((l0.length : Int) > aa))]) (by kernel_rfl) ?_ ?_ rfl hS ⟨az.1, az.2.1, (bR aK)⟩ ?_ ?_
  ·exact bs3
  ·exact .v (.v (.v (.v (.v (.nil)))))
  ·refine .ms 3 rfl rfl rfl ?_
   refine .on rfl (fun a w hS hI hp => does_val (x_len (e := 5) rfl (by kernel_rfl) (hp.V 0 rfl rfl)) rfl) ?_
   refine .ms 1 rfl rfl rfl ?_
   refine .on rfl (fun a w hS hI hp => does_val (x_bin rfl (hp.V 1 rfl rfl) (hp.V 2 rfl rfl) (b_gtr _ _ _ _ _ _)) rfl) ?_
   refine .asg 3 rfl rfl rfl rfl ?_
   exact .nil
  clear hS
  intro bk aC hS af hp
  replace hS := (((hS.nil).cons (hS.get 3 rfl)).cons (hS.get 2 rfl)).cons (hS.get 1 rfl)
  have bf : sl _ 43 = .bool (decide ((l0.length : Int) > aa)) := hp 4 (by decide)
  have hS := hS.cons bf
  clear hp bf
  refine be _ _ ?_
  refine wp_cond_true ((hS.get 0 rfl).trans (bT (decide_eq_true c8))) ?_
  refine wp_seq_k (fun dy b6 => ?_)
  refine reg_seq_tail 1 (I := I3_ w w3 aC) (ps := [IsV ((header_Get.v1 0 0 0 0 0 0 0 0 0 0 0 0 0 0 0 0 0 0 0 0 0 0 0))]) (by kernel_rfl) ?_ ?_ rfl hS ⟨af.1, af.2.1, (bR aC)⟩ ?_ ?_
  ·exact bs3
  ·exact .v (.nil)
  ·refine .on rfl (fun a w hS hI hp => does_val (x_build (vs := []) rfl (by rw [Array.toList_map]; exact (show [] = _ from rfl)) (by kernel_rfl)) rfl) ?_
   exact .nil
  clear hS
  intro cq cT hS aD hp
  replace hS := (hS.nil).cons (hS.get 2 rfl)
  have cu : sl _ 48 = (header_Get.v1 0 0 0 0 0 0 0 0 0 0 0 0 0 0 0 0 0 0 0 0 0 0 0) := hp 0 (by decide)
  have hS := hS.cons cu
  clear hp cu
  show wpList _ _ _ [_, _, _] _ _
  refine list_step rfl (does_storeAll (g := g4) (cs := (header_Get.c0 0 0 0 0 0 0 0 0 0 0 0 0 0 0 0 0 0 0 0 0 0 0 0)) rfl (hS.get 1 rfl) (hS.get 0 rfl) ((aD.2.1.block g4 (blk_lt ae)).trans ae) (by kernel_rfl) (by kernel_rfl) (by kernel_rfl)) ?_
  rintro cJ cU ⟨rfl, bM, hT⟩
  have a5 := hT.below aD.1 aq (aD.1).size
  clear hT
  refine list_step rfl (R := fun v w' => Below _ _ w' ∧ (VI 0) v w') (does_val (x_assign rfl (rfl)) rfl) ?_
  rintro cK b9 ⟨hb, he⟩
  have a6 := below_step a5 hb
  have bx := below_step (bR cU) hb
  obtain rfl : cK = .int .i64 0 := he
  refine hS.next (v := .int .i64 0) (d := 3) rfl (by decide) (by rfl) ?_
  clear hS
  intro dQ hS
  refine list_step rfl (R := fun v w' => Below _ _ w' ∧ (VI 3) v w') (does_val (x_assign rfl (rfl)) rfl) ?_
  rintro du ee ⟨hb, he⟩
  have cf := below_step a6 hb
  have bz := below_step bx hb
  have cP := below_step (bR b9) hb
  obtain rfl : du = .int .i64 3 := he
  refine hS.next (v := .int .i64 3) (d := 4) rfl (by decide) (by rfl) ?_
  clear hS
  intro dh hS
  refine wpList_nil ?_
  refine b6 _ _ ?_
  refine wp_ret ?_
  (try simp only [Exit.then, Exit.inBlock, Exit.jump, Exit.noGoto])
  exact bodyPost_ret (v := .tuple #[(header_Get.v1 0 0 0 0 0 0 0 0 0 0 0 0 0 0 0 0 0 0 0 0 0 0 0), .int .i64 0, .int .i64 3]) (results_list (rs := [.cell 2 28, .tmp 3, .tmp 4]) rfl (by simp) (Vals.cell g4 28 (header_Get.c0 0 0 0 0 0 0 0 0 0 0 0 0 0 0 0 0 0 0 0 0 0 0 0) (0, 0) _ (hS.get 3 rfl) ((bz.block g4 (blk_lt bM)).trans bM) Try.underlying28 rfl (by kernel_rfl) (Vals.at (hS.get 1 rfl) (Vals.at (hS.get 0 rfl) .nil)))) hS.nodef ⟨rfl, cf⟩
 rw [if_neg c8] at H
 by_cases c9 : 4 < (l0.length : Int)
 rotate_left
 ·rw [if_neg c9] at H
  exact absurd H (by simp)
 rw [if_pos c9] at H
 obtain ⟨dA, da, H⟩ := Option.bind_eq_some_iff.mp H
 obtain ⟨ag, a8⟩ := dA
 (try dsimp only at H)
 obtain ⟨dB, db, H⟩ := Option.bind_eq_some_iff.mp H
 obtain ⟨ai, a9⟩ := dB
 (try dsimp only at H)
 obtain ⟨dC, dc, H⟩ := Option.bind_eq_some_iff.mp H
 obtain ⟨am, an, ba⟩ := dC
 (try dsimp only at H)
 obtain ⟨dD, dd, H⟩ := Option.bind_eq_some_iff.mp H
 obtain ⟨ar, bb⟩ := dD
 (try dsimp only at H)
 obtain ⟨dE, de, H⟩ := Option.bind_eq_some_iff.mp H
 obtain ⟨au, bc⟩ := dE
 (try dsimp only at H)
 simp only [Option.some.injEq, Prod.mk.injEq] at H
 obtain ⟨rfl, rfl, rfl, rfl, rfl, rfl, rfl, rfl, rfl, rfl, rfl, rfl, rfl, rfl, rfl, rfl, rfl, rfl, rfl, rfl, rfl, rfl, rfl, rfl, rfl⟩ := H
 refine calls_of_wp (fn := Try.f28) (by kernel_rfl) rfl ?_
 have hS := St.enter #[.slice A0 l0.length ac] 90 (by simp) [(0, .slice A0 l0.length ac)] (by simp)
 have aE := Below.refl w.heap.size w
 refine wp_seq_k (fun K1 aG => ?_)
 refine reg_seq (I := I1_ w) (ps := [IsB (header_Get.c0 0 0 0 0 0 0 0 0 0 0 0 0 0 0 0 0 0 0 0 0 0 0 0) 28 w.heap.size, VI 0, VI 0]) (by kernel_rfl) ?_ ?_ rfl hS aE ?_ ?_
 ·exact bs1
 ·exact .cons (Stays.b _ _ _) (.v (.v (.nil)))
 ·refine .on rfl (fun a w hS hI hp => does_var (x_alloc rfl (by kernel_rfl)) (hI).size) ?_
  iterate 2 refine .on rfl (fun a w hS hI hp => does_val (x_assign rfl (rfl)) rfl) ?_
  exact .nil
 clear hS
 intro bh w3 hS aJ hp
 obtain ⟨g4, av, aq, ae⟩ := (show IsB _ 28 _ (sl _ 2) _ from hp 0 (by decide))
 have hS := hS.cons av
 clear hp av
 refine aG _ _ ?_
 refine wp_seq_k (fun K5 aL => ?_)
 refine wp_seq_k (fun K6 aH => ?_)
 refine reg_seq (I := I2_ w w3) (ps := [IsV (.slice A0 l0.length ac), VI (l0.length : Int), VB (decide ((l0.length : Int) < 34))]) (by kernel_rfl) ?_ ?_ rfl hS ⟨aJ, (bR w3)⟩ ?_ ?_
 ·exact bs2
 ·exact .v (.v (.v (.nil)))
 ·refine .ms 1 rfl rfl rfl ?_
  refine .on rfl (fun a w hS hI hp => does_val (x_len (e := 5) rfl (by kernel_rfl) (hp.V 0 rfl rfl)) rfl) ?_
  refine .on rfl (fun a w hS hI hp => does_val (x_bin rfl (hp.V 1 rfl rfl) (rfl) (b_lss _ _ _ _ _ _)) rfl) ?_
  exact .nil
 clear hS
 intro bi w8 hS aw hp
 have ah : sl _ 10 = .bool (decide ((l0.length : Int) < 34)) := hp 2 (by decide)
 have hS := hS.cons ah
 clear hp ah
 refine aH _ _ ?_
 refine wp_cond_false ((hS.get 0 rfl).trans (bF (decide_eq_false c1))) ?_
 refine wp_skip ?_
 refine aL _ _ ?_
 refine wp_seq_k (fun K9 aI => ?_)
 refine reg_seq (I := I3_ w w3 w8) (ps := [IsV (.slice A0 l0.length ac), IsV (.tuple #[.int .i64 aa, .bool ab]), IsV (.tuple #[.int .i64 aa, .bool ab]), VI aa, VB ab, VI aa, VB ab]) (by kernel_rfl) ?_ ?_ rfl hS ⟨aw.1, aw.2, (bR w8)⟩ ?_ ?_
 ·exact bs3
 ·exact .v (.v (.v (.v (.v (.v (.v (.nil)))))))
 ·refine .ms 2 rfl rfl rfl ?_
  refine .on rfl (fun a w hS hI hp => does_call (by kernel_rfl) (ar3 (hp.V 0 rfl rfl) (rfl) (rfl)) ((octets_Get.calls k _ _ l0 2 2 aa ab _ (Kd.C_below HR0 hI.1) HC0 a0).mono fun _ _ h => ⟨_, h.1, h.2.below, rfl⟩)) ?_
  refine .mv 1 rfl rfl rfl rfl ?_
  iterate 2 refine .on rfl (fun a w hS hI hp => does_val (x_extract rfl (hp.V 2 rfl rfl) rfl) rfl) ?_
  refine .asg 3 rfl rfl rfl rfl ?_
  refine .asg 4 rfl rfl rfl rfl ?_
  exact .nil
 clear hS
 intro bd ax hS ap hp
 replace hS := ((hS.nil).cons (hS.get 2 rfl)).cons (hS.get 1 rfl)
 have ay : sl _ 5 = .int .i64 aa := hp 5 (by decide)
 have hS := hS.cons ay
 clear hp ay
 refine aI _ _ ?_
 refine wp_seq_k (fun bn a7 => ?_)
 refine wp_block ?_
 refine wp_seq_k (fun bo aA => ?_)
 refine reg_seq (I := I3_ w w3 ax) (ps := [IsV (.slice A0 l0.length ac), IsA (.int .u8 (rd l0 0)), IsV (.int .u8 (rd l0 0)), VI (wrap64 (rd l0 0)), VB aj, VB (!aj), VB (!aj), IsV (.slice A0 l0.length ac), IsA (.int .u8 (rd l0 1)), IsV (.int .u8 (rd l0 1)), IsV (.int .u8 (Go.bits .and .u8 (rd l0 1) 15)), VB (!decide ((Go.bits .and .u8 (rd l0 1) 15) = 2)), VB (!decide ((Go.bits .and .u8 (rd l0 1) 15) = 2)), VB (!decide ((Go.bits .and .u8 (rd l0 1) 15) = 2)), VI aa, VB ak, VB (!ak), VB (!ak), VB (!ak)]) (by kernel_rfl) ?_ ?_ rfl hS ⟨ap.1, ap.2.1, (bR ax)⟩ ?_ ?_
 ·exact bs3
 ·exact .v (.cons (Stays.a _) (.v (.v (.v (.v (.v (.v (.cons (Stays.a _) (.v (.v (.v (.v (.v (.v (.v (.v (.v (.v (.nil)))))))))))))))))))
 ·refine .ms 2 rfl rfl rfl ?_
  refine .on rfl (fun a w hS hI hp => does_index (e := 5) (xs := l0) rfl (hp.V 0 rfl rfl) (rfl) (by kernel_rfl) (by kernel_rfl) (by decide) c2 c2 ((Kd.C_below HR0 hI.1))) ?_
  refine .on rfl (fun a w hS hI hp => (hp.V 1 rfl rfl).elim fun _ h_ => does_val (x_load1 (d := .int .u8) rfl h_.1 (by kernel_rfl) rfl h_.2.2) rfl) ?_
  refine .on rfl (fun a w hS hI hp => does_val ((i64_w (rd l0 0)) ▸ x_convI rfl (by kernel_rfl) (by kernel_rfl) (hp.V 2 rfl rfl)) rfl) ?_
  refine .on rfl (fun a w hS hI hp => does_call (by kernel_rfl) (ar1 (hp.V 3 rfl rfl)) ((header_Known.calls k (wrap64 (rd l0 0)) aj _  a1).mono fun _ _ h => ⟨_, h.1, h.2.below, rfl⟩)) ?_
  refine .on rfl (fun a w hS hI hp => does_val (x_not rfl (hp.V 4 rfl rfl)) rfl) ?_
  refine .mv 5 rfl rfl rfl rfl ?_
  refine .oy 6 24 rfl rfl rfl rfl rfl ((congrArg (!·) c3)) (fun a w hS hI hp => does_val (x_move rfl (hS.get 2 rfl)) rfl) ?_
  refine .oy 6 24 rfl rfl rfl rfl rfl ((congrArg (!·) c3)) (fun a w hS hI hp => does_index (e := 5) (xs := l0) rfl (hp.V 7 rfl rfl) (rfl) (by kernel_rfl) (by kernel_rfl) (by decide) c4 c4 ((Kd.C_below HR0 hI.1))) ?_
  refine .oy 6 24 rfl rfl rfl rfl rfl ((congrArg (!·) c3)) (fun a w hS hI hp => (hp.V 8 rfl rfl).elim fun _ h_ => does_val (x_load1 (d := .int .u8) rfl h_.1 (by kernel_rfl) rfl h_.2.2) rfl) ?_
  refine .oy 6 24 rfl rfl rfl rfl rfl ((congrArg (!·) c3)) (fun a w hS hI hp => does_val (x_bin rfl (hp.V 9 rfl rfl) (rfl) (b_and _ _ _ _ _ _)) rfl) ?_
  refine .oy 6 24 rfl rfl rfl rfl rfl ((congrArg (!·) c3)) (fun a w hS hI hp => does_val (x_bin rfl (hp.V 10 rfl rfl) (rfl) (b_neq _ _ _ _ _ _)) rfl) ?_
  refine .on rfl (fun a w hS hI hp => does_val (x_pickF rfl ((hp.V 6 rfl rfl).trans (bF (congrArg (!·) c3))) (hp.V 11 rfl rfl)) rfl) ?_
  refine .mv 12 rfl rfl rfl rfl ?_
  refine .oy 13 31 rfl rfl rfl rfl rfl ((congrArg (!·) (decide_eq_true c5))) (fun a w hS hI hp => does_val (x_move rfl (hS.get 0 rfl)) rfl) ?_
  refine .oy 13 31 rfl rfl rfl rfl rfl ((congrArg (!·) (decide_eq_true c5))) (fun a w hS hI hp => does_call (by kernel_rfl) (ar3 (hp.V 14 rfl rfl) (rfl) (rfl)) ((header_in.calls aa 34 400 ak _  bj).mono fun _ _ h => ⟨_, h.1, h.2.below, rfl⟩)) ?_
  refine .oy 13 31 rfl rfl rfl rfl rfl ((congrArg (!·) (decide_eq_true c5))) (fun a w hS hI hp => does_val (x_not rfl (hp.V 15 rfl rfl)) rfl) ?_
  refine .on rfl (fun a w hS hI hp => does_val (x_pickF rfl ((hp.V 13 rfl rfl).trans (bF (congrArg (!·) (decide_eq_true c5)))) (hp.V 16 rfl rfl)) rfl) ?_
  refine .asg 17 rfl rfl rfl rfl ?_
  exact .nil
 clear hS
 intro bX aR hS aB hp
 have ao : sl _ 17 = .bool (!ak) := hp 18 (by decide)
 have hS := hS.cons ao
 clear hp ao
 refine aA _ _ ?_
 refine wp_cond_false ((hS.get 0 rfl).trans (bF (congrArg (!·) c6))) ?_
 refine wp_seq_k (fun co aS => ?_)
 refine reg_seq (I := I3_ w w3 aR) (ps := [IsV (.slice A0 l0.length ac), VI (l0.length : Int), VI aa, VB (decide ((l0.length : Int) < aa)), VB (decide ((l0.length : Int) < aa))]) (by kernel_rfl) ?_ ?_ rfl hS ⟨aB.1, aB.2.1, (bR aR)⟩ ?_ ?_
 ·exact bs3
 ·exact .v (.v (.v (.v (.v (.nil)))))
 ·refine .ms 3 rfl rfl rfl ?_
  refine .on rfl (fun a w hS hI hp => does_val (x_len (e := 5) rfl (by kernel_rfl) (hp.V 0 rfl rfl)) rfl) ?_
  refine .ms 1 rfl rfl rfl ?_
  refine .on rfl (fun a w hS hI hp => does_val (x_bin rfl (hp.V 1 rfl rfl) (hp.V 2 rfl rfl) (b_lss _ _ _ _ _ _)) rfl) ?_
  refine .asg 3 rfl rfl rfl rfl ?_
  exact .nil
 clear hS
 intro bY aK hS az hp
 replace hS := (((hS.nil).cons (hS.get 3 rfl)).cons (hS.get 2 rfl)).cons (hS.get 1 rfl)
 have aQ : sl _ 37 = .bool (decide ((l0.length : Int) < aa)) := hp 4 (by decide)
 have hS := hS.cons aQ
 clear hp aQ
 refine aS _ _ ?_
 refine wp_cond_false ((hS.get 0 rfl).trans (bF (decide_eq_false c7))) ?_
 refine wp_seq_k (fun cL be => ?_)
 refine reg_seq (I := I3_ w w3 aK) (ps := [IsV (.slice A0 l0.length ac), VI (l0.length : Int), VI aa, VB (decide ((l0.length : Int) > aa)), VB (decide ((l0.length : Int) > aa))]) (by kernel_rfl) ?_ ?_ rfl hS ⟨az.1, az.2.1, (bR aK)⟩ ?_ ?_
 ·exact bs3
 ·exact .v (.v (.v (.v (.v (.nil)))))
 ·refine .ms 3 rfl rfl rfl ?_
  refine .on rfl (fun a w hS hI hp => does_val (x_len (e := 5) rfl (by kernel_rfl) (hp.V 0 rfl rfl)) rfl) ?_
  refine .ms 1 rfl rfl rfl ?_
  refine .on rfl (fun a w hS hI hp => does_val (x_bin rfl (hp.V 1 rfl rfl) (hp.V 2 rfl rfl) (b_gtr _ _ _ _ _ _)) rfl) ?_
  refine .asg 3 rfl rfl rfl rfl ?_
  exact .nil
 clear hS
 intro bk aC hS af hp
 replace hS := (((hS.nil).cons (hS.get 3 rfl)).cons (hS.get 2 rfl)).cons (hS.get 1 rfl)
 have bf : sl _ 43 = .bool (decide ((l0.length : Int) > aa)) := hp 4 (by decide)
 have hS := hS.cons bf
 clear hp bf
 refine be _ _ ?_
 refine wp_cond_false ((hS.get 0 rfl).trans (bF (decide_eq_false c8))) ?_
 refine wp_skip ?_
 refine a7 _ _ ?_
 refine wp_seq_k (fun dy b6 => ?_)
 refine reg_any_tail 10 [0, 1, 3, 7, 0, 16, 48, 112, 255, 0, 1023] (I := I3_ w w3 aC) (ps := [IsV (.slice A0 l0.length ac), IsA (.int .u8 (rd l0 0)), IsV (.int .u8 (rd l0 0)), VI (wrap64 (rd l0 0)), IsV (.slice A0 l0.length ac), IsA (.int .u8 (rd l0 4)), IsV (.int .u8 (rd l0 4)), VI (wrap64 (rd l0 4)), IsV ((header_Get.v1 (wrap64 (rd l0 0)) (wrap64 (rd l0 4)) 0 0 0 0 0 0 0 0 0 0 0 0 0 0 0 0 0 0 0 0 0)), IsB (header_Get.c0 0 0 0 0 0 0 0 0 0 0 0 0 0 0 0 0 0 0 0 0 0 0 0) 28 aC.heap.size]) (by kernel_rfl) (by kernel_rfl) (by kernel_rfl) (by decide) ?_ ?_ rfl hS ⟨af.1, af.2.1, (bR aC)⟩ ?_ ?_
 ·exact bs3
 ·exact .v (.cons (Stays.a _) (.v (.v (.v (.cons (Stays.a _) (.v (.v (.v (.cons (Stays.b _ _ _) (.nil))))))))))
 ·refine .ms 3 rfl rfl rfl ?_
  refine .on rfl (fun a w hS hI hp => does_index (e := 5) (xs := l0) rfl (hp.V 0 rfl rfl) (rfl) (by kernel_rfl) (by kernel_rfl) (by decide) c2 c2 ((Kd.C_below HR0 hI.1))) ?_
  refine .on rfl (fun a w hS hI hp => (hp.V 1 rfl rfl).elim fun _ h_ => does_val (x_load1 (d := .int .u8) rfl h_.1 (by kernel_rfl) rfl h_.2.2) rfl) ?_
  refine .on rfl (fun a w hS hI hp => does_val ((i64_w (rd l0 0)) ▸ x_convI rfl (by kernel_rfl) (by kernel_rfl) (hp.V 2 rfl rfl)) rfl) ?_
  refine .ms 3 rfl rfl rfl ?_
  refine .on rfl (fun a w hS hI hp => does_index (e := 5) (xs := l0) rfl (hp.V 4 rfl rfl) (rfl) (by kernel_rfl) (by kernel_rfl) (by decide) c9 c9 ((Kd.C_below HR0 hI.1))) ?_
  refine .on rfl (fun a w hS hI hp => (hp.V 5 rfl rfl).elim fun _ h_ => does_val (x_load1 (d := .int .u8) rfl h_.1 (by kernel_rfl) rfl h_.2.2) rfl) ?_
  refine .on rfl (fun a w hS hI hp => does_val ((i64_w (rd l0 4)) ▸ x_convI rfl (by kernel_rfl) (by kernel_rfl) (hp.V 6 rfl rfl)) rfl) ?_
  refine .on rfl (fun a w hS hI hp => does_val (x_build (vs := [(0, .int .i64 (wrap64 (rd l0 0))), (1, .int .i64 (wrap64 (rd l0 4)))]) rfl (by rw [Array.toList_map]; exact (show [(0, a.eval (.tmp 52)), (1, a.eval (.tmp 56))] = _ from (li_cons (hp.V 3 rfl rfl) (li_cons (hp.V 7 rfl rfl) rfl)))) (by kernel_rfl)) rfl) ?_
  refine .on rfl (fun a w hS hI hp => does_var (x_alloc rfl (by kernel_rfl)) (hI.2.2).size) ?_
  exact .nil
 clear hS
 intro cq cT hS aD hp
 replace hS := (((hS.nil).cons (hS.get 3 rfl)).cons (hS.get 2 rfl)).cons (hS.get 1 rfl)
 have cv : sl _ 57 = (header_Get.v1 (wrap64 (rd l0 0)) (wrap64 (rd l0 4)) 0 0 0 0 0 0 0 0 0 0 0 0 0 0 0 0 0 0 0 0 0) := hp 8 (by decide)
 obtain ⟨al, cR, ad, bI⟩ := (show IsB _ 28 _ (sl _ 7) _ from hp 9 (by decide))
 have hS := hS.cons cv
 have hS := hS.cons cR
 clear hp cv cR
 show wpList _ _ _ [_] _ _
 refine list_step rfl (does_storeAll (g := al) (cs := (header_Get.c0 (wrap64 (rd l0 0)) (wrap64 (rd l0 4)) 0 0 0 0 0 0 0 0 0 0 0 0 0 0 0 0 0 0 0 0 0)) rfl (hS.get 0 rfl) (hS.get 1 rfl) (((bR cT).block al (blk_lt bI)).trans bI) (by kernel_rfl) (by kernel_rfl) (by kernel_rfl)) ?_
 rintro cK b9 ⟨rfl, bN, hT⟩
 have a6 := hT.below aD.1 (Nat.le_trans (af.1).size ad) (aD.1).size
 have bZ := hT.below aD.2.1 (Nat.le_trans (af.2.1).size ad) (aD.2.1).size
 have bw := hT.below aD.2.2 ad (aD.2.2).size
 clear hT
 refine wpList_nil ?_
 refine b6 _ _ ?_
 refine wp_seq_k (fun d6 di => ?_)
 refine reg_seq_tail 6 (I := I4_ w w3 aC b9) (ps := [IsV (.slice A0 l0.length ac), IsV (.tuple #[.int .i64 ag, .bool a8]), IsV (.tuple #[.int .i64 ag, .bool a8]), VI ag, VB a8, VP al 2]) (by kernel_rfl) ?_ ?_ rfl hS ⟨a6, bZ, bw, (bR b9)⟩ ?_ ?_
 ·exact bs4
 ·exact .v (.v (.v (.v (.v (.v (.nil))))))
 ·refine .ms 4 rfl rfl rfl ?_
  refine .on rfl (fun a w hS hI hp => does_call (by kernel_rfl) (ar3 (hp.V 0 rfl rfl) (rfl) (rfl)) ((octets_Get.calls k _ _ l0 6 2 ag a8 _ (Kd.C_below HR0 hI.1) HC0 da).mono fun _ _ h => ⟨_, h.1, h.2.below, rfl⟩)) ?_
  refine .mv 1 rfl rfl rfl rfl ?_
  iterate 2 refine .on rfl (fun a w hS hI hp => does_val (x_extract rfl (hp.V 2 rfl rfl) rfl) rfl) ?_
  refine .on rfl (fun a w hS hI hp => does_val (x_fieldE (b := 0) rfl (hS.get 0 rfl) Try.underlying28 rfl rfl (by kernel_rfl)) rfl) ?_
  exact .nil
 clear hS
 intro dh ef hS aU hp
 replace hS := ((((hS.nil).cons (hS.get 4 rfl)).cons (hS.get 3 rfl)).cons (hS.get 2 rfl)).cons (hS.get 0 rfl)
 have cw : sl _ 61 = .int .i64 ag := hp 3 (by decide)
 have cx : sl _ 63 = .pointer (some ⟨al, 2, none⟩) := hp 5 (by decide)
 have hS := hS.cons cw
 have hS := hS.cons cx
 clear hp cw cx
 show wpList _ _ _ [_] _ _
 refine list_step rfl (does_store (g := al) (off := 2) (v := .int .i64 ag) (new := (header_Get.c0 (wrap64 (rd l0 0)) (wrap64 (rd l0 4)) ag 0 0 0 0 0 0 0 0 0 0 0 0 0 0 0 0 0 0 0 0)) rfl (hS.get 0 rfl) (hS.get 1 rfl) ((aU.2.2.2.block al (blk_lt bN)).trans bN) (by kernel_rfl) (by kernel_rfl) (by kernel_rfl) (by kernel_rfl)) ?_
 rintro d0 cV ⟨rfl, bO, hT⟩
 have cg := hT.below aU.1 (Nat.le_trans (af.1).size ad) (aU.1).size
 have b0 := hT.below aU.2.1 (Nat.le_trans (af.2.1).size ad) (aU.2.1).size
 have bA := hT.below aU.2.2.1 ad (aU.2.2.1).size
 clear hT
 refine wpList_nil ?_
 refine di _ _ ?_
 refine wp_seq_k (fun d7 dj => ?_)
 refine reg_seq_tail 6 (I := I4_ w w3 aC cV) (ps := [IsV (.slice A0 l0.length ac), IsV (.tuple #[.int .i64 ai, .bool a9]), IsV (.tuple #[.int .i64 ai, .bool a9]), VI ai, VB a9, VP al 3]) (by kernel_rfl) ?_ ?_ rfl hS ⟨cg, b0, bA, (bR cV)⟩ ?_ ?_
 ·exact bs4
 ·exact .v (.v (.v (.v (.v (.v (.nil))))))
 ·refine .ms 5 rfl rfl rfl ?_
  refine .on rfl (fun a w hS hI hp => does_call (by kernel_rfl) (ar3 (hp.V 0 rfl rfl) (rfl) (rfl)) ((octets_Signed.calls k _ _ l0 8 8 ai a9 _ (Kd.C_below HR0 hI.1) HC0 db).mono fun _ _ h => ⟨_, h.1, h.2.below, rfl⟩)) ?_
  refine .mv 1 rfl rfl rfl rfl ?_
  iterate 2 refine .on rfl (fun a w hS hI hp => does_val (x_extract rfl (hp.V 2 rfl rfl) rfl) rfl) ?_
  refine .on rfl (fun a w hS hI hp => does_val (x_fieldE (b := 0) rfl (hS.get 2 rfl) Try.underlying28 rfl rfl (by kernel_rfl)) rfl) ?_
  exact .nil
 clear hS
 intro dR eg hS aV hp
 replace hS := ((((hS.nil).cons (hS.get 5 rfl)).cons (hS.get 4 rfl)).cons (hS.get 3 rfl)).cons (hS.get 2 rfl)
 have cy : sl _ 67 = .int .i64 ai := hp 3 (by decide)
 have cz : sl _ 69 = .pointer (some ⟨al, 3, none⟩) := hp 5 (by decide)
 have hS := hS.cons cy
 have hS := hS.cons cz
 clear hp cy cz
 show wpList _ _ _ [_] _ _
 refine list_step rfl (does_store (g := al) (off := 3) (v := .int .i64 ai) (new := (header_Get.c0 (wrap64 (rd l0 0)) (wrap64 (rd l0 4)) ag ai 0 0 0 0 0 0 0 0 0 0 0 0 0 0 0 0 0 0 0)) rfl (hS.get 0 rfl) (hS.get 1 rfl) ((aV.2.2.2.block al (blk_lt bO)).trans bO) (by kernel_rfl) (by kernel_rfl) (by kernel_rfl) (by kernel_rfl)) ?_
 rintro d1 cW ⟨rfl, bP, hT⟩
 have ch := hT.below aV.1 (Nat.le_trans (af.1).size ad) (aV.1).size
 have b1 := hT.below aV.2.1 (Nat.le_trans (af.2.1).size ad) (aV.2.1).size
 have bB := hT.below aV.2.2.1 ad (aV.2.2.1).size
 clear hT
 refine wpList_nil ?_
 refine dj _ _ ?_
 refine wp_seq_k (fun d8 dk => ?_)
 refine reg_seq_tail 6 (I := I4_ w w3 aC cW) (ps := [IsV (.slice A0 l0.length ac), IsV (.tuple #[.agg #[.int .u64 am, .int .i64 an], .bool ba]), IsV (.tuple #[.agg #[.int .u64 am, .int .i64 an], .bool ba]), IsV (.agg #[.int .u64 am, .int .i64 an]), VB ba, VP al 4]) (by kernel_rfl) ?_ ?_ rfl hS ⟨ch, b1, bB, (bR cW)⟩ ?_ ?_
 ·exact bs4
 ·exact .v (.v (.v (.v (.v (.v (.nil))))))
 ·refine .ms 5 rfl rfl rfl ?_
  refine .on rfl (fun a w hS hI hp => does_call (by kernel_rfl) (ar2 (hp.V 0 rfl rfl) (rfl)) ((ident_Get.calls k _ _ l0 20 am an ba _ (Kd.C_below HR0 hI.1) HC0 dc).mono fun _ _ h => ⟨_, h.1, h.2, rfl⟩)) ?_
  refine .mv 1 rfl rfl rfl rfl ?_
  iterate 2 refine .on rfl (fun a w hS hI hp => does_val (x_extract rfl (hp.V 2 rfl rfl) rfl) rfl) ?_
  refine .on rfl (fun a w hS hI hp => does_val (x_fieldE (b := 0) rfl (hS.get 2 rfl) Try.underlying28 rfl rfl (by kernel_rfl)) rfl) ?_
  exact .nil
 clear hS
 intro dS eh hS aW hp
 replace hS := ((((hS.nil).cons (hS.get 5 rfl)).cons (hS.get 4 rfl)).cons (hS.get 3 rfl)).cons (hS.get 2 rfl)
 have cA : sl _ 73 = .agg #[.int .u64 am, .int .i64 an] := hp 3 (by decide)
 have cB : sl _ 75 = .pointer (some ⟨al, 4, none⟩) := hp 5 (by decide)
 have hS := hS.cons cA
 have hS := hS.cons cB
 clear hp cA cB
 show wpList _ _ _ [_] _ _
 refine list_step rfl (does_store (g := al) (off := 4) (v := .agg #[.int .u64 am, .int .i64 an]) (new := (header_Get.c0 (wrap64 (rd l0 0)) (wrap64 (rd l0 4)) ag ai am an 0 0 0 0 0 0 0 0 0 0 0 0 0 0 0 0 0)) rfl (hS.get 0 rfl) (hS.get 1 rfl) ((aW.2.2.2.block al (blk_lt bP)).trans bP) (by kernel_rfl) (by kernel_rfl) (by kernel_rfl) (by kernel_rfl)) ?_
 rintro d2 cX ⟨rfl, bQ, hT⟩
 have ci := hT.below aW.1 (Nat.le_trans (af.1).size ad) (aW.1).size
 have b2 := hT.below aW.2.1 (Nat.le_trans (af.2.1).size ad) (aW.2.1).size
 have bC := hT.below aW.2.2.1 ad (aW.2.2.1).size
 clear hT
 refine wpList_nil ?_
 refine dk _ _ ?_
 refine wp_seq_k (fun d9 dl => ?_)
 refine reg_seq_tail 6 (I := I4_ w w3 aC cX) (ps := [IsV (.slice A0 l0.length ac), IsV (.tuple #[.int .i64 ar, .bool bb]), IsV (.tuple #[.int .i64 ar, .bool bb]), VI ar, VB bb, VP al 6]) (by kernel_rfl) ?_ ?_ rfl hS ⟨ci, b2, bC, (bR cX)⟩ ?_ ?_
 ·exact bs4
 ·exact .v (.v (.v (.v (.v (.v (.nil))))))
 ·refine .ms 5 rfl rfl rfl ?_
  refine .on rfl (fun a w hS hI hp => does_call (by kernel_rfl) (ar3 (hp.V 0 rfl rfl) (rfl) (rfl)) ((octets_Get.calls k _ _ l0 30 2 ar bb _ (Kd.C_below HR0 hI.1) HC0 dd).mono fun _ _ h => ⟨_, h.1, h.2.below, rfl⟩)) ?_
  refine .mv 1 rfl rfl rfl rfl ?_
  iterate 2 refine .on rfl (fun a w hS hI hp => does_val (x_extract rfl (hp.V 2 rfl rfl) rfl) rfl) ?_
  refine .on rfl (fun a w hS hI hp => does_val (x_fieldE (b := 0) rfl (hS.get 2 rfl) Try.underlying28 rfl rfl (by kernel_rfl)) rfl) ?_
  exact .nil
 clear hS
 intro dT ei hS aX hp
 replace hS := ((((hS.nil).cons (hS.get 5 rfl)).cons (hS.get 4 rfl)).cons (hS.get 3 rfl)).cons (hS.get 2 rfl)
 have cC : sl _ 79 = .int .i64 ar := hp 3 (by decide)
 have cD : sl _ 81 = .pointer (some ⟨al, 6, none⟩) := hp 5 (by decide)
 have hS := hS.cons cC
 have hS := hS.cons cD
 clear hp cC cD
 show wpList _ _ _ [_] _ _
 refine list_step rfl (does_store (g := al) (off := 6) (v := .int .i64 ar) (new := (header_Get.c0 (wrap64 (rd l0 0)) (wrap64 (rd l0 4)) ag ai am an ar 0 0 0 0 0 0 0 0 0 0 0 0 0 0 0 0)) rfl (hS.get 0 rfl) (hS.get 1 rfl) ((aX.2.2.2.block al (blk_lt bQ)).trans bQ) (by kernel_rfl) (by kernel_rfl) (by kernel_rfl) (by kernel_rfl)) ?_
 rintro d3 cY ⟨rfl, bS, hT⟩
 have cj := hT.below aX.1 (Nat.le_trans (af.1).size ad) (aX.1).size
 have b3 := hT.below aX.2.1 (Nat.le_trans (af.2.1).size ad) (aX.2.1).size
 have bD := hT.below aX.2.2.1 ad (aX.2.2.1).size
 clear hT
 refine wpList_nil ?_
 refine dl _ _ ?_
 refine wp_seq_k (fun ea dm => ?_)
 refine reg_seq_tail 6 (I := I4_ w w3 aC cY) (ps := [IsV (.slice A0 l0.length ac), IsV (.tuple #[.int .i64 au, .bool bc]), IsV (.tuple #[.int .i64 au, .bool bc]), VI au, VB bc, VP al 7]) (by kernel_rfl) ?_ ?_ rfl hS ⟨cj, b3, bD, (bR cY)⟩ ?_ ?_
 ·exact bs4
 ·exact .v (.v (.v (.v (.v (.v (.nil))))))
 ·refine .ms 5 rfl rfl rfl ?_
  refine .on rfl (fun a w hS hI hp => does_call (by kernel_rfl) (ar3 (hp.V 0 rfl rfl) (rfl) (rfl)) ((octets_Signed.calls k _ _ l0 33 1 au bc _ (Kd.C_below HR0 hI.1) HC0 de).mono fun _ _ h => ⟨_, h.1, h.2.below, rfl⟩)) ?_
  refine .mv 1 rfl rfl rfl rfl ?_
  iterate 2 refine .on rfl (fun a w hS hI hp => does_val (x_extract rfl (hp.V 2 rfl rfl) rfl) rfl) ?_
  refine .on rfl (fun a w hS hI hp => does_val (x_fieldE (b := 0) rfl (hS.get 2 rfl) Try.underlying28 rfl rfl (by kernel_rfl)) rfl) ?_
  exact .nil
 clear hS
 intro dU ej hS aY hp
 replace hS := (((hS.nil).cons (hS.get 4 rfl)).cons (hS.get 3 rfl)).cons (hS.get 2 rfl)
 have cE : sl _ 85 = .int .i64 au := hp 3 (by decide)
 have cF : sl _ 87 = .pointer (some ⟨al, 7, none⟩) := hp 5 (by decide)
 have hS := hS.cons cE
 have hS := hS.cons cF
 clear hp cE cF
 show wpList _ _ _ [_] _ _
 refine list_step rfl (does_store (g := al) (off := 7) (v := .int .i64 au) (new := (header_Get.c0 (wrap64 (rd l0 0)) (wrap64 (rd l0 4)) ag ai am an ar au 0 0 0 0 0 0 0 0 0 0 0 0 0 0 0)) rfl (hS.get 0 rfl) (hS.get 1 rfl) ((aY.2.2.2.block al (blk_lt bS)).trans bS) (by kernel_rfl) (by kernel_rfl) (by kernel_rfl) (by kernel_rfl)) ?_
 rintro d4 cZ ⟨rfl, aZ, hT⟩
 have ck := hT.below aY.1 (Nat.le_trans (af.1).size ad) (aY.1).size
 have b4 := hT.below aY.2.1 (Nat.le_trans (af.2.1).size ad) (aY.2.1).size
 have bE := hT.below aY.2.2.1 ad (aY.2.2.1).size
 clear hT
 refine wpList_nil ?_
 refine dm _ _ ?_
 refine wp_seq_k (fun eb dn => ?_)
 refine reg_seq_tail 2 (I := I4_ w w3 aC cZ) (ps := [IsV ((header_Get.v1 (wrap64 (rd l0 0)) (wrap64 (rd l0 4)) ag ai am an ar au 0 0 0 0 0 0 0 0 0 0 0 0 0 0 0)), VI aa]) (by kernel_rfl) ?_ ?_ rfl hS ⟨ck, b4, bE, (bR cZ)⟩ ?_ ?_
 ·exact bs4
 ·exact .v (.v (.nil))
 ·refine .on rfl (fun a w hS hI hp => does_loadrow rfl (hS.get 2 rfl) (((hI.2.2.2).block al (blk_lt aZ)).trans aZ) Try.underlying28 rfl (by kernel_rfl) rfl) ?_
  refine .ms 3 rfl rfl rfl ?_
  exact .nil
 clear hS
 intro dV ek hS bl hp
 replace hS := (hS.nil).cons (hS.get 4 rfl)
 have cG : sl _ 88 = (header_Get.v1 (wrap64 (rd l0 0)) (wrap64 (rd l0 4)) ag ai am an ar au 0 0 0 0 0 0 0 0 0 0 0 0 0 0 0) := hp 0 (by decide)
 have cH : sl _ 89 = .int .i64 aa := hp 1 (by decide)
 have hS := hS.cons cG
 have hS := hS.cons cH
 clear hp cG cH
 show wpList _ _ _ [_, _, _] _ _
 refine list_step rfl (does_storeAll (g := g4) (cs := (header_Get.c0 (wrap64 (rd l0 0)) (wrap64 (rd l0 4)) ag ai am an ar au 0 0 0 0 0 0 0 0 0 0 0 0 0 0 0)) rfl (hS.get 2 rfl) (hS.get 1 rfl) ((bl.2.1.block g4 (blk_lt ae)).trans ae) (by kernel_rfl) (by kernel_rfl) (by kernel_rfl)) ?_
 rintro d5 dJ ⟨rfl, bU, hT⟩
 have dY := hT.blk ((bl.2.2.2.block al (blk_lt aZ)).trans aZ) (Nat.ne_of_gt (Nat.lt_of_lt_of_le (Nat.lt_of_lt_of_le (blk_lt ae) (af.2.1).size) ad))
 have cl := hT.below bl.1 aq (bl.1).size
 clear hT
 refine list_step rfl (R := fun v w' => Below _ _ w' ∧ (VI aa) v w') (does_val (x_assign rfl (hS.get 0 rfl)) rfl) ?_
 rintro dv dK ⟨hb, he⟩
 have cm := below_step cl hb
 have bG := below_step (bR dJ) hb
 obtain rfl : dv = .int .i64 aa := he
 refine hS.next (v := .int .i64 aa) (d := 3) rfl (by decide) (by rfl) ?_
 clear hS
 intro dW hS
 refine list_step rfl (R := fun v w' => Below _ _ w' ∧ (VI 0) v w') (does_val (x_assign rfl (rfl)) rfl) ?_
 rintro dw el ⟨hb, he⟩
 have cn := below_step cm hb
 have bH := below_step bG hb
 have cQ := below_step (bR dK) hb
 obtain rfl : dw = .int .i64 0 := he
 refine hS.next (v := .int .i64 0) (d := 4) rfl (by decide) (by rfl) ?_
 clear hS
 intro dX hS
 refine wpList_nil ?_
 refine dn _ _ ?_
 refine wp_ret ?_
 (try simp only [Exit.then, Exit.inBlock, Exit.jump, Exit.noGoto])
 exact bodyPost_ret (v := .tuple #[(header_Get.v1 (wrap64 (rd l0 0)) (wrap64 (rd l0 4)) ag ai am an ar au 0 0 0 0 0 0 0 0 0 0 0 0 0 0 0), .int .i64 aa, .int .i64 0]) (results_list (rs := [.cell 2 28, .tmp 3, .tmp 4]) rfl (by simp) (Vals.cell g4 28 (header_Get.c0 (wrap64 (rd l0 0)) (wrap64 (rd l0 4)) ag ai am an ar au 0 0 0 0 0 0 0 0 0 0 0 0 0 0 0) (0, 0) _ (hS.get 4 rfl) ((bH.block g4 (blk_lt bU)).trans bU) Try.underlying28 rfl (by kernel_rfl) (Vals.at (hS.get 1 rfl) (Vals.at (hS.get 0 rfl) .nil)))) hS.nodef ⟨rfl, cn⟩
/-! ### body_Len: function 63 -/
mutual
def body_Len.j0 : Nat → Int → Bool → Option (Int)
  | 0, _, _ => none
  | k + 1, x3, x4 => if x4 = true then (some 10) else (if x3 = 2 then (body_Len.j1 k x3 (x3 == 2)) else (if x3 = 3 then (body_Len.j1 k x3 (x3 == 3)) else (if x3 = 10 then (body_Len.j1 k x3 (x3 == 10)) else (body_Len.j1 k x3 (x3 == 9)))))
def body_Len.j1 : Nat → Int → Bool → Option (Int)
  | 0, _, _ => none
  | k + 1, x3, x9 => if x9 = true then (some 20) else (if x3 = 11 then (some 30) else (if x3 = 13 then (some 14) else (some 0)))
end
def body_Len.f (k : Nat) (a0 : Int) : Option (Int) := if a0 = 0 then (body_Len.j0 k a0 (a0 == 0)) else (if a0 = 1 then (body_Len.j0 k a0 (a0 == 1)) else (if a0 = 8 then (body_Len.j0 k a0 (a0 == 8)) else (body_Len.j0 k a0 (a0 == 12))))
set_option maxHeartbeats 8000000 in
set_option maxRecDepth 100000 in
theorem body_Len.calls (k : Nat) (a0 : Int) (r : Int) (w : World) (h : body_Len.f k a0 = some r) :
    Calls Try.prog 63 #[.int .i64 a0] w fun e w' => e = .returned (.int .i64 r) ∧ Drawn0 w w' := by
  have H : (if a0 = 0 then (body_Len.j0 k a0 (a0 == 0)) else (if a0 = 1 then (body_Len.j0 k a0 (a0 == 1)) else (if a0 = 8 then (body_Len.j0 k a0 (a0 == 8)) else (body_Len.j0 k a0 (a0 == 12))))) = some r := h
  clear h
  have HC2 := Aside0.mk H
  clear H
  go_enter Try.func63, Try.ntmps63
  go_upto_if 4 with (fail)
  go_cut [4] (fun v4 wc => ∃ (kq : Nat) (x4_1 : Bool), v4 = .bool x4_1 ∧ Aside0 (body_Len.j0 kq a0 x4_1 = some r) ∧ Aside0 (kq ≤ k) ∧ Drawn0 w wc)
  case first =>
    have H := HC2.out
    clear HC2
    by_cases c3 : a0 = 0
    · rw [if_pos c3] at H
      have c3b0 : (a0 == 0) = true := beq_iff_eq.mpr c3
      have c3b1 : (a0 != 0) = false := bne_eq_false_iff_eq.mpr c3
      clear c3
      (first | rw [c3b0] | (simp only [i64_w, i32_w]; rw [c3b0]) | skip)
      have H' := Aside0.mk H
      clear H
      go_wp2
      go_meet
      case rel => exact ⟨_, ((a0 == 0)), (by first | rfl | (simp; done) | (simp [*]; done)), H', ⟨by first | omega | exact Nat.le_refl _⟩, by repeat (first | exact Drawn0.refl _ | apply Drawn0.step)⟩
    · rw [if_neg c3] at H
      have c3b0 : (a0 == 0) = false := beq_eq_false_iff_ne.mpr c3
      have c3b1 : (a0 != 0) = true := bne_iff_ne.mpr c3
      (first | rw [c3b0] | (simp only [i64_w, i32_w]; rw [c3b0]) | skip)
      by_cases c4 : a0 = 1
      · rw [if_pos c4] at H
        have c4b0 : (a0 == 1) = true := beq_iff_eq.mpr c4
        have c4b1 : (a0 != 1) = false := bne_eq_false_iff_eq.mpr c4
        clear c4
        have H' := Aside0.mk H
        clear H
        go_wp2
        go_meet
        case rel => exact ⟨_, ((a0 == 1)), (by first | rfl | (simp; done) | (simp [*]; done)), H', ⟨by first | omega | exact Nat.le_refl _⟩, by repeat (first | exact Drawn0.refl _ | apply Drawn0.step)⟩
      · rw [if_neg c4] at H
        have c4b0 : (a0 == 1) = false := beq_eq_false_iff_ne.mpr c4
        have c4b1 : (a0 != 1) = true := bne_iff_ne.mpr c4
        by_cases c5 : a0 = 8
        · rw [if_pos c5] at H
          have c5b0 : (a0 == 8) = true := beq_iff_eq.mpr c5
          have c5b1 : (a0 != 8) = false := bne_eq_false_iff_eq.mpr c5
          clear c5
          have H' := Aside0.mk H
          clear H
          go_wp2
          go_meet
          case rel => exact ⟨_, ((a0 == 8)), (by first | rfl | (simp; done) | (simp [*]; done)), H', ⟨by first | omega | exact Nat.le_refl _⟩, by repeat (first | exact Drawn0.refl _ | apply Drawn0.step)⟩
        · rw [if_neg c5] at H
          have c5b0 : (a0 == 8) = false := beq_eq_false_iff_ne.mpr c5
          have c5b1 : (a0 != 8) = true := bne_iff_ne.mpr c5
          have H' := Aside0.mk H
          clear H
          go_wp2
          go_meet
          case rel => exact ⟨_, ((a0 == 12)), (by first | rfl | (simp; done) | (simp [*]; done)), H', ⟨by first | omega | exact Nat.le_refl _⟩, by repeat (first | exact Drawn0.refl _ | apply Drawn0.step)⟩
  case rest =>
    clear HC2
    try clear p2
    try clear c3
    try clear c3b0
    try clear c3b1
    try clear c4
    try clear c4b0
    try clear c4b1
    try clear c5
    try clear c5b0
    try clear c5b1
    obtain ⟨kq, x4_1, rfl, HA, HJ1, ⟨mc1, rfl⟩⟩ := hcut
    cases kq with
    | zero => exact absurd HA.out (by simp [body_Len.j0])
    | succ kj1 =>
      have H := HA.out
      clear HA
      simp only [body_Len.j0] at H
      by_cases c6 : x4_1 = true
      · subst c6
        have H1 : (some 10) = some r := by rw [if_pos rfl] at H; exact H
        clear H
        have H := H1
        clear H1
        obtain rfl := Option.some.inj H
        go_wp2
        all_goals
          go_ret
          exact ⟨by first | rfl | (simp; done) | (simp [*]; done), by repeat (first | exact Drawn0.refl _ | apply Drawn0.step)⟩
      · replace c6 := Bool.eq_false_iff.mpr c6
        subst c6
        have H1 : (if a0 = 2 then (body_Len.j1 kj1 a0 (a0 == 2)) else (if a0 = 3 then (body_Len.j1 kj1 a0 (a0 == 3)) else (if a0 = 10 then (body_Len.j1 kj1 a0 (a0 == 10)) else (body_Len.j1 kj1 a0 (a0 == 9))))) = some r := by rw [if_neg (show ¬ (false = true) by decide)] at H; exact H
        clear H
        have H := H1
        clear H1
        have HC7 := Aside0.mk H
        clear H
        go_upto_if 9 with (fail)
        go_cut [9] (fun v9 wc => ∃ (kq : Nat) (x9_6 : Bool), v9 = .bool x9_6 ∧ Aside0 (body_Len.j1 kq a0 x9_6 = some r) ∧ Aside0 (kq ≤ kj1) ∧ Drawn0 w wc)
        case first =>
          have H := HC7.out
          clear HC7
          by_cases c8 : a0 = 2
          · rw [if_pos c8] at H
            have c8b0 : (a0 == 2) = true := beq_iff_eq.mpr c8
            have c8b1 : (a0 != 2) = false := bne_eq_false_iff_eq.mpr c8
            clear c8
            (first | rw [c8b0] | (simp only [i64_w, i32_w]; rw [c8b0]) | skip)
            have H' := Aside0.mk H
            clear H
            go_wp2
            go_meet
            case rel => exact ⟨_, ((a0 == 2)), (by first | rfl | (simp; done) | (simp [*]; done)), H', ⟨by have := HJ1.out; first | omega | exact Nat.le_refl _⟩, by repeat (first | exact Drawn0.refl _ | apply Drawn0.step)⟩
          · rw [if_neg c8] at H
            have c8b0 : (a0 == 2) = false := beq_eq_false_iff_ne.mpr c8
            have c8b1 : (a0 != 2) = true := bne_iff_ne.mpr c8
            (first | rw [c8b0] | (simp only [i64_w, i32_w]; rw [c8b0]) | skip)
            by_cases c9 : a0 = 3
            · rw [if_pos c9] at H
              have c9b0 : (a0 == 3) = true := beq_iff_eq.mpr c9
              have c9b1 : (a0 != 3) = false := bne_eq_false_iff_eq.mpr c9
              clear c9
              have H' := Aside0.mk H
              clear H
              go_wp2
              go_meet
              case rel => exact ⟨_, ((a0 == 3)), (by first | rfl | (simp; done) | (simp [*]; done)), H', ⟨by have := HJ1.out; first | omega | exact Nat.le_refl _⟩, by repeat (first | exact Drawn0.refl _ | apply Drawn0.step)⟩
            · rw [if_neg c9] at H
              have c9b0 : (a0 == 3) = false := beq_eq_false_iff_ne.mpr c9
              have c9b1 : (a0 != 3) = true := bne_iff_ne.mpr c9
              by_cases c10 : a0 = 10
              · rw [if_pos c10] at H
                have c10b0 : (a0 == 10) = true := beq_iff_eq.mpr c10
                have c10b1 : (a0 != 10) = false := bne_eq_false_iff_eq.mpr c10
                clear c10
                have H' := Aside0.mk H
                clear H
                go_wp2
                go_meet
                case rel => exact ⟨_, ((a0 == 10)), (by first | rfl | (simp; done) | (simp [*]; done)), H', ⟨by have := HJ1.out; first | omega | exact Nat.le_refl _⟩, by repeat (first | exact Drawn0.refl _ | apply Drawn0.step)⟩
              · rw [if_neg c10] at H
                have c10b0 : (a0 == 10) = false := beq_eq_false_iff_ne.mpr c10
                have c10b1 : (a0 != 10) = true := bne_iff_ne.mpr c10
                have H' := Aside0.mk H
                clear H
                go_wp2
                go_meet
                case rel => exact ⟨_, ((a0 == 9)), (by first | rfl | (simp; done) | (simp [*]; done)), H', ⟨by have := HJ1.out; first | omega | exact Nat.le_refl _⟩, by repeat (first | exact Drawn0.refl _ | apply Drawn0.step)⟩
        case rest =>
          clear HC7
          try clear c1
          try clear p2
          try clear c3
          try clear c3b0
          try clear c3b1
          try clear c4
          try clear c4b0
          try clear c4b1
          try clear c5
          try clear c5b0
          try clear c5b1
          try clear c6
          try clear c8
          try clear c8b0
          try clear c8b1
          try clear c9
          try clear c9b0
          try clear c9b1
          try clear c10
          try clear c10b0
          try clear c10b1
          try clear p2
          obtain ⟨kq, x9_6, rfl, HA, HJ6, ⟨mc6, rfl⟩⟩ := hcut
          cases kq with
          | zero => exact absurd HA.out (by simp [body_Len.j1])
          | succ kj6 =>
            have H := HA.out
            clear HA
            simp only [body_Len.j1] at H
            by_cases c11 : x9_6 = true
            · subst c11
              have H1 : (some 20) = some r := by rw [if_pos rfl] at H; exact H
              clear H
              have H := H1
              clear H1
              obtain rfl := Option.some.inj H
              go_wp2
              all_goals
                go_ret
                exact ⟨by first | rfl | (simp; done) | (simp [*]; done), by repeat (first | exact Drawn0.refl _ | apply Drawn0.step)⟩
            · replace c11 := Bool.eq_false_iff.mpr c11
              subst c11
              have H1 : (if a0 = 11 then (some 30) else (if a0 = 13 then (some 14) else (some 0))) = some r := by rw [if_neg (show ¬ (false = true) by decide)] at H; exact H
              clear H
              have H := H1
              clear H1
              by_cases c12 : a0 = 11
              · rw [if_pos c12] at H
                have c12b0 : (a0 == 11) = true := beq_iff_eq.mpr c12
                have c12b1 : (a0 != 11) = false := bne_eq_false_iff_eq.mpr c12
                clear c12
                obtain rfl := Option.some.inj H
                go_wp2
                all_goals
                  go_ret
                  exact ⟨by first | rfl | (simp; done) | (simp [*]; done), by repeat (first | exact Drawn0.refl _ | apply Drawn0.step)⟩
              · rw [if_neg c12] at H
                have c12b0 : (a0 == 11) = false := beq_eq_false_iff_ne.mpr c12
                have c12b1 : (a0 != 11) = true := bne_iff_ne.mpr c12
                by_cases c13 : a0 = 13
                · rw [if_pos c13] at H
                  have c13b0 : (a0 == 13) = true := beq_iff_eq.mpr c13
                  have c13b1 : (a0 != 13) = false := bne_eq_false_iff_eq.mpr c13
                  clear c13
                  obtain rfl := Option.some.inj H
                  go_wp2
                  all_goals
                    go_ret
                    exact ⟨by first | rfl | (simp; done) | (simp [*]; done), by repeat (first | exact Drawn0.refl _ | apply Drawn0.step)⟩
                · rw [if_neg c13] at H
                  have c13b0 : (a0 == 13) = false := beq_eq_false_iff_ne.mpr c13
                  have c13b1 : (a0 != 13) = true := bne_iff_ne.mpr c13
                  obtain rfl := Option.some.inj H
                  go_wp2
                  all_goals
                    go_ret
                    exact ⟨by first | rfl | (simp; done) | (simp [*]; done), by repeat (first | exact Drawn0.refl _ | apply Drawn0.step)⟩
end Go.Proofs.Ytiomlbkakiienaa.P
