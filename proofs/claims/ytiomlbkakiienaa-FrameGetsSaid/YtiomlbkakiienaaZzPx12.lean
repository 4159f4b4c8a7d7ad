/- Functions and loops of the given program as Lean functions, and that the code comes to what they say: written by this session's own program; Lean checks it. -/
import Derived.Test.YtiomlbkakiienaaZzPx0
import Derived.Test.YtiomlbkakiienaaZzPx7
import Derived.Test.YtiomlbkakiienaaZzPx8
import Derived.Test.YtiomlbkakiienaaZzPx11
namespace Go.Proofs.Ytiomlbkakiienaa.P
open Go.RowKit Go.Proofs.YtiomlbkakiienaaW.PrintWords Go.Proofs.YtiomlbkakiienaaW.PrintLast Go.Proofs.YtiomlbkakiienaaW.PrintMore
attribute [local go_sem] max2_int min2_int max_two min_two max_three min_three max_four min_four   -- for this text's walks alone
set_option linter.unusedVariables false
set_option linter.unusedSimpArgs false
def carillonref09_Here.f (k : Nat) (a0 : ByteArray) (a1 : Int) : Option (Int × Int × Int × Int × Int × Int × Int × Int × Int × Int × Int × Int × Int × Int × Int × Int × Int × Int × Int × Int × Int × Int × Int × List (S43) × Int) := (carillonref09_Get.f k a0).bind fun t6 => (if t6.2.2.2.2.2.2.2.2.2.2.2.2.2.2.2.2.2.2.2.2.2.2.2.2 = 0 then (if t6.2.1 = a1 then (some (t6.1, t6.2.1, t6.2.2.1, t6.2.2.2.1, t6.2.2.2.2.1, t6.2.2.2.2.2.1, t6.2.2.2.2.2.2.1, t6.2.2.2.2.2.2.2.1, t6.2.2.2.2.2.2.2.2.1, t6.2.2.2.2.2.2.2.2.2.1, t6.2.2.2.2.2.2.2.2.2.2.1, t6.2.2.2.2.2.2.2.2.2.2.2.1, t6.2.2.2.2.2.2.2.2.2.2.2.2.1, t6.2.2.2.2.2.2.2.2.2.2.2.2.2.1, t6.2.2.2.2.2.2.2.2.2.2.2.2.2.2.1, t6.2.2.2.2.2.2.2.2.2.2.2.2.2.2.2.1, t6.2.2.2.2.2.2.2.2.2.2.2.2.2.2.2.2.1, t6.2.2.2.2.2.2.2.2.2.2.2.2.2.2.2.2.2.1, t6.2.2.2.2.2.2.2.2.2.2.2.2.2.2.2.2.2.2.1, t6.2.2.2.2.2.2.2.2.2.2.2.2.2.2.2.2.2.2.2.1, t6.2.2.2.2.2.2.2.2.2.2.2.2.2.2.2.2.2.2.2.2.1, t6.2.2.2.2.2.2.2.2.2.2.2.2.2.2.2.2.2.2.2.2.2.1, t6.2.2.2.2.2.2.2.2.2.2.2.2.2.2.2.2.2.2.2.2.2.2.1, t6.2.2.2.2.2.2.2.2.2.2.2.2.2.2.2.2.2.2.2.2.2.2.2.1, t6.2.2.2.2.2.2.2.2.2.2.2.2.2.2.2.2.2.2.2.2.2.2.2.2)) else (some (0, 0, 0, 0, 0, 0, 0, 0, 0, 0, 0, 0, 0, 0, 0, 0, 0, 0, 0, 0, 0, 0, 0, [], 6))) else (some (t6.1, t6.2.1, t6.2.2.1, t6.2.2.2.1, t6.2.2.2.2.1, t6.2.2.2.2.2.1, t6.2.2.2.2.2.2.1, t6.2.2.2.2.2.2.2.1, t6.2.2.2.2.2.2.2.2.1, t6.2.2.2.2.2.2.2.2.2.1, t6.2.2.2.2.2.2.2.2.2.2.1, t6.2.2.2.2.2.2.2.2.2.2.2.1, t6.2.2.2.2.2.2.2.2.2.2.2.2.1, t6.2.2.2.2.2.2.2.2.2.2.2.2.2.1, t6.2.2.2.2.2.2.2.2.2.2.2.2.2.2.1, t6.2.2.2.2.2.2.2.2.2.2.2.2.2.2.2.1, t6.2.2.2.2.2.2.2.2.2.2.2.2.2.2.2.2.1, t6.2.2.2.2.2.2.2.2.2.2.2.2.2.2.2.2.2.1, t6.2.2.2.2.2.2.2.2.2.2.2.2.2.2.2.2.2.2.1, t6.2.2.2.2.2.2.2.2.2.2.2.2.2.2.2.2.2.2.2.1, t6.2.2.2.2.2.2.2.2.2.2.2.2.2.2.2.2.2.2.2.2.1, t6.2.2.2.2.2.2.2.2.2.2.2.2.2.2.2.2.2.2.2.2.2.1, t6.2.2.2.2.2.2.2.2.2.2.2.2.2.2.2.2.2.2.2.2.2.2.1, t6.2.2.2.2.2.2.2.2.2.2.2.2.2.2.2.2.2.2.2.2.2.2.2.1, t6.2.2.2.2.2.2.2.2.2.2.2.2.2.2.2.2.2.2.2.2.2.2.2.2)))
abbrev carillonref09_Here.c0 (x0 x1 x2 x3 x4 x5 x6 x7 x8 x9 x10 x11 x12 x13 x14 x15 x16 x17 x18 x19 x20 x21 x22 : Int) : Array Value := #[.int .i64 x0, .int .i64 x1, .int .i64 x2, .int .i64 x3, .int .u64 x4, .int .i64 x5, .int .i64 x6, .int .i64 x7, .int .i64 x8, .int .u64 x9, .int .i64 x10, .int .i64 x11, .int .i64 x12, .int .i64 x13, .int .i64 x14, .int .i64 x15, .int .i64 x16, .int .u64 x17, .int .i64 x18, .int .i64 x19, .int .i64 x20, .int .i64 x21, .int .i64 x22]
abbrev carillonref09_Here.v1 (x0 x1 x2 x3 x4 x5 x6 x7 x8 x9 x10 x11 x12 x13 x14 x15 x16 x17 x18 x19 x20 x21 x22 : Int) : Value := .agg #[.int .i64 x0, .int .i64 x1, .int .i64 x2, .int .i64 x3, .int .u64 x4, .int .i64 x5, .int .i64 x6, .int .i64 x7, .int .i64 x8, .int .u64 x9, .int .i64 x10, .int .i64 x11, .int .i64 x12, .int .i64 x13, .int .i64 x14, .int .i64 x15, .int .i64 x16, .int .u64 x17, .int .i64 x18, .int .i64 x19, .int .i64 x20, .int .i64 x21, .int .i64 x22]
open Go.Proofs.Ytiomlbkakiienaa.E in
set_option maxHeartbeats 60000000 in
set_option maxRecDepth 100000 in
theorem carillonref09_Here.calls (k : Nat) (a0 : ByteArray) (a1 r1 r2 r3 r4 r5 r6 r7 r8 r9 b7 b8 b9 ca cb cc cd ce cf cg ch ci cj ck : Int) (cl : List (S43)) (cm : Int) (w : World) (h : carillonref09_Here.f k a0 a1 = some (r1, r2, r3, r4, r5, r6, r7, r8, r9, b7, b8, b9, ca, cb, cc, cd, ce, cf, cg, ch, ci, cj, ck, cl, cm)) :
    Calls Try.prog 19 #[.string a0, .int .i64 a1] w fun e w' => ∃ v0_ : Value, e = .returned (.tuple #[.agg #[.int .i64 r1, .int .i64 r2, .int .i64 r3, .int .i64 r4, .int .u64 r5, .int .i64 r6, .int .i64 r7, .int .i64 r8, .int .i64 r9, .int .u64 b7, .int .i64 b8, .int .i64 b9, .int .i64 ca, .int .i64 cb, .int .i64 cc, .int .i64 cd, .int .i64 ce, .int .u64 cf, .int .i64 cg, .int .i64 ch, .int .i64 ci, .int .i64 cj, .int .i64 ck], v0_, .int .i64 cm]) ∧ Kd.R k43 43 w' w.heap.size (fun _ => True) v0_ cl ∧ Below w.heap.size w w' := by
 have H := h
 clear h
 unfold carillonref09_Here.f at H
 obtain ⟨t6, bJ, H⟩ := Option.bind_eq_some_iff.mp H
 obtain ⟨av, ac, aw, ax, ay, az, aA, aB, aC, ad, ae, af, ag, ah, ai, aj, ak, al, am, an, ao, ap, aq, ab, aa⟩ := t6
 (try dsimp only at H)
 refine calls_of_wp (fn := Try.f19) (by kernel_rfl) rfl ?_
 have hS := St.enter #[.string a0, .int .i64 a1] 28 (by simp) [(0, .string a0), (1, .int .i64 a1)] (by simp)
 have bK := Below.refl w.heap.size w
 refine wp_seq_k (fun K1 bL => ?_)
 refine reg_seq (I := I1_ w) (ps := [IsB (carillonref09_Here.c0 0 0 0 0 0 0 0 0 0 0 0 0 0 0 0 0 0 0 0 0 0 0 0) 28 w.heap.size, IsV (.slice none 0 0), VI 0]) (by kernel_rfl) ?_ ?_ rfl hS bK ?_ ?_
 ·exact bs1
 ·exact .cons (Stays.b _ _ _) (.v (.v (.nil)))
 ·refine .on rfl (fun a w hS hI hp => does_var (x_alloc rfl (by kernel_rfl)) (hI).size) ?_
  iterate 2 refine .on rfl (fun a w hS hI hp => does_val (x_assign rfl (rfl)) rfl) ?_
  exact .nil
 clear hS
 intro b2 w3 hS bd hp
 obtain ⟨g4, bv, aZ, aD⟩ := (show IsB _ 28 _ (sl _ 4) _ from hp 0 (by decide))
 have hS := hS.cons bv
 clear hp bv
 refine bL _ _ ?_
 refine wp_seq_k (fun K5 bM => ?_)
 refine reg_seq_tail 7 (I := I2_ w w3) (ps := [IsV (.string a0), IsT (fun v0_ => #[(carillonref09_Here.v1 av ac aw ax ay az aA aB aC ad ae af ag ah ai aj ak al am an ao ap aq), v0_, .int .i64 aa]) (IsR k43 43 w3.heap.size ab), IsT (fun v0_ => #[(carillonref09_Here.v1 av ac aw ax ay az aA aB aC ad ae af ag ah ai aj ak al am an ao ap aq), v0_, .int .i64 aa]) (IsR k43 43 w3.heap.size ab), IsV ((carillonref09_Here.v1 av ac aw ax ay az aA aB aC ad ae af ag ah ai aj ak al am an ao ap aq)), IsR k43 43 w3.heap.size ab, VI aa, IsB (carillonref09_Here.c0 0 0 0 0 0 0 0 0 0 0 0 0 0 0 0 0 0 0 0 0 0 0 0) 28 w3.heap.size]) (by kernel_rfl) ?_ ?_ rfl hS ⟨bd, (bR w3)⟩ ?_ ?_
 ·exact bs2
 ·exact .v (.cons (Stays.t _ (Stays.r _ _ _ _)) (.cons (Stays.t _ (Stays.r _ _ _ _)) (.v (.cons (Stays.r _ _ _ _) (.v (.cons (Stays.b _ _ _) (.nil)))))))
 ·refine .ms 1 rfl rfl rfl ?_
  refine .on rfl (fun a w hS hI hp => does_call (by kernel_rfl) (ar1 (hp.V 0 rfl rfl)) ((carillonref09_Get.calls k a0 av ac aw ax ay az aA aB aC ad ae af ag ah ai aj ak al am an ao ap aq ab aa _  bJ).mono fun _ _ h => h.elim fun v0 h => ⟨_, h.1, h.2.2, v0, rfl, Kd.R_lower h.2.1 hI.2.size⟩)) ?_
  refine .on rfl (fun a w hS hI hp => does_val (x_move rfl rfl) (hp.V 1 rfl rfl)) ?_
  refine .on rfl (fun a w hS hI hp => (hp.V 2 rfl rfl).elim fun v0 h0 => does_val (x_extract rfl h0.1 rfl) rfl) ?_
  refine .on rfl (fun a w hS hI hp => (hp.V 2 rfl rfl).elim fun v0 h0 => does_val (x_extract rfl h0.1 rfl) h0.2) ?_
  refine .on rfl (fun a w hS hI hp => (hp.V 2 rfl rfl).elim fun v0 h0 => does_val (x_extract rfl h0.1 rfl) rfl) ?_
  refine .on rfl (fun a w hS hI hp => does_var (x_alloc rfl (by kernel_rfl)) (hI.2).size) ?_
  exact .nil
 clear hS
 intro b3 w8 hS be hp
 replace hS := ((hS.nil).cons (hS.get 2 rfl)).cons (hS.get 0 rfl)
 have bn : sl _ 13 = (carillonref09_Here.v1 av ac aw ax ay az aA aB aC ad ae af ag ah ai aj ak al am an ao ap aq) := hp 3 (by decide)
 obtain ⟨A9, C9, ba, b5, b4⟩ := Kd.R_reads (show Kd.R k43 43 w8 w3.heap.size (fun _ => True) (sl _ 14) ab from hp 4 (by decide))
 have bN : Kd.R k43 43 w8 w3.heap.size (fun _ => True) (.slice A9 ab.length C9) ab := ba ▸ (hp 4 (by decide))
 have bo : sl _ 15 = .int .i64 aa := hp 5 (by decide)
 obtain ⟨aK, bw, aJ, aL⟩ := (show IsB _ 28 _ (sl _ 7) _ from hp 6 (by decide))
 have hS := hS.cons bn
 have hS := hS.cons ba
 have hS := hS.cons bo
 have hS := hS.cons bw
 clear hp bn ba bo bw
 show wpList _ _ _ [_, _, _] _ _
 refine list_step rfl (does_storeAll (g := aK) (cs := (carillonref09_Here.c0 av ac aw ax ay az aA aB aC ad ae af ag ah ai aj ak al am an ao ap aq)) rfl (hS.get 0 rfl) (hS.get 3 rfl) (((bR w8).block aK (blk_lt aL)).trans aL) (by kernel_rfl) (by kernel_rfl) (by kernel_rfl)) ?_
 rintro bZ aY ⟨rfl, ar, hT⟩
 have a9 := hT.rowT rfl (((bR w8).block aK (blk_lt aL)).trans aL) (Kd.R_below bN (bR w8)) (by decide)
 have bX := (Kd.R_reads' a9).2.2
 have bg := hT.below be.1 (Nat.le_trans (bd).size aJ) (be.1).size
 have a7 := hT.below be.2 aJ (be.2).size
 clear hT
 refine list_step rfl (R := fun v w' => Below _ _ w' ∧ (IsV (.slice A9 ab.length C9)) v w') (does_val (x_assign rfl (hS.get 2 rfl)) rfl) ?_
 rintro bE bO ⟨hb, he⟩
 have bh := below_step bg hb
 have a8 := below_step a7 hb
 have a2 := below_step (bR aY) hb
 obtain rfl : bE = .slice A9 ab.length C9 := he
 refine hS.next (v := .slice A9 ab.length C9) (d := 8) rfl (by decide) (by rfl) ?_
 clear hS
 intro bS hS
 refine list_step rfl (R := fun v w' => Below _ _ w' ∧ (VI aa) v w') (does_val (x_assign rfl (hS.get 2 rfl)) rfl) ?_
 rintro bG bf ⟨hb, he⟩
 have aX := below_step bh hb
 have aP := below_step a8 hb
 have aO := below_step a2 hb
 have bt := below_step (bR bO) hb
 obtain rfl : bG = .int .i64 aa := he
 refine hS.next (v := .int .i64 aa) (d := 9) rfl (by decide) (by rfl) ?_
 clear hS
 intro bU hS
 refine wpList_nil ?_
 refine bM _ _ ?_
 refine wp_seq_k (fun b0 bl => ?_)
 refine wp_seq_k (fun b1 bm => ?_)
 by_cases c1 : aa = 0
 rotate_left
 ·rw [if_neg c1] at H
  simp only [Option.some.injEq, Prod.mk.injEq] at H
  obtain ⟨rfl, rfl, rfl, rfl, rfl, rfl, rfl, rfl, rfl, rfl, rfl, rfl, rfl, rfl, rfl, rfl, rfl, rfl, rfl, rfl, rfl, rfl, rfl, rfl, rfl⟩ := H
  refine reg_seq (I := I4_ w w3 aY bf) (ps := [VI aa, VB (decide (aa = 0)), VB (decide (aa = 0)), VU, VU, VU, VU, VB false]) (by kernel_rfl) ?_ ?_ rfl hS ⟨aX, aP, aO, (bR bf)⟩ ?_ ?_
  ·exact bs4
  ·exact .v (.v (.v (.v (.v (.v (.v (.v (.nil))))))))
  ·refine .ms 0 rfl rfl rfl ?_
   refine .on rfl (fun a w hS hI hp => does_val (x_bin rfl (hp.V 0 rfl rfl) (rfl) (b_eql _ _ _ _ _ _)) rfl) ?_
   refine .mv 1 rfl rfl rfl ?_
   iterate 4 refine .sn 2 18 rfl rfl ((decide_eq_false c1)) ?_
   refine .pf 2 rfl rfl rfl ((decide_eq_false c1)) (fun _ => rfl) ?_
   exact .nil
  clear hS
  intro bz aW hS aG hp
  replace hS := ((((hS.nil).cons (hS.get 6 rfl)).cons (hS.get 2 rfl)).cons (hS.get 1 rfl)).cons (hS.get 0 rfl)
  have aS : sl _ 23 = .bool false := hp 7 (by decide)
  have hS := hS.cons aS
  clear hp aS
  refine bm _ _ ?_
  refine wp_cond_false ((hS.get 0 rfl).trans (bF rfl)) ?_
  refine wp_skip ?_
  refine bl _ _ ?_
  refine wp_seq_k (fun bs aQ => ?_)
  refine reg_seq_tail 3 (I := I4_ w w3 aY aW) (ps := [IsV ((carillonref09_Here.v1 av ac aw ax ay az aA aB aC ad ae af ag ah ai aj ak al am an ao ap aq)), IsV (.slice A9 ab.length C9), VI aa]) (by kernel_rfl) ?_ ?_ rfl hS ⟨aG.1, aG.2.1, aG.2.2.1, (bR aW)⟩ ?_ ?_
  ·exact bs4
  ·exact .v (.v (.v (.nil)))
  ·refine .on rfl (fun a w hS hI hp => does_loadrow rfl (hS.get 3 rfl) (((hI.2.2.1).block aK (blk_lt ar)).trans ar) Try.underlying28 rfl (by kernel_rfl) rfl) ?_
   refine .ms 2 rfl rfl rfl ?_
   refine .ms 1 rfl rfl rfl ?_
   exact .nil
  clear hS
  intro bk bx hS au hp
  replace hS := (hS.nil).cons (hS.get 4 rfl)
  have aT : sl _ 25 = (carillonref09_Here.v1 av ac aw ax ay az aA aB aC ad ae af ag ah ai aj ak al am an ao ap aq) := hp 0 (by decide)
  have aU : sl _ 26 = .slice A9 ab.length C9 := hp 1 (by decide)
  have aV : sl _ 27 = .int .i64 aa := hp 2 (by decide)
  have hS := hS.cons aT
  have hS := hS.cons aU
  have hS := hS.cons aV
  clear hp aT aU aV
  show wpList _ _ _ [_, _, _] _ _
  refine list_step rfl (does_storeAll (g := g4) (cs := (carillonref09_Here.c0 av ac aw ax ay az aA aB aC ad ae af ag ah ai aj ak al am an ao ap aq)) rfl (hS.get 3 rfl) (hS.get 2 rfl) ((au.2.1.block g4 (blk_lt aD)).trans aD) (by kernel_rfl) (by kernel_rfl) (by kernel_rfl)) ?_
  rintro bq a6 ⟨rfl, aF, hT⟩
  have aR := hT.row (Kd.R_below a9 au.2.2.1) (Nat.lt_of_lt_of_le (blk_lt aD) (Nat.le_refl _))
  have bC := (Kd.R_reads' aR).2.2
  have bD := hT.blk ((au.2.2.1.block aK (blk_lt ar)).trans ar) (Nat.ne_of_gt (Nat.lt_of_lt_of_le (Nat.lt_of_lt_of_le (blk_lt aD) (Nat.le_refl _)) aJ))
  have aH := hT.below au.1 aZ (au.1).size
  clear hT
  refine list_step rfl (R := fun v w' => Below _ _ w' ∧ (IsV (.slice A9 ab.length C9)) v w') (does_val (x_assign rfl (hS.get 1 rfl)) rfl) ?_
  rintro bb br ⟨hb, he⟩
  have aM := below_step aH hb
  have aI := below_step (bR a6) hb
  obtain rfl : bb = .slice A9 ab.length C9 := he
  refine hS.next (v := .slice A9 ab.length C9) (d := 5) rfl (by decide) (by rfl) ?_
  clear hS
  intro bA hS
  refine list_step rfl (R := fun v w' => Below _ _ w' ∧ (VI aa) v w') (does_val (x_assign rfl (hS.get 1 rfl)) rfl) ?_
  rintro bc bQ ⟨hb, he⟩
  have aN := below_step aM hb
  have aE := below_step aI hb
  have a5 := below_step (bR br) hb
  obtain rfl : bc = .int .i64 aa := he
  refine hS.next (v := .int .i64 aa) (d := 6) rfl (by decide) (by rfl) ?_
  clear hS
  intro bB hS
  refine wpList_nil ?_
  refine aQ _ _ ?_
  refine wp_ret ?_
  (try simp only [Exit.then, Exit.inBlock, Exit.jump, Exit.noGoto])
  exact bodyPost_ret (v := .tuple #[(carillonref09_Here.v1 av ac aw ax ay az aA aB aC ad ae af ag ah ai aj ak al am an ao ap aq), .slice A9 ab.length C9, .int .i64 aa]) (results_list (rs := [.cell 4 28, .tmp 5, .tmp 6]) rfl (by simp) (Vals.cell g4 28 (carillonref09_Here.c0 av ac aw ax ay az aA aB aC ad ae af ag ah ai aj ak al am an ao ap aq) (0, 0) _ (hS.get 5 rfl) ((aE.block g4 (blk_lt aF)).trans aF) Try.underlying28 rfl (by kernel_rfl) (Vals.at (hS.get 1 rfl) (Vals.at (hS.get 0 rfl) .nil)))) hS.nodef ⟨.slice A9 ab.length C9, rfl, Kd.R_lower (Kd.R_below aR aE) (bd).size, aN⟩
 rw [if_pos c1] at H
 refine reg_seq (I := I4_ w w3 aY bf) (ps := [VI aa, VB (decide (aa = 0)), VB (decide (aa = 0)), VP aK 1, VI ac, VI a1, VB (!decide (ac = a1)), VB (!decide (ac = a1))]) (by kernel_rfl) ?_ ?_ rfl hS ⟨aX, aP, aO, (bR bf)⟩ ?_ ?_
 ·exact bs4
 ·exact .v (.v (.v (.v (.v (.v (.v (.v (.nil))))))))
 ·refine .ms 0 rfl rfl rfl ?_
  refine .on rfl (fun a w hS hI hp => does_val (x_bin rfl (hp.V 0 rfl rfl) (rfl) (b_eql _ _ _ _ _ _)) rfl) ?_
  refine .mv 1 rfl rfl rfl ?_
  refine .oy 2 18 rfl rfl ((decide_eq_true c1)) (fun a w hS hI hp => does_val (x_fieldE (b := 0) rfl (hS.get 2 rfl) Try.underlying28 rfl rfl (by kernel_rfl)) rfl) ?_
  refine .oy 2 18 rfl rfl ((decide_eq_true c1)) (fun a w hS hI hp => does_val (x_load1 (d := .int .i64) rfl (hp.V 3 rfl rfl) (by kernel_rfl) rfl ((blk_cell (((hI.2.2.1).block aK (blk_lt ar)).trans ar) 1).trans rfl)) rfl) ?_
  refine .oy 2 18 rfl rfl ((decide_eq_true c1)) (fun a w hS hI hp => does_val (x_move rfl (hS.get 7 rfl)) rfl) ?_
  refine .oy 2 18 rfl rfl ((decide_eq_true c1)) (fun a w hS hI hp => does_val (x_bin rfl (hp.V 4 rfl rfl) (hp.V 5 rfl rfl) (b_neq _ _ _ _ _ _)) rfl) ?_
  refine .pt 2 6 rfl rfl rfl ((decide_eq_true c1)) rfl ?_
  exact .nil
 clear hS
 intro bz aW hS aG hp
 replace hS := ((((hS.nil).cons (hS.get 6 rfl)).cons (hS.get 2 rfl)).cons (hS.get 1 rfl)).cons (hS.get 0 rfl)
 have aS : sl _ 23 = .bool (!decide (ac = a1)) := hp 7 (by decide)
 have hS := hS.cons aS
 clear hp aS
 refine bm _ _ ?_
 by_cases c2 : ac = a1
 rotate_left
 ·rw [if_neg c2] at H
  simp only [Option.some.injEq, Prod.mk.injEq] at H
  obtain ⟨rfl, rfl, rfl, rfl, rfl, rfl, rfl, rfl, rfl, rfl, rfl, rfl, rfl, rfl, rfl, rfl, rfl, rfl, rfl, rfl, rfl, rfl, rfl, rfl, rfl⟩ := H
  refine wp_cond_true ((hS.get 0 rfl).trans (bT (congrArg (!·) (decide_eq_false c2)))) ?_
  refine wp_seq_k (fun bs aQ => ?_)
  refine reg_seq_tail 1 (I := I4_ w w3 aY aW) (ps := [IsV ((carillonref09_Here.v1 0 0 0 0 0 0 0 0 0 0 0 0 0 0 0 0 0 0 0 0 0 0 0))]) (by kernel_rfl) ?_ ?_ rfl hS ⟨aG.1, aG.2.1, aG.2.2.1, (bR aW)⟩ ?_ ?_
  ·exact bs4
  ·exact .v (.nil)
  ·refine .on rfl (fun a w hS hI hp => does_val (x_build (vs := []) rfl (by rw [Array.toList_map]; exact (show [] = _ from rfl)) (by kernel_rfl)) rfl) ?_
   exact .nil
  clear hS
  intro bk bx hS au hp
  replace hS := (hS.nil).cons (hS.get 4 rfl)
  have bp : sl _ 24 = (carillonref09_Here.v1 0 0 0 0 0 0 0 0 0 0 0 0 0 0 0 0 0 0 0 0 0 0 0) := hp 0 (by decide)
  have hS := hS.cons bp
  clear hp bp
  show wpList _ _ _ [_, _, _] _ _
  refine list_step rfl (does_storeAll (g := g4) (cs := (carillonref09_Here.c0 0 0 0 0 0 0 0 0 0 0 0 0 0 0 0 0 0 0 0 0 0 0 0)) rfl (hS.get 1 rfl) (hS.get 0 rfl) ((au.2.1.block g4 (blk_lt aD)).trans aD) (by kernel_rfl) (by kernel_rfl) (by kernel_rfl)) ?_
  rintro bq a6 ⟨rfl, aF, hT⟩
  have bY := hT.blk ((au.2.2.1.block aK (blk_lt ar)).trans ar) (Nat.ne_of_gt (Nat.lt_of_lt_of_le (Nat.lt_of_lt_of_le (blk_lt aD) (Nat.le_refl _)) aJ))
  have aH := hT.below au.1 aZ (au.1).size
  clear hT
  refine list_step rfl (R := fun v w' => Below _ _ w' ∧ (IsV (.slice none 0 0)) v w') (does_val (x_assign rfl (rfl)) rfl) ?_
  rintro bH bP ⟨hb, he⟩
  have bi := below_step aH hb
  have a3 := below_step (bR a6) hb
  obtain rfl : bH = .slice none 0 0 := he
  refine hS.next (v := .slice none 0 0) (d := 5) rfl (by decide) (by rfl) ?_
  clear hS
  intro bV hS
  refine list_step rfl (R := fun v w' => Below _ _ w' ∧ (VI 6) v w') (does_val (x_assign rfl (rfl)) rfl) ?_
  rintro bI b6 ⟨hb, he⟩
  have bj := below_step bi hb
  have a4 := below_step a3 hb
  have bu := below_step (bR bP) hb
  obtain rfl : bI = .int .i64 6 := he
  refine hS.next (v := .int .i64 6) (d := 6) rfl (by decide) (by rfl) ?_
  clear hS
  intro bW hS
  refine wpList_nil ?_
  refine aQ _ _ ?_
  refine wp_ret ?_
  (try simp only [Exit.then, Exit.inBlock, Exit.jump, Exit.noGoto])
  exact bodyPost_ret (v := .tuple #[(carillonref09_Here.v1 0 0 0 0 0 0 0 0 0 0 0 0 0 0 0 0 0 0 0 0 0 0 0), .slice none 0 0, .int .i64 6]) (results_list (rs := [.cell 4 28, .tmp 5, .tmp 6]) rfl (by simp) (Vals.cell g4 28 (carillonref09_Here.c0 0 0 0 0 0 0 0 0 0 0 0 0 0 0 0 0 0 0 0 0 0 0 0) (0, 0) _ (hS.get 3 rfl) ((a4.block g4 (blk_lt aF)).trans aF) Try.underlying28 rfl (by kernel_rfl) (Vals.at (hS.get 1 rfl) (Vals.at (hS.get 0 rfl) .nil)))) hS.nodef ⟨.slice none 0 0, rfl, Kd.R_nil _ _ _ _ _, bj⟩
 rw [if_pos c2] at H
 simp only [Option.some.injEq, Prod.mk.injEq] at H
 obtain ⟨rfl, rfl, rfl, rfl, rfl, rfl, rfl, rfl, rfl, rfl, rfl, rfl, rfl, rfl, rfl, rfl, rfl, rfl, rfl, rfl, rfl, rfl, rfl, rfl, rfl⟩ := H
 refine wp_cond_false ((hS.get 0 rfl).trans (bF (congrArg (!·) (decide_eq_true c2)))) ?_
 refine wp_skip ?_
 refine bl _ _ ?_
 refine wp_seq_k (fun bs aQ => ?_)
 refine reg_seq_tail 3 (I := I4_ w w3 aY aW) (ps := [IsV ((carillonref09_Here.v1 av ac aw ax ay az aA aB aC ad ae af ag ah ai aj ak al am an ao ap aq)), IsV (.slice A9 ab.length C9), VI aa]) (by kernel_rfl) ?_ ?_ rfl hS ⟨aG.1, aG.2.1, aG.2.2.1, (bR aW)⟩ ?_ ?_
 ·exact bs4
 ·exact .v (.v (.v (.nil)))
 ·refine .on rfl (fun a w hS hI hp => does_loadrow rfl (hS.get 3 rfl) (((hI.2.2.1).block aK (blk_lt ar)).trans ar) Try.underlying28 rfl (by kernel_rfl) rfl) ?_
  refine .ms 2 rfl rfl rfl ?_
  refine .ms 1 rfl rfl rfl ?_
  exact .nil
 clear hS
 intro bk bx hS au hp
 replace hS := (hS.nil).cons (hS.get 4 rfl)
 have aT : sl _ 25 = (carillonref09_Here.v1 av ac aw ax ay az aA aB aC ad ae af ag ah ai aj ak al am an ao ap aq) := hp 0 (by decide)
 have aU : sl _ 26 = .slice A9 ab.length C9 := hp 1 (by decide)
 have aV : sl _ 27 = .int .i64 aa := hp 2 (by decide)
 have hS := hS.cons aT
 have hS := hS.cons aU
 have hS := hS.cons aV
 clear hp aT aU aV
 show wpList _ _ _ [_, _, _] _ _
 refine list_step rfl (does_storeAll (g := g4) (cs := (carillonref09_Here.c0 av ac aw ax ay az aA aB aC ad ae af ag ah ai aj ak al am an ao ap aq)) rfl (hS.get 3 rfl) (hS.get 2 rfl) ((au.2.1.block g4 (blk_lt aD)).trans aD) (by kernel_rfl) (by kernel_rfl) (by kernel_rfl)) ?_
 rintro bq a6 ⟨rfl, aF, hT⟩
 have aR := hT.row (Kd.R_below a9 au.2.2.1) (Nat.lt_of_lt_of_le (blk_lt aD) (Nat.le_refl _))
 have bC := (Kd.R_reads' aR).2.2
 have bD := hT.blk ((au.2.2.1.block aK (blk_lt ar)).trans ar) (Nat.ne_of_gt (Nat.lt_of_lt_of_le (Nat.lt_of_lt_of_le (blk_lt aD) (Nat.le_refl _)) aJ))
 have aH := hT.below au.1 aZ (au.1).size
 clear hT
 refine list_step rfl (R := fun v w' => Below _ _ w' ∧ (IsV (.slice A9 ab.length C9)) v w') (does_val (x_assign rfl (hS.get 1 rfl)) rfl) ?_
 rintro bb br ⟨hb, he⟩
 have aM := below_step aH hb
 have aI := below_step (bR a6) hb
 obtain rfl : bb = .slice A9 ab.length C9 := he
 refine hS.next (v := .slice A9 ab.length C9) (d := 5) rfl (by decide) (by rfl) ?_
 clear hS
 intro bA hS
 refine list_step rfl (R := fun v w' => Below _ _ w' ∧ (VI aa) v w') (does_val (x_assign rfl (hS.get 1 rfl)) rfl) ?_
 rintro bc bQ ⟨hb, he⟩
 have aN := below_step aM hb
 have aE := below_step aI hb
 have a5 := below_step (bR br) hb
 obtain rfl : bc = .int .i64 aa := he
 refine hS.next (v := .int .i64 aa) (d := 6) rfl (by decide) (by rfl) ?_
 clear hS
 intro bB hS
 refine wpList_nil ?_
 refine aQ _ _ ?_
 refine wp_ret ?_
 (try simp only [Exit.then, Exit.inBlock, Exit.jump, Exit.noGoto])
 exact bodyPost_ret (v := .tuple #[(carillonref09_Here.v1 av ac aw ax ay az aA aB aC ad ae af ag ah ai aj ak al am an ao ap aq), .slice A9 ab.length C9, .int .i64 aa]) (results_list (rs := [.cell 4 28, .tmp 5, .tmp 6]) rfl (by simp) (Vals.cell g4 28 (carillonref09_Here.c0 av ac aw ax ay az aA aB aC ad ae af ag ah ai aj ak al am an ao ap aq) (0, 0) _ (hS.get 5 rfl) ((aE.block g4 (blk_lt aF)).trans aF) Try.underlying28 rfl (by kernel_rfl) (Vals.at (hS.get 1 rfl) (Vals.at (hS.get 0 rfl) .nil)))) hS.nodef ⟨.slice A9 ab.length C9, rfl, Kd.R_lower (Kd.R_below aR aE) (bd).size, aN⟩
def carillonlaw09_FrameGets.f (k : Nat) (a0 : ByteArray) (a1 : Int) : Option (Bool) := if (a0.size : Int) > 1000 then ((carillonlaw09_awake.f k ).bind fun t9 => (some t9)) else ((frame_Get.f k a0).bind fun t9 => ((carillonref09_Get.f k a0).bind fun t21 => ((frame_Here.f k a0 a1).bind fun t33 => ((carillonref09_Here.f k a0 a1).bind fun t45 => (if ((t9.1 == t21.1) && ((t9.2.1 == t21.2.1) && ((t9.2.2.1 == t21.2.2.1) && ((t9.2.2.2.1 == t21.2.2.2.1) && ((t9.2.2.2.2.1 == t21.2.2.2.2.1) && ((t9.2.2.2.2.2.1 == t21.2.2.2.2.2.1) && ((t9.2.2.2.2.2.2.1 == t21.2.2.2.2.2.2.1) && ((t9.2.2.2.2.2.2.2.1 == t21.2.2.2.2.2.2.2.1) && ((t9.2.2.2.2.2.2.2.2.1 == t21.2.2.2.2.2.2.2.2.1) && ((t9.2.2.2.2.2.2.2.2.2.1 == t21.2.2.2.2.2.2.2.2.2.1) && ((t9.2.2.2.2.2.2.2.2.2.2.1 == t21.2.2.2.2.2.2.2.2.2.2.1) && ((t9.2.2.2.2.2.2.2.2.2.2.2.1 == t21.2.2.2.2.2.2.2.2.2.2.2.1) && ((t9.2.2.2.2.2.2.2.2.2.2.2.2.1 == t21.2.2.2.2.2.2.2.2.2.2.2.2.1) && ((t9.2.2.2.2.2.2.2.2.2.2.2.2.2.1 == t21.2.2.2.2.2.2.2.2.2.2.2.2.2.1) && ((t9.2.2.2.2.2.2.2.2.2.2.2.2.2.2.1 == t21.2.2.2.2.2.2.2.2.2.2.2.2.2.2.1) && ((t9.2.2.2.2.2.2.2.2.2.2.2.2.2.2.2.1 == t21.2.2.2.2.2.2.2.2.2.2.2.2.2.2.2.1) && ((t9.2.2.2.2.2.2.2.2.2.2.2.2.2.2.2.2.1 == t21.2.2.2.2.2.2.2.2.2.2.2.2.2.2.2.2.1) && ((t9.2.2.2.2.2.2.2.2.2.2.2.2.2.2.2.2.2.1 == t21.2.2.2.2.2.2.2.2.2.2.2.2.2.2.2.2.2.1) && ((t9.2.2.2.2.2.2.2.2.2.2.2.2.2.2.2.2.2.2.1 == t21.2.2.2.2.2.2.2.2.2.2.2.2.2.2.2.2.2.2.1) && ((t9.2.2.2.2.2.2.2.2.2.2.2.2.2.2.2.2.2.2.2.1 == t21.2.2.2.2.2.2.2.2.2.2.2.2.2.2.2.2.2.2.2.1) && ((t9.2.2.2.2.2.2.2.2.2.2.2.2.2.2.2.2.2.2.2.2.1 == t21.2.2.2.2.2.2.2.2.2.2.2.2.2.2.2.2.2.2.2.2.1) && ((t9.2.2.2.2.2.2.2.2.2.2.2.2.2.2.2.2.2.2.2.2.2.1 == t21.2.2.2.2.2.2.2.2.2.2.2.2.2.2.2.2.2.2.2.2.2.1) && (t9.2.2.2.2.2.2.2.2.2.2.2.2.2.2.2.2.2.2.2.2.2.2.1 == t21.2.2.2.2.2.2.2.2.2.2.2.2.2.2.2.2.2.2.2.2.2.2.1))))))))))))))))))))))) = true then ((carillonlaw00_SameTlvs.f k t9.2.2.2.2.2.2.2.2.2.2.2.2.2.2.2.2.2.2.2.2.2.2.2.1 t21.2.2.2.2.2.2.2.2.2.2.2.2.2.2.2.2.2.2.2.2.2.2.2.1).bind fun t57 => (if t57 = true then (if t9.2.2.2.2.2.2.2.2.2.2.2.2.2.2.2.2.2.2.2.2.2.2.2.2 = t21.2.2.2.2.2.2.2.2.2.2.2.2.2.2.2.2.2.2.2.2.2.2.2.2 then (if ((t33.1 == t45.1) && ((t33.2.1 == t45.2.1) && ((t33.2.2.1 == t45.2.2.1) && ((t33.2.2.2.1 == t45.2.2.2.1) && ((t33.2.2.2.2.1 == t45.2.2.2.2.1) && ((t33.2.2.2.2.2.1 == t45.2.2.2.2.2.1) && ((t33.2.2.2.2.2.2.1 == t45.2.2.2.2.2.2.1) && ((t33.2.2.2.2.2.2.2.1 == t45.2.2.2.2.2.2.2.1) && ((t33.2.2.2.2.2.2.2.2.1 == t45.2.2.2.2.2.2.2.2.1) && ((t33.2.2.2.2.2.2.2.2.2.1 == t45.2.2.2.2.2.2.2.2.2.1) && ((t33.2.2.2.2.2.2.2.2.2.2.1 == t45.2.2.2.2.2.2.2.2.2.2.1) && ((t33.2.2.2.2.2.2.2.2.2.2.2.1 == t45.2.2.2.2.2.2.2.2.2.2.2.1) && ((t33.2.2.2.2.2.2.2.2.2.2.2.2.1 == t45.2.2.2.2.2.2.2.2.2.2.2.2.1) && ((t33.2.2.2.2.2.2.2.2.2.2.2.2.2.1 == t45.2.2.2.2.2.2.2.2.2.2.2.2.2.1) && ((t33.2.2.2.2.2.2.2.2.2.2.2.2.2.2.1 == t45.2.2.2.2.2.2.2.2.2.2.2.2.2.2.1) && ((t33.2.2.2.2.2.2.2.2.2.2.2.2.2.2.2.1 == t45.2.2.2.2.2.2.2.2.2.2.2.2.2.2.2.1) && ((t33.2.2.2.2.2.2.2.2.2.2.2.2.2.2.2.2.1 == t45.2.2.2.2.2.2.2.2.2.2.2.2.2.2.2.2.1) && ((t33.2.2.2.2.2.2.2.2.2.2.2.2.2.2.2.2.2.1 == t45.2.2.2.2.2.2.2.2.2.2.2.2.2.2.2.2.2.1) && ((t33.2.2.2.2.2.2.2.2.2.2.2.2.2.2.2.2.2.2.1 == t45.2.2.2.2.2.2.2.2.2.2.2.2.2.2.2.2.2.2.1) && ((t33.2.2.2.2.2.2.2.2.2.2.2.2.2.2.2.2.2.2.2.1 == t45.2.2.2.2.2.2.2.2.2.2.2.2.2.2.2.2.2.2.2.1) && ((t33.2.2.2.2.2.2.2.2.2.2.2.2.2.2.2.2.2.2.2.2.1 == t45.2.2.2.2.2.2.2.2.2.2.2.2.2.2.2.2.2.2.2.2.1) && ((t33.2.2.2.2.2.2.2.2.2.2.2.2.2.2.2.2.2.2.2.2.2.1 == t45.2.2.2.2.2.2.2.2.2.2.2.2.2.2.2.2.2.2.2.2.2.1) && (t33.2.2.2.2.2.2.2.2.2.2.2.2.2.2.2.2.2.2.2.2.2.2.1 == t45.2.2.2.2.2.2.2.2.2.2.2.2.2.2.2.2.2.2.2.2.2.2.1))))))))))))))))))))))) = true then ((carillonlaw00_SameTlvs.f k t33.2.2.2.2.2.2.2.2.2.2.2.2.2.2.2.2.2.2.2.2.2.2.2.1 t45.2.2.2.2.2.2.2.2.2.2.2.2.2.2.2.2.2.2.2.2.2.2.2.1).bind fun t58 => (if t58 = true then (if t33.2.2.2.2.2.2.2.2.2.2.2.2.2.2.2.2.2.2.2.2.2.2.2.2 = t45.2.2.2.2.2.2.2.2.2.2.2.2.2.2.2.2.2.2.2.2.2.2.2.2 then ((carillonlaw09_awake.f k ).bind fun t59 => (some t59)) else (some false)) else (some false))) else (some false)) else (some false)) else (some false))) else (some false))))))
open Go.Proofs.Ytiomlbkakiienaa.E in
set_option maxRecDepth 100000 in
theorem carillonlaw09_FrameGets.eql28 (x y : Operand) (w : World) (a0 a1 a2 a3 a4 a5 a6 a7 a8 a9 a10 a11 a12 a13 a14 a15 a16 a17 a18 a19 a20 a21 a22 b0 b1 b2 b3 b4 b5 b6 b7 b8 b9 b10 b11 b12 b13 b14 b15 b16 b17 b18 b19 b20 b21 b22 : Int) : (do eqGuard .eql 28 x y (.agg #[.int .i64 a0, .int .i64 a1, .int .i64 a2, .int .i64 a3, .int .u64 a4, .int .i64 a5, .int .i64 a6, .int .i64 a7, .int .i64 a8, .int .u64 a9, .int .i64 a10, .int .i64 a11, .int .i64 a12, .int .i64 a13, .int .i64 a14, .int .i64 a15, .int .i64 a16, .int .u64 a17, .int .i64 a18, .int .i64 a19, .int .i64 a20, .int .i64 a21, .int .i64 a22]) (.agg #[.int .i64 b0, .int .i64 b1, .int .i64 b2, .int .i64 b3, .int .u64 b4, .int .i64 b5, .int .i64 b6, .int .i64 b7, .int .i64 b8, .int .u64 b9, .int .i64 b10, .int .i64 b11, .int .i64 b12, .int .i64 b13, .int .i64 b14, .int .i64 b15, .int .i64 b16, .int .u64 b17, .int .i64 b18, .int .i64 b19, .int .i64 b20, .int .i64 b21, .int .i64 b22]); binOp .eql 28 (.agg #[.int .i64 a0, .int .i64 a1, .int .i64 a2, .int .i64 a3, .int .u64 a4, .int .i64 a5, .int .i64 a6, .int .i64 a7, .int .i64 a8, .int .u64 a9, .int .i64 a10, .int .i64 a11, .int .i64 a12, .int .i64 a13, .int .i64 a14, .int .i64 a15, .int .i64 a16, .int .u64 a17, .int .i64 a18, .int .i64 a19, .int .i64 a20, .int .i64 a21, .int .i64 a22]) (.agg #[.int .i64 b0, .int .i64 b1, .int .i64 b2, .int .i64 b3, .int .u64 b4, .int .i64 b5, .int .i64 b6, .int .i64 b7, .int .i64 b8, .int .u64 b9, .int .i64 b10, .int .i64 b11, .int .i64 b12, .int .i64 b13, .int .i64 b14, .int .i64 b15, .int .i64 b16, .int .u64 b17, .int .i64 b18, .int .i64 b19, .int .i64 b20, .int .i64 b21, .int .i64 b22]) : Sem Value).run Try.prog w = .ok (.bool ((a0 == b0) && ((a1 == b1) && ((a2 == b2) && ((a3 == b3) && ((a4 == b4) && ((a5 == b5) && ((a6 == b6) && ((a7 == b7) && ((a8 == b8) && ((a9 == b9) && ((a10 == b10) && ((a11 == b11) && ((a12 == b12) && ((a13 == b13) && ((a14 == b14) && ((a15 == b15) && ((a16 == b16) && ((a17 == b17) && ((a18 == b18) && ((a19 == b19) && ((a20 == b20) && ((a21 == b21) && (a22 == b22)))))))))))))))))))))))) w := by
  have hu3 := Try.underlying3
  have hu22 := Try.underlying22
  have hu24 := Try.underlying24
  have hu26 := Try.underlying26
  have hu28 := Try.underlying28
  conv => lhs; simp [eqGuard, go_sem, hu3, hu22, hu24, hu26, hu28]
  exact ite_and (ite_and (ite_and (ite_and (ite_and (ite_and (ite_and (ite_and (ite_and (ite_and (ite_and (ite_and (ite_and (ite_and (ite_and (ite_and (ite_and (ite_and (ite_and (ite_and (ite_and (ite_and (ite_last))))))))))))))))))))))
abbrev carillonlaw09_FrameGets.v0 (x0 x1 x2 x3 x4 x5 x6 x7 x8 x9 x10 x11 x12 x13 x14 x15 x16 x17 x18 x19 x20 x21 x22 : Int) : Value := .agg #[.int .i64 x0, .int .i64 x1, .int .i64 x2, .int .i64 x3, .int .u64 x4, .int .i64 x5, .int .i64 x6, .int .i64 x7, .int .i64 x8, .int .u64 x9, .int .i64 x10, .int .i64 x11, .int .i64 x12, .int .i64 x13, .int .i64 x14, .int .i64 x15, .int .i64 x16, .int .u64 x17, .int .i64 x18, .int .i64 x19, .int .i64 x20, .int .i64 x21, .int .i64 x22]
abbrev carillonlaw09_FrameGets.c1 (x0 x1 x2 x3 x4 x5 x6 x7 x8 x9 x10 x11 x12 x13 x14 x15 x16 x17 x18 x19 x20 x21 x22 : Int) : Array Value := #[.int .i64 x0, .int .i64 x1, .int .i64 x2, .int .i64 x3, .int .u64 x4, .int .i64 x5, .int .i64 x6, .int .i64 x7, .int .i64 x8, .int .u64 x9, .int .i64 x10, .int .i64 x11, .int .i64 x12, .int .i64 x13, .int .i64 x14, .int .i64 x15, .int .i64 x16, .int .u64 x17, .int .i64 x18, .int .i64 x19, .int .i64 x20, .int .i64 x21, .int .i64 x22]
open Go.Proofs.Ytiomlbkakiienaa.E in
set_option maxHeartbeats 60000000 in
set_option maxRecDepth 100000 in
theorem carillonlaw09_FrameGets.calls (k : Nat) (a0 : ByteArray) (a1 : Int) (w : World) (h : carillonlaw09_FrameGets.f k a0 a1 = some true) :
    Calls Try.prog 7 #[.string a0, .int .i64 a1] w fun e w' => e = .returned (.bool true) ∧ Below w.heap.size w w' := by
 have H := h
 clear h
 unfold carillonlaw09_FrameGets.f at H
 refine calls_of_wp (fn := Try.f7) (by kernel_rfl) rfl ?_
 have hS := St.enter #[.string a0, .int .i64 a1] 78 (by simp) [(0, .string a0), (1, .int .i64 a1)] (by simp)
 have e7 := Below.refl w.heap.size w
 refine wp_seq_k (fun K1 e8 => ?_)
 refine reg_seq (I := I1_ w) (ps := [VB false]) (by kernel_rfl) ?_ ?_ rfl hS e7 ?_ ?_
 ·exact bs1
 ·exact .v (.nil)
 ·refine .on rfl (fun a w hS hI hp => does_val (x_assign rfl (rfl)) rfl) ?_
  exact .nil
 clear hS
 intro fI w3 hS fb hp
 clear hp
 refine e8 _ _ ?_
 refine wp_seq_k (fun K4 e9 => ?_)
 refine wp_seq_k (fun K5 fa => ?_)
 refine reg_seq (I := I2_ w w3) (ps := [IsV (.string a0), VI (a0.size : Int), VB (decide ((a0.size : Int) > 1000))]) (by kernel_rfl) ?_ ?_ rfl hS ⟨fb, (bR w3)⟩ ?_ ?_
 ·exact bs2
 ·exact .v (.v (.v (.nil)))
 ·refine .ms 0 rfl rfl rfl ?_
  refine .on rfl (fun a w hS hI hp => does_val (x_lenS rfl (by kernel_rfl) (hp.V 0 rfl rfl)) rfl) ?_
  refine .on rfl (fun a w hS hI hp => does_val (x_bin rfl (hp.V 1 rfl rfl) (rfl) (b_gtr _ _ _ _ _ _)) rfl) ?_
  exact .nil
 clear hS
 intro fJ w7 hS en hp
 have ee : sl _ 19 = .bool (decide ((a0.size : Int) > 1000)) := hp 2 (by decide)
 have hS := hS.cons ee
 clear hp ee
 refine fa _ _ ?_
 by_cases c1 : (a0.size : Int) > 1000
 ·rw [if_pos c1] at H
  obtain ⟨t9, ea, H⟩ := Option.bind_eq_some_iff.mp H
  have hret := Option.some.inj H
  clear H
  refine wp_cond_true ((hS.get 0 rfl).trans (bT (decide_eq_true c1))) ?_
  refine wp_seq_k (fun K8 eb => ?_)
  refine reg_seq (I := I2_ w w7) (ps := [VB t9, VB t9]) (by kernel_rfl) ?_ ?_ rfl hS ⟨en.1, (bR w7)⟩ ?_ ?_
  ·exact bs2
  ·exact .v (.v (.nil))
  ·refine .on rfl (fun a w hS hI hp => does_call (by kernel_rfl) rfl ((carillonlaw09_awake.calls k  t9 _  ea).mono fun _ _ h => ⟨_, h.1, h.2, rfl⟩)) ?_
   refine .asg 0 rfl rfl rfl ?_
   exact .nil
  clear hS
  intro eD cG hS cp hp
  replace hS := hS.nil
  have dB : sl _ 4 = .bool t9 := hp 1 (by decide)
  have hS := hS.cons dB
  clear hp dB
  refine eb _ _ ?_
  refine wp_ret ?_
  (try simp only [Exit.then, Exit.inBlock, Exit.jump, Exit.noGoto])
  exact bodyPost_ret (v := .bool true) (by rw [results_tmp rfl]; exact congrArg (Result.ok · _) ((hS.get 0 rfl).trans (congrArg Value.bool hret))) hS.nodef ⟨rfl, cp.1⟩
 rw [if_neg c1] at H
 obtain ⟨t9, ea, H⟩ := Option.bind_eq_some_iff.mp H
 obtain ⟨bW, bX, bY, bZ, ca, cb, cc, cd, ce, bD, bE, bG, bH, bI, bJ, bK, bL, bM, bN, bO, bP, bQ, bS, bs, aY⟩ := t9
 (try dsimp only at H)
 obtain ⟨fc, ex, H⟩ := Option.bind_eq_some_iff.mp H
 obtain ⟨bt, bu, bv, bw, bx, bz, bA, bB, bC, aK, aL, aM, aN, aO, aP, aQ, aR, aS, aT, aU, aV, aW, aX, ad, aa⟩ := fc
 (try dsimp only at H)
 obtain ⟨fd, ey, H⟩ := Option.bind_eq_some_iff.mp H
 obtain ⟨ba, bb, bc, bd, be, bf, bg, bh, bi, ae, af, ag, ah, ai, aj, ak, al, am, an, ao, ap, aq, ar, au, ab⟩ := fd
 (try dsimp only at H)
 obtain ⟨fe, ez, H⟩ := Option.bind_eq_some_iff.mp H
 obtain ⟨bj, bk, bl, bm, bn, bo, bp, bq, br, av, aw, ax, ay, az, aA, aB, aC, aD, aE, aF, aG, aH, aI, aJ, ac⟩ := fe
 (try dsimp only at H)
 by_cases c2 : ((bW == bt) && ((bX == bu) && ((bY == bv) && ((bZ == bw) && ((ca == bx) && ((cb == bz) && ((cc == bA) && ((cd == bB) && ((ce == bC) && ((bD == aK) && ((bE == aL) && ((bG == aM) && ((bH == aN) && ((bI == aO) && ((bJ == aP) && ((bK == aQ) && ((bL == aR) && ((bM == aS) && ((bN == aT) && ((bO == aU) && ((bP == aV) && ((bQ == aW) && (bS == aX))))))))))))))))))))))) = true
 rotate_left
 ·rw [if_neg c2] at H
  exact absurd H (by simp)
 rw [if_pos c2] at H
 obtain ⟨dC, eA, H⟩ := Option.bind_eq_some_iff.mp H
 by_cases c3 : dC = true
 rotate_left
 ·rw [if_neg c3] at H
  exact absurd H (by simp)
 rw [if_pos c3] at H
 by_cases c4 : aY = aa
 rotate_left
 ·rw [if_neg c4] at H
  exact absurd H (by simp)
 rw [if_pos c4] at H
 by_cases c5 : ((ba == bj) && ((bb == bk) && ((bc == bl) && ((bd == bm) && ((be == bn) && ((bf == bo) && ((bg == bp) && ((bh == bq) && ((bi == br) && ((ae == av) && ((af == aw) && ((ag == ax) && ((ah == ay) && ((ai == az) && ((aj == aA) && ((ak == aB) && ((al == aC) && ((am == aD) && ((an == aE) && ((ao == aF) && ((ap == aG) && ((aq == aH) && (ar == aI))))))))))))))))))))))) = true
 rotate_left
 ·rw [if_neg c5] at H
  exact absurd H (by simp)
 rw [if_pos c5] at H
 obtain ⟨dD, eB, H⟩ := Option.bind_eq_some_iff.mp H
 by_cases c6 : dD = true
 rotate_left
 ·rw [if_neg c6] at H
  exact absurd H (by simp)
 rw [if_pos c6] at H
 by_cases c7 : ab = ac
 rotate_left
 ·rw [if_neg c7] at H
  exact absurd H (by simp)
 rw [if_pos c7] at H
 obtain ⟨dE, eC, H⟩ := Option.bind_eq_some_iff.mp H
 have hret := Option.some.inj H
 clear H
 refine wp_cond_false ((hS.get 0 rfl).trans (bF (decide_eq_false c1))) ?_
 refine wp_skip ?_
 refine e9 _ _ ?_
 refine wp_seq_k (fun K8 eb => ?_)
 refine reg_seq_tail 7 (I := I2_ w w7) (ps := [IsV (.string a0), IsT (fun v0_ => #[(carillonlaw09_FrameGets.v0 bW bX bY bZ ca cb cc cd ce bD bE bG bH bI bJ bK bL bM bN bO bP bQ bS), v0_, .int .i64 aY]) (IsR k43 43 w7.heap.size bs), IsT (fun v0_ => #[(carillonlaw09_FrameGets.v0 bW bX bY bZ ca cb cc cd ce bD bE bG bH bI bJ bK bL bM bN bO bP bQ bS), v0_, .int .i64 aY]) (IsR k43 43 w7.heap.size bs), IsV ((carillonlaw09_FrameGets.v0 bW bX bY bZ ca cb cc cd ce bD bE bG bH bI bJ bK bL bM bN bO bP bQ bS)), IsR k43 43 w7.heap.size bs, VI aY, IsB (carillonlaw09_FrameGets.c1 0 0 0 0 0 0 0 0 0 0 0 0 0 0 0 0 0 0 0 0 0 0 0) 28 w7.heap.size]) (by kernel_rfl) ?_ ?_ rfl hS ⟨en.1, (bR w7)⟩ ?_ ?_
 ·exact bs2
 ·exact .v (.cons (Stays.t _ (Stays.r _ _ _ _)) (.cons (Stays.t _ (Stays.r _ _ _ _)) (.v (.cons (Stays.r _ _ _ _) (.v (.cons (Stays.b _ _ _) (.nil)))))))
 ·refine .ms 1 rfl rfl rfl ?_
  refine .on rfl (fun a w hS hI hp => does_call (by kernel_rfl) (ar1 (hp.V 0 rfl rfl)) ((frame_Get.calls k a0 bW bX bY bZ ca cb cc cd ce bD bE bG bH bI bJ bK bL bM bN bO bP bQ bS bs aY _  ea).mono fun _ _ h => h.elim fun v0 h => ⟨_, h.1, h.2.2, v0, rfl, Kd.R_lower h.2.1 hI.2.size⟩)) ?_
  refine .on rfl (fun a w hS hI hp => does_val (x_move rfl rfl) (hp.V 1 rfl rfl)) ?_
  refine .on rfl (fun a w hS hI hp => (hp.V 2 rfl rfl).elim fun v0 h0 => does_val (x_extract rfl h0.1 rfl) rfl) ?_
  refine .on rfl (fun a w hS hI hp => (hp.V 2 rfl rfl).elim fun v0 h0 => does_val (x_extract rfl h0.1 rfl) h0.2) ?_
  refine .on rfl (fun a w hS hI hp => (hp.V 2 rfl rfl).elim fun v0 h0 => does_val (x_extract rfl h0.1 rfl) rfl) ?_
  refine .on rfl (fun a w hS hI hp => does_var (x_alloc rfl (by kernel_rfl)) (hI.2).size) ?_
  exact .nil
 clear hS
 intro eD cG hS cp hp
 replace hS := ((hS.nil).cons (hS.get 2 rfl)).cons (hS.get 1 rfl)
 have ef : sl _ 24 = (carillonlaw09_FrameGets.v0 bW bX bY bZ ca cb cc cd ce bD bE bG bH bI bJ bK bL bM bN bO bP bQ bS) := hp 3 (by decide)
 obtain ⟨cH, cL, dS, eM, fw⟩ := Kd.R_reads (show Kd.R k43 43 cG w7.heap.size (fun _ => True) (sl _ 25) bs from hp 4 (by decide))
 have eQ : Kd.R k43 43 cG w7.heap.size (fun _ => True) (.slice cH bs.length cL) bs := dS ▸ (hp 4 (by decide))
 have eg : sl _ 26 = .int .i64 aY := hp 5 (by decide)
 obtain ⟨dW, et, dA, cj⟩ := (show IsB _ 28 _ (sl _ 5) _ from hp 6 (by decide))
 have hS := hS.cons ef
 have hS := hS.cons dS
 have hS := hS.cons eg
 have hS := hS.cons et
 clear hp ef dS eg et
 show wpList _ _ _ [_, _, _] _ _
 refine list_step rfl (does_storeAll (g := dW) (cs := (carillonlaw09_FrameGets.c1 bW bX bY bZ ca cb cc cd ce bD bE bG bH bI bJ bK bL bM bN bO bP bQ bS)) rfl (hS.get 0 rfl) (hS.get 3 rfl) (((bR cG).block dW (blk_lt cj)).trans cj) (by kernel_rfl) (by kernel_rfl) (by kernel_rfl)) ?_
 rintro fA dF ⟨rfl, dw, hT⟩
 have eR := hT.rowT rfl (((bR cG).block dW (blk_lt cj)).trans cj) (Kd.R_below eQ (bR cG)) (by decide)
 have eI := (Kd.R_reads' eR).2.2
 have d1 := hT.below cp.1 (Nat.le_trans (en.1).size dA) (cp.1).size
 have dJ := hT.below cp.2 dA (cp.2).size
 clear hT
 refine list_step rfl (R := fun v w' => Below _ _ w' ∧ (IsV (.slice cH bs.length cL)) v w') (does_val (x_assign rfl (hS.get 2 rfl)) rfl) ?_
 rintro eZ ff ⟨hb, he⟩
 have d2 := below_step d1 hb
 have dK := below_step dJ hb
 have cP := below_step (bR dF) hb
 obtain rfl : eZ = .slice cH bs.length cL := he
 refine hS.next (v := .slice cH bs.length cL) (d := 6) rfl (by decide) (by rfl) ?_
 clear hS
 intro fj hS
 refine list_step rfl (R := fun v w' => Below _ _ w' ∧ (VI aY) v w') (does_val (x_assign rfl (hS.get 2 rfl)) rfl) ?_
 rintro e0 ch ⟨hb, he⟩
 have cD := below_step d2 hb
 have cA := below_step dK hb
 have cq := below_step cP hb
 have ep := below_step (bR ff) hb
 obtain rfl : e0 = .int .i64 aY := he
 refine hS.next (v := .int .i64 aY) (d := 7) rfl (by decide) (by rfl) ?_
 clear hS
 intro fk hS
 refine wpList_nil ?_
 refine eb _ _ ?_
 refine wp_seq_k (fun fE eE => ?_)
 refine reg_seq_tail 7 (I := I4_ w w7 dF ch) (ps := [IsV (.string a0), IsT (fun v0_ => #[(carillonlaw09_FrameGets.v0 bt bu bv bw bx bz bA bB bC aK aL aM aN aO aP aQ aR aS aT aU aV aW aX), v0_, .int .i64 aa]) (IsR k43 43 ch.heap.size ad), IsT (fun v0_ => #[(carillonlaw09_FrameGets.v0 bt bu bv bw bx bz bA bB bC aK aL aM aN aO aP aQ aR aS aT aU aV aW aX), v0_, .int .i64 aa]) (IsR k43 43 ch.heap.size ad), IsV ((carillonlaw09_FrameGets.v0 bt bu bv bw bx bz bA bB bC aK aL aM aN aO aP aQ aR aS aT aU aV aW aX)), IsR k43 43 ch.heap.size ad, VI aa, IsB (carillonlaw09_FrameGets.c1 0 0 0 0 0 0 0 0 0 0 0 0 0 0 0 0 0 0 0 0 0 0 0) 28 ch.heap.size]) (by kernel_rfl) ?_ ?_ rfl hS ⟨cD, cA, cq, (bR ch)⟩ ?_ ?_
 ·exact bs4
 ·exact .v (.cons (Stays.t _ (Stays.r _ _ _ _)) (.cons (Stays.t _ (Stays.r _ _ _ _)) (.v (.cons (Stays.r _ _ _ _) (.v (.cons (Stays.b _ _ _) (.nil)))))))
 ·refine .ms 6 rfl rfl rfl ?_
  refine .on rfl (fun a w hS hI hp => does_call (by kernel_rfl) (ar1 (hp.V 0 rfl rfl)) ((carillonref09_Get.calls k a0 bt bu bv bw bx bz bA bB bC aK aL aM aN aO aP aQ aR aS aT aU aV aW aX ad aa _  ex).mono fun _ _ h => h.elim fun v0 h => ⟨_, h.1, h.2.2, v0, rfl, Kd.R_lower h.2.1 hI.2.2.2.size⟩)) ?_
  refine .on rfl (fun a w hS hI hp => does_val (x_move rfl rfl) (hp.V 1 rfl rfl)) ?_
  refine .on rfl (fun a w hS hI hp => (hp.V 2 rfl rfl).elim fun v0 h0 => does_val (x_extract rfl h0.1 rfl) rfl) ?_
  refine .on rfl (fun a w hS hI hp => (hp.V 2 rfl rfl).elim fun v0 h0 => does_val (x_extract rfl h0.1 rfl) h0.2) ?_
  refine .on rfl (fun a w hS hI hp => (hp.V 2 rfl rfl).elim fun v0 h0 => does_val (x_extract rfl h0.1 rfl) rfl) ?_
  refine .on rfl (fun a w hS hI hp => does_var (x_alloc rfl (by kernel_rfl)) (hI.2.2.2).size) ?_
  exact .nil
 clear hS
 intro fl dG hS cg hp
 replace hS := (((((hS.nil).cons (hS.get 7 rfl)).cons (hS.get 6 rfl)).cons (hS.get 2 rfl)).cons (hS.get 1 rfl)).cons (hS.get 0 rfl)
 have eh : sl _ 30 = (carillonlaw09_FrameGets.v0 bt bu bv bw bx bz bA bB bC aK aL aM aN aO aP aQ aR aS aT aU aV aW aX) := hp 3 (by decide)
 obtain ⟨cI, cM, dT, eN, fx⟩ := Kd.R_reads (show Kd.R k43 43 dG ch.heap.size (fun _ => True) (sl _ 31) ad from hp 4 (by decide))
 have eS : Kd.R k43 43 dG ch.heap.size (fun _ => True) (.slice cI ad.length cM) ad := dT ▸ (hp 4 (by decide))
 have ei : sl _ 32 = .int .i64 aa := hp 5 (by decide)
 obtain ⟨dX, eu, cn, ck⟩ := (show IsB _ 28 _ (sl _ 8) _ from hp 6 (by decide))
 have hS := hS.cons eh
 have hS := hS.cons dT
 have hS := hS.cons ei
 have hS := hS.cons eu
 clear hp eh dT ei eu
 show wpList _ _ _ [_, _, _] _ _
 refine list_step rfl (does_storeAll (g := dX) (cs := (carillonlaw09_FrameGets.c1 bt bu bv bw bx bz bA bB bC aK aL aM aN aO aP aQ aR aS aT aU aV aW aX)) rfl (hS.get 0 rfl) (hS.get 3 rfl) (((bR dG).block dX (blk_lt ck)).trans ck) (by kernel_rfl) (by kernel_rfl) (by kernel_rfl)) ?_
 rintro fB d0 ⟨rfl, dx, hT⟩
 have eT := hT.rowT rfl (((bR dG).block dX (blk_lt ck)).trans ck) (Kd.R_below eS (bR dG)) (by decide)
 have eJ := (Kd.R_reads' eT).2.2
 have d3 := hT.below cg.1 (Nat.le_trans (cD).size cn) (cg.1).size
 have dL := hT.below cg.2.1 (Nat.le_trans (cA).size cn) (cg.2.1).size
 have cQ := hT.below cg.2.2.1 (Nat.le_trans (cq).size cn) (cg.2.2.1).size
 have cR := hT.below cg.2.2.2 cn (cg.2.2.2).size
 clear hT
 refine list_step rfl (R := fun v w' => Below _ _ w' ∧ (IsV (.slice cI ad.length cM)) v w') (does_val (x_assign rfl (hS.get 2 rfl)) rfl) ?_
 rintro e1 fg ⟨hb, he⟩
 have d4 := below_step d3 hb
 have dM := below_step dL hb
 have cS := below_step cQ hb
 have cT := below_step cR hb
 have cU := below_step (bR d0) hb
 obtain rfl : e1 = .slice cI ad.length cM := he
 refine hS.next (v := .slice cI ad.length cM) (d := 9) rfl (by decide) (by rfl) ?_
 clear hS
 intro fm hS
 refine list_step rfl (R := fun v w' => Below _ _ w' ∧ (VI aa) v w') (does_val (x_assign rfl (hS.get 2 rfl)) rfl) ?_
 rintro e2 ci ⟨hb, he⟩
 have cE := below_step d4 hb
 have cB := below_step dM hb
 have cr := below_step cS hb
 have ct := below_step cT hb
 have cu := below_step cU hb
 have eq := below_step (bR fg) hb
 obtain rfl : e2 = .int .i64 aa := he
 refine hS.next (v := .int .i64 aa) (d := 10) rfl (by decide) (by rfl) ?_
 clear hS
 intro fo hS
 refine wpList_nil ?_
 refine eE _ _ ?_
 refine wp_seq_k (fun fF eF => ?_)
 refine reg_seq_tail 8 (I := I6_ w w7 dF ch d0 ci) (ps := [IsV (.string a0), VI a1, IsT (fun v0_ => #[(carillonlaw09_FrameGets.v0 ba bb bc bd be bf bg bh bi ae af ag ah ai aj ak al am an ao ap aq ar), v0_, .int .i64 ab]) (IsR k43 43 ci.heap.size au), IsT (fun v0_ => #[(carillonlaw09_FrameGets.v0 ba bb bc bd be bf bg bh bi ae af ag ah ai aj ak al am an ao ap aq ar), v0_, .int .i64 ab]) (IsR k43 43 ci.heap.size au), IsV ((carillonlaw09_FrameGets.v0 ba bb bc bd be bf bg bh bi ae af ag ah ai aj ak al am an ao ap aq ar)), IsR k43 43 ci.heap.size au, VI ab, IsB (carillonlaw09_FrameGets.c1 0 0 0 0 0 0 0 0 0 0 0 0 0 0 0 0 0 0 0 0 0 0 0) 28 ci.heap.size]) (by kernel_rfl) ?_ ?_ rfl hS ⟨cE, cB, cr, ct, cu, (bR ci)⟩ ?_ ?_
 ·exact bs6
 ·exact .v (.v (.cons (Stays.t _ (Stays.r _ _ _ _)) (.cons (Stays.t _ (Stays.r _ _ _ _)) (.v (.cons (Stays.r _ _ _ _) (.v (.cons (Stays.b _ _ _) (.nil))))))))
 ·refine .ms 9 rfl rfl rfl ?_
  refine .ms 10 rfl rfl rfl ?_
  refine .on rfl (fun a w hS hI hp => does_call (by kernel_rfl) (ar2 (hp.V 0 rfl rfl) (hp.V 1 rfl rfl)) ((frame_Here.calls k a0 a1 ba bb bc bd be bf bg bh bi ae af ag ah ai aj ak al am an ao ap aq ar au ab _  ey).mono fun _ _ h => h.elim fun v0 h => ⟨_, h.1, h.2.2, v0, rfl, Kd.R_lower h.2.1 hI.2.2.2.2.2.size⟩)) ?_
  refine .on rfl (fun a w hS hI hp => does_val (x_move rfl rfl) (hp.V 2 rfl rfl)) ?_
  refine .on rfl (fun a w hS hI hp => (hp.V 3 rfl rfl).elim fun v0 h0 => does_val (x_extract rfl h0.1 rfl) rfl) ?_
  refine .on rfl (fun a w hS hI hp => (hp.V 3 rfl rfl).elim fun v0 h0 => does_val (x_extract rfl h0.1 rfl) h0.2) ?_
  refine .on rfl (fun a w hS hI hp => (hp.V 3 rfl rfl).elim fun v0 h0 => does_val (x_extract rfl h0.1 rfl) rfl) ?_
  refine .on rfl (fun a w hS hI hp => does_var (x_alloc rfl (by kernel_rfl)) (hI.2.2.2.2.2).size) ?_
  exact .nil
 clear hS
 intro fp dH hS bV hp
 replace hS := ((((((((hS.nil).cons (hS.get 10 rfl)).cons (hS.get 9 rfl)).cons (hS.get 8 rfl)).cons (hS.get 7 rfl)).cons (hS.get 6 rfl)).cons (hS.get 2 rfl)).cons (hS.get 1 rfl)).cons (hS.get 0 rfl)
 have ej : sl _ 37 = (carillonlaw09_FrameGets.v0 ba bb bc bd be bf bg bh bi ae af ag ah ai aj ak al am an ao ap aq ar) := hp 4 (by decide)
 obtain ⟨cJ, cN, dU, eO, fy⟩ := Kd.R_reads (show Kd.R k43 43 dH ci.heap.size (fun _ => True) (sl _ 38) au from hp 5 (by decide))
 have eU : Kd.R k43 43 dH ci.heap.size (fun _ => True) (.slice cJ au.length cN) au := dU ▸ (hp 5 (by decide))
 have ek : sl _ 39 = .int .i64 ab := hp 6 (by decide)
 obtain ⟨dY, ec, cf, cl⟩ := (show IsB _ 28 _ (sl _ 11) _ from hp 7 (by decide))
 have hS := hS.cons ej
 have hS := hS.cons dU
 have hS := hS.cons ek
 have hS := hS.cons ec
 clear hp ej dU ek ec
 show wpList _ _ _ [_, _, _] _ _
 refine list_step rfl (does_storeAll (g := dY) (cs := (carillonlaw09_FrameGets.c1 ba bb bc bd be bf bg bh bi ae af ag ah ai aj ak al am an ao ap aq ar)) rfl (hS.get 0 rfl) (hS.get 3 rfl) (((bR dH).block dY (blk_lt cl)).trans cl) (by kernel_rfl) (by kernel_rfl) (by kernel_rfl)) ?_
 rintro fC eo ⟨rfl, dy, hT⟩
 have eV := hT.rowT rfl (((bR dH).block dY (blk_lt cl)).trans cl) (Kd.R_below eU (bR dH)) (by decide)
 have eK := (Kd.R_reads' eV).2.2
 have d5 := hT.below bV.1 (Nat.le_trans (cE).size cf) (bV.1).size
 have dN := hT.below bV.2.1 (Nat.le_trans (cB).size cf) (bV.2.1).size
 have cV := hT.below bV.2.2.1 (Nat.le_trans (cr).size cf) (bV.2.2.1).size
 have cW := hT.below bV.2.2.2.1 (Nat.le_trans (ct).size cf) (bV.2.2.2.1).size
 have cX := hT.below bV.2.2.2.2.1 (Nat.le_trans (cu).size cf) (bV.2.2.2.2.1).size
 have cY := hT.below bV.2.2.2.2.2 cf (bV.2.2.2.2.2).size
 clear hT
 refine list_step rfl (R := fun v w' => Below _ _ w' ∧ (IsV (.slice cJ au.length cN)) v w') (does_val (x_assign rfl (hS.get 2 rfl)) rfl) ?_
 rintro e3 fh ⟨hb, he⟩
 have d6 := below_step d5 hb
 have dO := below_step dN hb
 have cZ := below_step cV hb
 have c0 := below_step cW hb
 have c8 := below_step cX hb
 have c9 := below_step cY hb
 have da := below_step (bR eo) hb
 obtain rfl : e3 = .slice cJ au.length cN := he
 refine hS.next (v := .slice cJ au.length cN) (d := 12) rfl (by decide) (by rfl) ?_
 clear hS
 intro fq hS
 refine list_step rfl (R := fun v w' => Below _ _ w' ∧ (VI ab) v w') (does_val (x_assign rfl (hS.get 2 rfl)) rfl) ?_
 rintro e4 co ⟨hb, he⟩
 have cF := below_step d6 hb
 have cC := below_step dO hb
 have cv := below_step cZ hb
 have cw := below_step c0 hb
 have cx := below_step c8 hb
 have cy := below_step c9 hb
 have cz := below_step da hb
 have er := below_step (bR fh) hb
 obtain rfl : e4 = .int .i64 ab := he
 refine hS.next (v := .int .i64 ab) (d := 13) rfl (by decide) (by rfl) ?_
 clear hS
 intro fr hS
 refine wpList_nil ?_
 refine eF _ _ ?_
 refine wp_seq_k (fun fG eG => ?_)
 refine reg_seq_tail 8 (I := I8_ w w7 dF ch d0 ci eo co) (ps := [IsV (.string a0), VI a1, IsT (fun v0_ => #[(carillonlaw09_FrameGets.v0 bj bk bl bm bn bo bp bq br av aw ax ay az aA aB aC aD aE aF aG aH aI), v0_, .int .i64 ac]) (IsR k43 43 co.heap.size aJ), IsT (fun v0_ => #[(carillonlaw09_FrameGets.v0 bj bk bl bm bn bo bp bq br av aw ax ay az aA aB aC aD aE aF aG aH aI), v0_, .int .i64 ac]) (IsR k43 43 co.heap.size aJ), IsV ((carillonlaw09_FrameGets.v0 bj bk bl bm bn bo bp bq br av aw ax ay az aA aB aC aD aE aF aG aH aI)), IsR k43 43 co.heap.size aJ, VI ac, IsB (carillonlaw09_FrameGets.c1 0 0 0 0 0 0 0 0 0 0 0 0 0 0 0 0 0 0 0 0 0 0 0) 28 co.heap.size]) (by kernel_rfl) ?_ ?_ rfl hS ⟨cF, cC, cv, cw, cx, cy, cz, (bR co)⟩ ?_ ?_
 ·exact bs8
 ·exact .v (.v (.cons (Stays.t _ (Stays.r _ _ _ _)) (.cons (Stays.t _ (Stays.r _ _ _ _)) (.v (.cons (Stays.r _ _ _ _) (.v (.cons (Stays.b _ _ _) (.nil))))))))
 ·refine .ms 12 rfl rfl rfl ?_
  refine .ms 13 rfl rfl rfl ?_
  refine .on rfl (fun a w hS hI hp => does_call (by kernel_rfl) (ar2 (hp.V 0 rfl rfl) (hp.V 1 rfl rfl)) ((carillonref09_Here.calls k a0 a1 bj bk bl bm bn bo bp bq br av aw ax ay az aA aB aC aD aE aF aG aH aI aJ ac _  ez).mono fun _ _ h => h.elim fun v0 h => ⟨_, h.1, h.2.2, v0, rfl, Kd.R_lower h.2.1 hI.2.2.2.2.2.2.2.size⟩)) ?_
  refine .on rfl (fun a w hS hI hp => does_val (x_move rfl rfl) (hp.V 2 rfl rfl)) ?_
  refine .on rfl (fun a w hS hI hp => (hp.V 3 rfl rfl).elim fun v0 h0 => does_val (x_extract rfl h0.1 rfl) rfl) ?_
  refine .on rfl (fun a w hS hI hp => (hp.V 3 rfl rfl).elim fun v0 h0 => does_val (x_extract rfl h0.1 rfl) h0.2) ?_
  refine .on rfl (fun a w hS hI hp => (hp.V 3 rfl rfl).elim fun v0 h0 => does_val (x_extract rfl h0.1 rfl) rfl) ?_
  refine .on rfl (fun a w hS hI hp => does_var (x_alloc rfl (by kernel_rfl)) (hI.2.2.2.2.2.2.2).size) ?_
  exact .nil
 clear hS
 intro fs dI hS aZ hp
 replace hS := (((((((((hS.nil).cons (hS.get 11 rfl)).cons (hS.get 10 rfl)).cons (hS.get 9 rfl)).cons (hS.get 8 rfl)).cons (hS.get 7 rfl)).cons (hS.get 6 rfl)).cons (hS.get 2 rfl)).cons (hS.get 1 rfl)).cons (hS.get 0 rfl)
 have el : sl _ 44 = (carillonlaw09_FrameGets.v0 bj bk bl bm bn bo bp bq br av aw ax ay az aA aB aC aD aE aF aG aH aI) := hp 4 (by decide)
 obtain ⟨cK, cO, dV, eP, fz⟩ := Kd.R_reads (show Kd.R k43 43 dI co.heap.size (fun _ => True) (sl _ 45) aJ from hp 5 (by decide))
 have eW : Kd.R k43 43 dI co.heap.size (fun _ => True) (.slice cK aJ.length cO) aJ := dV ▸ (hp 5 (by decide))
 have em : sl _ 46 = .int .i64 ac := hp 6 (by decide)
 obtain ⟨dZ, ed, bU, cm⟩ := (show IsB _ 28 _ (sl _ 14) _ from hp 7 (by decide))
 have hS := hS.cons el
 have hS := hS.cons dV
 have hS := hS.cons em
 have hS := hS.cons ed
 clear hp el dV em ed
 show wpList _ _ _ [_, _, _] _ _
 refine list_step rfl (does_storeAll (g := dZ) (cs := (carillonlaw09_FrameGets.c1 bj bk bl bm bn bo bp bq br av aw ax ay az aA aB aC aD aE aF aG aH aI)) rfl (hS.get 0 rfl) (hS.get 3 rfl) (((bR dI).block dZ (blk_lt cm)).trans cm) (by kernel_rfl) (by kernel_rfl) (by kernel_rfl)) ?_
 rintro fD ev ⟨rfl, dz, hT⟩
 have eX := hT.rowT rfl (((bR dI).block dZ (blk_lt cm)).trans cm) (Kd.R_below eW (bR dI)) (by decide)
 have eL := (Kd.R_reads' eX).2.2
 have d7 := hT.below aZ.1 (Nat.le_trans (cF).size bU) (aZ.1).size
 have dP := hT.below aZ.2.1 (Nat.le_trans (cC).size bU) (aZ.2.1).size
 have db := hT.below aZ.2.2.1 (Nat.le_trans (cv).size bU) (aZ.2.2.1).size
 have dc := hT.below aZ.2.2.2.1 (Nat.le_trans (cw).size bU) (aZ.2.2.2.1).size
 have dd := hT.below aZ.2.2.2.2.1 (Nat.le_trans (cx).size bU) (aZ.2.2.2.2.1).size
 have de := hT.below aZ.2.2.2.2.2.1 (Nat.le_trans (cy).size bU) (aZ.2.2.2.2.2.1).size
 have df := hT.below aZ.2.2.2.2.2.2.1 (Nat.le_trans (cz).size bU) (aZ.2.2.2.2.2.2.1).size
 have dg := hT.below aZ.2.2.2.2.2.2.2 bU (aZ.2.2.2.2.2.2.2).size
 clear hT
 refine list_step rfl (R := fun v w' => Below _ _ w' ∧ (IsV (.slice cK aJ.length cO)) v w') (does_val (x_assign rfl (hS.get 2 rfl)) rfl) ?_
 rintro e5 fi ⟨hb, he⟩
 have d8 := below_step d7 hb
 have dQ := below_step dP hb
 have dh := below_step db hb
 have di := below_step dc hb
 have dj := below_step dd hb
 have dk := below_step de hb
 have dl := below_step df hb
 have dm := below_step dg hb
 have dn := below_step (bR ev) hb
 obtain rfl : e5 = .slice cK aJ.length cO := he
 refine hS.next (v := .slice cK aJ.length cO) (d := 15) rfl (by decide) (by rfl) ?_
 clear hS
 intro ft hS
 refine list_step rfl (R := fun v w' => Below _ _ w' ∧ (VI ac) v w') (does_val (x_assign rfl (hS.get 2 rfl)) rfl) ?_
 rintro e6 ew ⟨hb, he⟩
 have d9 := below_step d8 hb
 have dR := below_step dQ hb
 have dp := below_step dh hb
 have dq := below_step di hb
 have dr := below_step dj hb
 have ds := below_step dk hb
 have dt := below_step dl hb
 have du := below_step dm hb
 have dv := below_step dn hb
 have es := below_step (bR fi) hb
 obtain rfl : e6 = .int .i64 ac := he
 refine hS.next (v := .int .i64 ac) (d := 16) rfl (by decide) (by rfl) ?_
 clear hS
 intro fu hS
 refine wpList_nil ?_
 refine eG _ _ ?_
 refine wp_seq_k (fun fH eH => ?_)
 refine reg_seq (I := I10_ w w7 dF ch d0 ci eo co ev ew) (ps := [IsV ((carillonlaw09_FrameGets.v0 bW bX bY bZ ca cb cc cd ce bD bE bG bH bI bJ bK bL bM bN bO bP bQ bS)), IsV ((carillonlaw09_FrameGets.v0 bt bu bv bw bx bz bA bB bC aK aL aM aN aO aP aQ aR aS aT aU aV aW aX)), VB ((bW == bt) && ((bX == bu) && ((bY == bv) && ((bZ == bw) && ((ca == bx) && ((cb == bz) && ((cc == bA) && ((cd == bB) && ((ce == bC) && ((bD == aK) && ((bE == aL) && ((bG == aM) && ((bH == aN) && ((bI == aO) && ((bJ == aP) && ((bK == aQ) && ((bL == aR) && ((bM == aS) && ((bN == aT) && ((bO == aU) && ((bP == aV) && ((bQ == aW) && (bS == aX))))))))))))))))))))))), VB ((bW == bt) && ((bX == bu) && ((bY == bv) && ((bZ == bw) && ((ca == bx) && ((cb == bz) && ((cc == bA) && ((cd == bB) && ((ce == bC) && ((bD == aK) && ((bE == aL) && ((bG == aM) && ((bH == aN) && ((bI == aO) && ((bJ == aP) && ((bK == aQ) && ((bL == aR) && ((bM == aS) && ((bN == aT) && ((bO == aU) && ((bP == aV) && ((bQ == aW) && (bS == aX))))))))))))))))))))))), IsV (.slice cH bs.length cL), IsV (.slice cI ad.length cM), VB dC, VB dC, VB dC, VI aY, VI aa, VB (decide (aY = aa)), VB (decide (aY = aa)), VB (decide (aY = aa)), IsV ((carillonlaw09_FrameGets.v0 ba bb bc bd be bf bg bh bi ae af ag ah ai aj ak al am an ao ap aq ar)), IsV ((carillonlaw09_FrameGets.v0 bj bk bl bm bn bo bp bq br av aw ax ay az aA aB aC aD aE aF aG aH aI)), VB ((ba == bj) && ((bb == bk) && ((bc == bl) && ((bd == bm) && ((be == bn) && ((bf == bo) && ((bg == bp) && ((bh == bq) && ((bi == br) && ((ae == av) && ((af == aw) && ((ag == ax) && ((ah == ay) && ((ai == az) && ((aj == aA) && ((ak == aB) && ((al == aC) && ((am == aD) && ((an == aE) && ((ao == aF) && ((ap == aG) && ((aq == aH) && (ar == aI))))))))))))))))))))))), VB ((ba == bj) && ((bb == bk) && ((bc == bl) && ((bd == bm) && ((be == bn) && ((bf == bo) && ((bg == bp) && ((bh == bq) && ((bi == br) && ((ae == av) && ((af == aw) && ((ag == ax) && ((ah == ay) && ((ai == az) && ((aj == aA) && ((ak == aB) && ((al == aC) && ((am == aD) && ((an == aE) && ((ao == aF) && ((ap == aG) && ((aq == aH) && (ar == aI))))))))))))))))))))))), VB ((ba == bj) && ((bb == bk) && ((bc == bl) && ((bd == bm) && ((be == bn) && ((bf == bo) && ((bg == bp) && ((bh == bq) && ((bi == br) && ((ae == av) && ((af == aw) && ((ag == ax) && ((ah == ay) && ((ai == az) && ((aj == aA) && ((ak == aB) && ((al == aC) && ((am == aD) && ((an == aE) && ((ao == aF) && ((ap == aG) && ((aq == aH) && (ar == aI))))))))))))))))))))))), IsV (.slice cJ au.length cN), IsV (.slice cK aJ.length cO), VB dD, VB dD, VB dD, VI ab, VI ac, VB (decide (ab = ac)), VB (decide (ab = ac)), VB (decide (ab = ac)), VB dE, VB dE, VB dE]) (by kernel_rfl) ?_ ?_ rfl hS ⟨d9, dR, dp, dq, dr, ds, dt, du, dv, (bR ew)⟩ ?_ ?_
 ·exact bs10
 ·exact .v (.v (.v (.v (.v (.v (.v (.v (.v (.v (.v (.v (.v (.v (.v (.v (.v (.v (.v (.v (.v (.v (.v (.v (.v (.v (.v (.v (.v (.v (.v (.v (.nil))))))))))))))))))))))))))))))))
 ·refine .on rfl (fun a w hS hI hp => does_loadrow rfl (hS.get 14 rfl) (((hI.2.2.1).block dW (blk_lt dw)).trans dw) Try.underlying28 rfl (by kernel_rfl) rfl) ?_
  refine .on rfl (fun a w hS hI hp => does_loadrow rfl (hS.get 11 rfl) (((hI.2.2.2.2.1).block dX (blk_lt dx)).trans dx) Try.underlying28 rfl (by kernel_rfl) rfl) ?_
  refine .on rfl (fun a w hS hI hp => does_val (x_bin rfl (hp.V 0 rfl rfl) (hp.V 1 rfl rfl) (carillonlaw09_FrameGets.eql28 _ _ _ bW bX bY bZ ca cb cc cd ce bD bE bG bH bI bJ bK bL bM bN bO bP bQ bS bt bu bv bw bx bz bA bB bC aK aL aM aN aO aP aQ aR aS aT aU aV aW aX)) rfl) ?_
  refine .mv 2 rfl rfl rfl ?_
  refine .oy 3 50 rfl rfl c2 (fun a w hS hI hp => does_val (x_move rfl (hS.get 13 rfl)) rfl) ?_
  refine .oy 3 50 rfl rfl c2 (fun a w hS hI hp => does_val (x_move rfl (hS.get 10 rfl)) rfl) ?_
  refine .oy 3 50 rfl rfl c2 (fun a w hS hI hp => does_call (by kernel_rfl) (ar2 (hp.V 4 rfl rfl) (hp.V 5 rfl rfl)) ((carillonlaw00_SameTlvs.calls k _ _ bs _ _ ad dC _ (Kd.C_below eI hI.2.2.1) eM (Kd.C_below eJ hI.2.2.2.2.1) eN eA).mono fun _ _ h => ⟨_, h.1, h.2.below, rfl⟩)) ?_
  refine .pt 3 6 rfl rfl rfl c2 rfl ?_
  refine .mv 7 rfl rfl rfl ?_
  refine .oy 8 55 rfl rfl c3 (fun a w hS hI hp => does_val (x_move rfl (hS.get 12 rfl)) rfl) ?_
  refine .oy 8 55 rfl rfl c3 (fun a w hS hI hp => does_val (x_move rfl (hS.get 9 rfl)) rfl) ?_
  refine .oy 8 55 rfl rfl c3 (fun a w hS hI hp => does_val (x_bin rfl (hp.V 9 rfl rfl) (hp.V 10 rfl rfl) (b_eql _ _ _ _ _ _)) rfl) ?_
  refine .pt 8 11 rfl rfl rfl c3 rfl ?_
  refine .mv 12 rfl rfl rfl ?_
  refine .oy 13 60 rfl rfl ((decide_eq_true c4)) (fun a w hS hI hp => does_loadrow rfl (hS.get 8 rfl) (((hI.2.2.2.2.2.2.1).block dY (blk_lt dy)).trans dy) Try.underlying28 rfl (by kernel_rfl) rfl) ?_
  refine .oy 13 60 rfl rfl ((decide_eq_true c4)) (fun a w hS hI hp => does_loadrow rfl (hS.get 2 rfl) (((hI.2.2.2.2.2.2.2.2.1).block dZ (blk_lt dz)).trans dz) Try.underlying28 rfl (by kernel_rfl) rfl) ?_
  refine .oy 13 60 rfl rfl ((decide_eq_true c4)) (fun a w hS hI hp => does_val (x_bin rfl (hp.V 14 rfl rfl) (hp.V 15 rfl rfl) (carillonlaw09_FrameGets.eql28 _ _ _ ba bb bc bd be bf bg bh bi ae af ag ah ai aj ak al am an ao ap aq ar bj bk bl bm bn bo bp bq br av aw ax ay az aA aB aC aD aE aF aG aH aI)) rfl) ?_
  refine .pt 13 16 rfl rfl rfl ((decide_eq_true c4)) rfl ?_
  refine .mv 17 rfl rfl rfl ?_
  refine .oy 18 65 rfl rfl c5 (fun a w hS hI hp => does_val (x_move rfl (hS.get 7 rfl)) rfl) ?_
  refine .oy 18 65 rfl rfl c5 (fun a w hS hI hp => does_val (x_move rfl (hS.get 1 rfl)) rfl) ?_
  refine .oy 18 65 rfl rfl c5 (fun a w hS hI hp => does_call (by kernel_rfl) (ar2 (hp.V 19 rfl rfl) (hp.V 20 rfl rfl)) ((carillonlaw00_SameTlvs.calls k _ _ au _ _ aJ dD _ (Kd.C_below eK hI.2.2.2.2.2.2.1) eO (Kd.C_below eL hI.2.2.2.2.2.2.2.2.1) eP eB).mono fun _ _ h => ⟨_, h.1, h.2.below, rfl⟩)) ?_
  refine .pt 18 21 rfl rfl rfl c5 rfl ?_
  refine .mv 22 rfl rfl rfl ?_
  refine .oy 23 70 rfl rfl c6 (fun a w hS hI hp => does_val (x_move rfl (hS.get 6 rfl)) rfl) ?_
  refine .oy 23 70 rfl rfl c6 (fun a w hS hI hp => does_val (x_move rfl (hS.get 0 rfl)) rfl) ?_
  refine .oy 23 70 rfl rfl c6 (fun a w hS hI hp => does_val (x_bin rfl (hp.V 24 rfl rfl) (hp.V 25 rfl rfl) (b_eql _ _ _ _ _ _)) rfl) ?_
  refine .pt 23 26 rfl rfl rfl c6 rfl ?_
  refine .mv 27 rfl rfl rfl ?_
  refine .oy 28 75 rfl rfl ((decide_eq_true c7)) (fun a w hS hI hp => does_call (by kernel_rfl) rfl ((carillonlaw09_awake.calls k  dE _  eC).mono fun _ _ h => ⟨_, h.1, h.2, rfl⟩)) ?_
  refine .pt 28 29 rfl rfl rfl ((decide_eq_true c7)) rfl ?_
  refine .asg 30 rfl rfl rfl ?_
  exact .nil
 clear hS
 intro fv fK hS eY hp
 replace hS := hS.nil
 have dB : sl _ 4 = .bool dE := hp 31 (by decide)
 have hS := hS.cons dB
 clear hp dB
 refine eH _ _ ?_
 refine wp_ret ?_
 (try simp only [Exit.then, Exit.inBlock, Exit.jump, Exit.noGoto])
 exact bodyPost_ret (v := .bool true) (by rw [results_tmp rfl]; exact congrArg (Result.ok · _) ((hS.get 0 rfl).trans (congrArg Value.bool hret))) hS.nodef ⟨rfl, eY.1⟩
def carillonlaw09_FrameGets.Pure : Prop := ∀ (a0 : ByteArray) (a1 : Int), a0.size ≤ 140737488351232 → (Lit.int .i64 a1).wf = true → ∃ k, carillonlaw09_FrameGets.f k a0 a1 = some true
theorem carillonlaw09_FrameGets.walk (P : carillonlaw09_FrameGets.Pure) (a0 : ByteArray) (a1 : Int) (w : World) (w0 : a0.size ≤ 140737488351232) (w1 : (Lit.int .i64 a1).wf = true) :
  Calls Try.prog 7 #[.string a0, .int .i64 a1] w fun e w' => e = .returned (.bool true) ∧ Below w.heap.size w w' := by
 obtain ⟨k, h⟩ := P a0 a1 w0 w1
 refine (carillonlaw09_FrameGets.calls k a0 a1 w  h).mono ?_
 rintro e w' ⟨rfl, hd⟩
 exact ⟨rfl, hd⟩
end Go.Proofs.Ytiomlbkakiienaa.P
