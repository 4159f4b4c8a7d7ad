/- Functions and loops of the given program as Lean functions, and that the code comes to what they say: written by this session's own program; Lean checks it. -/
import Derived.Test.YtiomlbkakiienaaZzPx0
import Derived.Test.YtiomlbkakiienaaZzPx11
import Derived.Test.YtiomlbkakiienaaZzPx17
namespace Go.Proofs.Ytiomlbkakiienaa.P
open Go.RowKit Go.Proofs.YtiomlbkakiienaaW.PrintWords Go.Proofs.YtiomlbkakiienaaW.PrintLast Go.Proofs.YtiomlbkakiienaaW.PrintMore
attribute [local go_sem] max2_int min2_int max_two min_two max_three min_three max_four min_four   -- for this text's walks alone
set_option linter.unusedVariables false
set_option linter.unusedSimpArgs false
/-! ### carillonref09_Get: function 17: by our own printer -/
/-! ### frame_Here: function 18: by our own printer -/
def frame_Here.f (k : Nat) (a0 : ByteArray) (a1 : Int) : Option (Int × Int × Int × Int × Int × Int × Int × Int × Int × Int × Int × Int × Int × Int × Int × Int × Int × Int × Int × Int × Int × Int × Int × List (S43) × Int) := (frame_Get.f k a0).bind fun t6 => (if t6.2.2.2.2.2.2.2.2.2.2.2.2.2.2.2.2.2.2.2.2.2.2.2.2 = 0 then (if t6.2.1 = a1 then (some (t6.1, t6.2.1, t6.2.2.1, t6.2.2.2.1, t6.2.2.2.2.1, t6.2.2.2.2.2.1, t6.2.2.2.2.2.2.1, t6.2.2.2.2.2.2.2.1, t6.2.2.2.2.2.2.2.2.1, t6.2.2.2.2.2.2.2.2.2.1, t6.2.2.2.2.2.2.2.2.2.2.1, t6.2.2.2.2.2.2.2.2.2.2.2.1, t6.2.2.2.2.2.2.2.2.2.2.2.2.1, t6.2.2.2.2.2.2.2.2.2.2.2.2.2.1, t6.2.2.2.2.2.2.2.2.2.2.2.2.2.2.1, t6.2.2.2.2.2.2.2.2.2.2.2.2.2.2.2.1, t6.2.2.2.2.2.2.2.2.2.2.2.2.2.2.2.2.1, t6.2.2.2.2.2.2.2.2.2.2.2.2.2.2.2.2.2.1, t6.2.2.2.2.2.2.2.2.2.2.2.2.2.2.2.2.2.2.1, t6.2.2.2.2.2.2.2.2.2.2.2.2.2.2.2.2.2.2.2.1, t6.2.2.2.2.2.2.2.2.2.2.2.2.2.2.2.2.2.2.2.2.1, t6.2.2.2.2.2.2.2.2.2.2.2.2.2.2.2.2.2.2.2.2.2.1, t6.2.2.2.2.2.2.2.2.2.2.2.2.2.2.2.2.2.2.2.2.2.2.1, t6.2.2.2.2.2.2.2.2.2.2.2.2.2.2.2.2.2.2.2.2.2.2.2.1, t6.2.2.2.2.2.2.2.2.2.2.2.2.2.2.2.2.2.2.2.2.2.2.2.2)) else (some (0, 0, 0, 0, 0, 0, 0, 0, 0, 0, 0, 0, 0, 0, 0, 0, 0, 0, 0, 0, 0, 0, 0, [], 6))) else (some (t6.1, t6.2.1, t6.2.2.1, t6.2.2.2.1, t6.2.2.2.2.1, t6.2.2.2.2.2.1, t6.2.2.2.2.2.2.1, t6.2.2.2.2.2.2.2.1, t6.2.2.2.2.2.2.2.2.1, t6.2.2.2.2.2.2.2.2.2.1, t6.2.2.2.2.2.2.2.2.2.2.1, t6.2.2.2.2.2.2.2.2.2.2.2.1, t6.2.2.2.2.2.2.2.2.2.2.2.2.1, t6.2.2.2.2.2.2.2.2.2.2.2.2.2.1, t6.2.2.2.2.2.2.2.2.2.2.2.2.2.2.1, t6.2.2.2.2.2.2.2.2.2.2.2.2.2.2.2.1, t6.2.2.2.2.2.2.2.2.2.2.2.2.2.2.2.2.1, t6.2.2.2.2.2.2.2.2.2.2.2.2.2.2.2.2.2.1, t6.2.2.2.2.2.2.2.2.2.2.2.2.2.2.2.2.2.2.1, t6.2.2.2.2.2.2.2.2.2.2.2.2.2.2.2.2.2.2.2.1, t6.2.2.2.2.2.2.2.2.2.2.2.2.2.2.2.2.2.2.2.2.1, t6.2.2.2.2.2.2.2.2.2.2.2.2.2.2.2.2.2.2.2.2.2.1, t6.2.2.2.2.2.2.2.2.2.2.2.2.2.2.2.2.2.2.2.2.2.2.1, t6.2.2.2.2.2.2.2.2.2.2.2.2.2.2.2.2.2.2.2.2.2.2.2.1, t6.2.2.2.2.2.2.2.2.2.2.2.2.2.2.2.2.2.2.2.2.2.2.2.2)))
abbrev frame_Here.c0 (x0 x1 x2 x3 x4 x5 x6 x7 x8 x9 x10 x11 x12 x13 x14 x15 x16 x17 x18 x19 x20 x21 x22 : Int) : Array Value := #[.int .i64 x0, .int .i64 x1, .int .i64 x2, .int .i64 x3, .int .u64 x4, .int .i64 x5, .int .i64 x6, .int .i64 x7, .int .i64 x8, .int .u64 x9, .int .i64 x10, .int .i64 x11, .int .i64 x12, .int .i64 x13, .int .i64 x14, .int .i64 x15, .int .i64 x16, .int .u64 x17, .int .i64 x18, .int .i64 x19, .int .i64 x20, .int .i64 x21, .int .i64 x22]
abbrev frame_Here.v1 (x0 x1 x2 x3 x4 x5 x6 x7 x8 x9 x10 x11 x12 x13 x14 x15 x16 x17 x18 x19 x20 x21 x22 : Int) : Value := .agg #[.int .i64 x0, .int .i64 x1, .int .i64 x2, .int .i64 x3, .int .u64 x4, .int .i64 x5, .int .i64 x6, .int .i64 x7, .int .i64 x8, .int .u64 x9, .int .i64 x10, .int .i64 x11, .int .i64 x12, .int .i64 x13, .int .i64 x14, .int .i64 x15, .int .i64 x16, .int .u64 x17, .int .i64 x18, .int .i64 x19, .int .i64 x20, .int .i64 x21, .int .i64 x22]
open Go.Proofs.Ytiomlbkakiienaa.E in
set_option maxHeartbeats 60000000 in
set_option maxRecDepth 100000 in
theorem frame_Here.calls (k : Nat) (a0 : ByteArray) (a1 r1 r2 r3 r4 r5 r6 r7 r8 r9 b7 b8 b9 ca cb cc cd ce cf cg ch ci cj ck : Int) (cl : List (S43)) (cm : Int) (w : World) (h : frame_Here.f k a0 a1 = some (r1, r2, r3, r4, r5, r6, r7, r8, r9, b7, b8, b9, ca, cb, cc, cd, ce, cf, cg, ch, ci, cj, ck, cl, cm)) :
    Calls Try.prog 18 #[.string a0, .int .i64 a1] w fun e w' => ∃ v0_ : Value, e = .returned (.tuple #[.agg #[.int .i64 r1, .int .i64 r2, .int .i64 r3, .int .i64 r4, .int .u64 r5, .int .i64 r6, .int .i64 r7, .int .i64 r8, .int .i64 r9, .int .u64 b7, .int .i64 b8, .int .i64 b9, .int .i64 ca, .int .i64 cb, .int .i64 cc, .int .i64 cd, .int .i64 ce, .int .u64 cf, .int .i64 cg, .int .i64 ch, .int .i64 ci, .int .i64 cj, .int .i64 ck], v0_, .int .i64 cm]) ∧ Kd.R k43 43 w' w.heap.size (fun _ => True) v0_ cl ∧ Below w.heap.size w w' := by
 have H := h
 clear h
 unfold frame_Here.f at H
 obtain ⟨t6, bz, H⟩ := Option.bind_eq_some_iff.mp H
 obtain ⟨ar, ac, au, av, aw, ax, ay, az, aA, ad, ae, af, ag, ah, ai, aj, ak, al, am, an, ao, ap, aq, ab, aa⟩ := t6
 (try dsimp only at H)
 by_cases c1 : aa = 0
 rotate_left
 ·rw [if_neg c1] at H
  simp only [Option.some.injEq, Prod.mk.injEq] at H
  obtain ⟨rfl, rfl, rfl, rfl, rfl, rfl, rfl, rfl, rfl, rfl, rfl, rfl, rfl, rfl, rfl, rfl, rfl, rfl, rfl, rfl, rfl, rfl, rfl, rfl, rfl⟩ := H
  refine calls_of_wp (fn := Try.f18) (by kernel_rfl) rfl ?_
  have hS := St.enter #[.string a0, .int .i64 a1] 28 (by simp) [(0, .string a0), (1, .int .i64 a1)] (by simp)
  have bl := Below.refl w.heap.size w
  refine wp_seq_k (fun K1 bp => ?_)
  refine reg_seq (I := I1_ w) (ps := [IsB (frame_Here.c0 0 0 0 0 0 0 0 0 0 0 0 0 0 0 0 0 0 0 0 0 0 0 0) 28 w.heap.size, IsV (.slice none 0 0), VI 0]) (by kernel_rfl) ?_ ?_ rfl hS bl ?_ ?_
  ·exact bs1
  ·exact .cons (Stays.b _ _ _) (.v (.v (.nil)))
  ·refine .on rfl (fun a w hS hI hp => does_var (x_alloc rfl (by kernel_rfl)) (hI).size) ?_
   iterate 2 refine .on rfl (fun a w hS hI hp => does_val (x_assign rfl (rfl)) rfl) ?_
   exact .nil
  clear hS
  intro bN w3 hS a2 hp
  obtain ⟨g4, a8, a4, aE⟩ := (show IsB _ 28 _ (sl _ 4) _ from hp 0 (by decide))
  have hS := hS.cons a8
  clear hp a8
  refine bp _ _ ?_
  refine wp_seq_k (fun K5 bq => ?_)
  refine reg_seq_tail 7 (I := I2_ w w3) (ps := [IsV (.string a0), IsT (fun v0_ => #[(frame_Here.v1 ar ac au av aw ax ay az aA ad ae af ag ah ai aj ak al am an ao ap aq), v0_, .int .i64 aa]) (IsR k43 43 w3.heap.size ab), IsT (fun v0_ => #[(frame_Here.v1 ar ac au av aw ax ay az aA ad ae af ag ah ai aj ak al am an ao ap aq), v0_, .int .i64 aa]) (IsR k43 43 w3.heap.size ab), IsV ((frame_Here.v1 ar ac au av aw ax ay az aA ad ae af ag ah ai aj ak al am an ao ap aq)), IsR k43 43 w3.heap.size ab, VI aa, IsB (frame_Here.c0 0 0 0 0 0 0 0 0 0 0 0 0 0 0 0 0 0 0 0 0 0 0 0) 28 w3.heap.size]) (by kernel_rfl) ?_ ?_ rfl hS ⟨a2, (bR w3)⟩ ?_ ?_
  ·exact bs2
  ·exact .v (.cons (Stays.t _ (Stays.r _ _ _ _)) (.cons (Stays.t _ (Stays.r _ _ _ _)) (.v (.cons (Stays.r _ _ _ _) (.v (.cons (Stays.b _ _ _) (.nil)))))))
  ·refine .ms 1 rfl rfl rfl ?_
   refine .on rfl (fun a w hS hI hp => does_call (by kernel_rfl) (ar1 (hp.V 0 rfl rfl)) ((frame_Get.calls k a0 ar ac au av aw ax ay az aA ad ae af ag ah ai aj ak al am an ao ap aq ab aa _  bz).mono fun _ _ h => h.elim fun v0 h => ⟨_, h.1, h.2.2, v0, rfl, Kd.R_lower h.2.1 hI.2.size⟩)) ?_
   refine .on rfl (fun a w hS hI hp => does_val (x_move rfl rfl) (hp.V 1 rfl rfl)) ?_
   refine .on rfl (fun a w hS hI hp => (hp.V 2 rfl rfl).elim fun v0 h0 => does_val (x_extract rfl h0.1 rfl) rfl) ?_
   refine .on rfl (fun a w hS hI hp => (hp.V 2 rfl rfl).elim fun v0 h0 => does_val (x_extract rfl h0.1 rfl) h0.2) ?_
   refine .on rfl (fun a w hS hI hp => (hp.V 2 rfl rfl).elim fun v0 h0 => does_val (x_extract rfl h0.1 rfl) rfl) ?_
   refine .on rfl (fun a w hS hI hp => does_var (x_alloc rfl (by kernel_rfl)) (hI.2).size) ?_
   exact .nil
  clear hS
  intro bO w8 hS aQ hp
  replace hS := ((hS.nil).cons (hS.get 2 rfl)).cons (hS.get 0 rfl)
  have aW : sl _ 13 = (frame_Here.v1 ar ac au av aw ax ay az aA ad ae af ag ah ai aj ak al am an ao ap aq) := hp 3 (by decide)
  obtain ⟨A9, C9, aO, bS, bQ⟩ := Kd.R_reads (show Kd.R k43 43 w8 w3.heap.size (fun _ => True) (sl _ 14) ab from hp 4 (by decide))
  have br : Kd.R k43 43 w8 w3.heap.size (fun _ => True) (.slice A9 ab.length C9) ab := aO ▸ (hp 4 (by decide))
  have aX : sl _ 15 = .int .i64 aa := hp 5 (by decide)
  obtain ⟨aG, a9, aD, aC⟩ := (show IsB _ 28 _ (sl _ 7) _ from hp 6 (by decide))
  have hS := hS.cons aW
  have hS := hS.cons aO
  have hS := hS.cons aX
  have hS := hS.cons a9
  clear hp aW aO aX a9
  show wpList _ _ _ [_, _, _] _ _
  refine list_step rfl (does_storeAll (g := aG) (cs := (frame_Here.c0 ar ac au av aw ax ay az aA ad ae af ag ah ai aj ak al am an ao ap aq)) rfl (hS.get 0 rfl) (hS.get 3 rfl) (((bR w8).block aG (blk_lt aC)).trans aC) (by kernel_rfl) (by kernel_rfl) (by kernel_rfl)) ?_
  rintro bH aZ ⟨rfl, aB, hT⟩
  have a3 := hT.rowT rfl (((bR w8).block aG (blk_lt aC)).trans aC) (Kd.R_below br (bR w8)) (by decide)
  have bE := (Kd.R_reads' a3).2.2
  have aR := hT.below aQ.1 (Nat.le_trans (a2).size aD) (aQ.1).size
  have aL := hT.below aQ.2 aD (aQ.2).size
  clear hT
  refine list_step rfl (R := fun v w' => Below _ _ w' ∧ (IsV (.slice A9 ab.length C9)) v w') (does_val (x_assign rfl (hS.get 2 rfl)) rfl) ?_
  rintro bi bs ⟨hb, he⟩
  have aS := below_step aR hb
  have aM := below_step aL hb
  have aH := below_step (bR aZ) hb
  obtain rfl : bi = .slice A9 ab.length C9 := he
  refine hS.next (v := .slice A9 ab.length C9) (d := 8) rfl (by decide) (by rfl) ?_
  clear hS
  intro bA hS
  refine list_step rfl (R := fun v w' => Below _ _ w' ∧ (VI aa) v w') (does_val (x_assign rfl (hS.get 2 rfl)) rfl) ?_
  rintro bj ba ⟨hb, he⟩
  have aT := below_step aS hb
  have aN := below_step aM hb
  have aI := below_step aH hb
  have a7 := below_step (bR bs) hb
  obtain rfl : bj = .int .i64 aa := he
  refine hS.next (v := .int .i64 aa) (d := 9) rfl (by decide) (by rfl) ?_
  clear hS
  intro bB hS
  refine wpList_nil ?_
  refine bq _ _ ?_
  refine wp_seq_k (fun bK bk => ?_)
  refine wp_seq_k (fun bL bc => ?_)
  refine reg_seq (I := I4_ w w3 aZ ba) (ps := [VI aa, VB (decide (aa = 0)), VB (decide (aa = 0)), VU, VU, VU, VU, VB false]) (by kernel_rfl) ?_ ?_ rfl hS ⟨aT, aN, aI, (bR ba)⟩ ?_ ?_
  ·exact bs4
  ·exact .v (.v (.v (.v (.v (.v (.v (.v (.nil))))))))
  ·refine .ms 0 rfl rfl rfl ?_
   refine .on rfl (fun a w hS hI hp => does_val (x_bin rfl (hp.V 0 rfl rfl) (rfl) (b_eql _ _ _ _ _ _)) rfl) ?_
   refine .mv 1 rfl rfl rfl rfl ?_
   iterate 4 refine .sn 2 18 rfl rfl rfl rfl rfl ((decide_eq_false c1)) ?_
   refine .pf 2 rfl rfl rfl rfl ((decide_eq_false c1)) (fun _ => rfl) ?_
   exact .nil
  clear hS
  intro bC bb hS aP hp
  replace hS := ((((hS.nil).cons (hS.get 6 rfl)).cons (hS.get 2 rfl)).cons (hS.get 1 rfl)).cons (hS.get 0 rfl)
  have aY : sl _ 23 = .bool false := hp 7 (by decide)
  have hS := hS.cons aY
  clear hp aY
  refine bc _ _ ?_
  refine wp_cond_false ((hS.get 0 rfl).trans (bF rfl)) ?_
  refine wp_skip ?_
  refine bk _ _ ?_
  refine wp_seq_k (fun bM bd => ?_)
  refine reg_seq_tail 3 (I := I4_ w w3 aZ bb) (ps := [IsV ((frame_Here.v1 ar ac au av aw ax ay az aA ad ae af ag ah ai aj ak al am an ao ap aq)), IsV (.slice A9 ab.length C9), VI aa]) (by kernel_rfl) ?_ ?_ rfl hS ⟨aP.1, aP.2.1, aP.2.2.1, (bR bb)⟩ ?_ ?_
  ·exact bs4
  ·exact .v (.v (.v (.nil)))
  ·refine .on rfl (fun a w hS hI hp => does_loadrow rfl (hS.get 3 rfl) (((hI.2.2.1).block aG (blk_lt aB)).trans aB) Try.underlying28 rfl (by kernel_rfl) rfl) ?_
   refine .ms 2 rfl rfl rfl ?_
   refine .ms 1 rfl rfl rfl ?_
   exact .nil
  clear hS
  intro bD bU hS aF hp
  replace hS := (hS.nil).cons (hS.get 4 rfl)
  have bf : sl _ 25 = (frame_Here.v1 ar ac au av aw ax ay az aA ad ae af ag ah ai aj ak al am an ao ap aq) := hp 0 (by decide)
  have bg : sl _ 26 = .slice A9 ab.length C9 := hp 1 (by decide)
  have bh : sl _ 27 = .int .i64 aa := hp 2 (by decide)
  have hS := hS.cons bf
  have hS := hS.cons bg
  have hS := hS.cons bh
  clear hp bf bg bh
  show wpList _ _ _ [_, _, _] _ _
  refine list_step rfl (does_storeAll (g := g4) (cs := (frame_Here.c0 ar ac au av aw ax ay az aA ad ae af ag ah ai aj ak al am an ao ap aq)) rfl (hS.get 3 rfl) (hS.get 2 rfl) ((aF.2.1.block g4 (blk_lt aE)).trans aE) (by kernel_rfl) (by kernel_rfl) (by kernel_rfl)) ?_
  rintro bI bt ⟨rfl, aK, hT⟩
  have be := hT.row (Kd.R_below a3 aF.2.2.1) (Nat.lt_of_lt_of_le (blk_lt aE) (Nat.le_refl _))
  have bX := (Kd.R_reads' be).2.2
  have bY := hT.blk ((aF.2.2.1.block aG (blk_lt aB)).trans aB) (Nat.ne_of_gt (Nat.lt_of_lt_of_le (Nat.lt_of_lt_of_le (blk_lt aE) (Nat.le_refl _)) aD))
  have aU := hT.below aF.1 a4 (aF.1).size
  clear hT
  refine list_step rfl (R := fun v w' => Below _ _ w' ∧ (IsV (.slice A9 ab.length C9)) v w') (does_val (x_assign rfl (hS.get 1 rfl)) rfl) ?_
  rintro bu bJ ⟨hb, he⟩
  have a5 := below_step aU hb
  have aV := below_step (bR bt) hb
  obtain rfl : bu = .slice A9 ab.length C9 := he
  refine hS.next (v := .slice A9 ab.length C9) (d := 5) rfl (by decide) (by rfl) ?_
  clear hS
  intro bV hS
  refine list_step rfl (R := fun v w' => Below _ _ w' ∧ (VI aa) v w') (does_val (x_assign rfl (hS.get 1 rfl)) rfl) ?_
  rintro bv b2 ⟨hb, he⟩
  have a6 := below_step a5 hb
  have aJ := below_step aV hb
  have bo := below_step (bR bJ) hb
  obtain rfl : bv = .int .i64 aa := he
  refine hS.next (v := .int .i64 aa) (d := 6) rfl (by decide) (by rfl) ?_
  clear hS
  intro bW hS
  refine wpList_nil ?_
  refine bd _ _ ?_
  refine wp_ret ?_
  (try simp only [Exit.then, Exit.inBlock, Exit.jump, Exit.noGoto])
  exact bodyPost_ret (v := .tuple #[(frame_Here.v1 ar ac au av aw ax ay az aA ad ae af ag ah ai aj ak al am an ao ap aq), .slice A9 ab.length C9, .int .i64 aa]) (results_list (rs := [.cell 4 28, .tmp 5, .tmp 6]) rfl (by simp) (Vals.cell g4 28 (frame_Here.c0 ar ac au av aw ax ay az aA ad ae af ag ah ai aj ak al am an ao ap aq) (0, 0) _ (hS.get 5 rfl) ((aJ.block g4 (blk_lt aK)).trans aK) Try.underlying28 rfl (by kernel_rfl) (Vals.at (hS.get 1 rfl) (Vals.at (hS.get 0 rfl) .nil)))) hS.nodef ⟨.slice A9 ab.length C9, rfl, Kd.R_lower (Kd.R_below be aJ) (a2).size, a6⟩
 rw [if_pos c1] at H
 by_cases c2 : ac = a1
 rotate_left
 ·rw [if_neg c2] at H
  simp only [Option.some.injEq, Prod.mk.injEq] at H
  obtain ⟨rfl, rfl, rfl, rfl, rfl, rfl, rfl, rfl, rfl, rfl, rfl, rfl, rfl, rfl, rfl, rfl, rfl, rfl, rfl, rfl, rfl, rfl, rfl, rfl, rfl⟩ := H
  refine calls_of_wp (fn := Try.f18) (by kernel_rfl) rfl ?_
  have hS := St.enter #[.string a0, .int .i64 a1] 28 (by simp) [(0, .string a0), (1, .int .i64 a1)] (by simp)
  have bl := Below.refl w.heap.size w
  refine wp_seq_k (fun K1 bp => ?_)
  refine reg_seq (I := I1_ w) (ps := [IsB (frame_Here.c0 0 0 0 0 0 0 0 0 0 0 0 0 0 0 0 0 0 0 0 0 0 0 0) 28 w.heap.size, IsV (.slice none 0 0), VI 0]) (by kernel_rfl) ?_ ?_ rfl hS bl ?_ ?_
  ·exact bs1
  ·exact .cons (Stays.b _ _ _) (.v (.v (.nil)))
  ·refine .on rfl (fun a w hS hI hp => does_var (x_alloc rfl (by kernel_rfl)) (hI).size) ?_
   iterate 2 refine .on rfl (fun a w hS hI hp => does_val (x_assign rfl (rfl)) rfl) ?_
   exact .nil
  clear hS
  intro bN w3 hS a2 hp
  obtain ⟨g4, a8, a4, aE⟩ := (show IsB _ 28 _ (sl _ 4) _ from hp 0 (by decide))
  have hS := hS.cons a8
  clear hp a8
  refine bp _ _ ?_
  refine wp_seq_k (fun K5 bq => ?_)
  refine reg_seq_tail 7 (I := I2_ w w3) (ps := [IsV (.string a0), IsT (fun v0_ => #[(frame_Here.v1 ar ac au av aw ax ay az aA ad ae af ag ah ai aj ak al am an ao ap aq), v0_, .int .i64 aa]) (IsR k43 43 w3.heap.size ab), IsT (fun v0_ => #[(frame_Here.v1 ar ac au av aw ax ay az aA ad ae af ag ah ai aj ak al am an ao ap aq), v0_, .int .i64 aa]) (IsR k43 43 w3.heap.size ab), IsV ((frame_Here.v1 ar ac au av aw ax ay az aA ad ae af ag ah ai aj ak al am an ao ap aq)), IsR k43 43 w3.heap.size ab, VI aa, IsB (frame_Here.c0 0 0 0 0 0 0 0 0 0 0 0 0 0 0 0 0 0 0 0 0 0 0 0) 28 w3.heap.size]) (by kernel_rfl) ?_ ?_ rfl hS ⟨a2, (bR w3)⟩ ?_ ?_
  ·exact bs2
  ·exact .v (.cons (Stays.t _ (Stays.r _ _ _ _)) (.cons (Stays.t _ (Stays.r _ _ _ _)) (.v (.cons (Stays.r _ _ _ _) (.v (.cons (Stays.b _ _ _) (.nil)))))))
  ·refine .ms 1 rfl rfl rfl ?_
   refine .on rfl (fun a w hS hI hp => does_call (by kernel_rfl) (ar1 (hp.V 0 rfl rfl)) ((frame_Get.calls k a0 ar ac au av aw ax ay az aA ad ae af ag ah ai aj ak al am an ao ap aq ab aa _  bz).mono fun _ _ h => h.elim fun v0 h => ⟨_, h.1, h.2.2, v0, rfl, Kd.R_lower h.2.1 hI.2.size⟩)) ?_
   refine .on rfl (fun a w hS hI hp => does_val (x_move rfl rfl) (hp.V 1 rfl rfl)) ?_
   refine .on rfl (fun a w hS hI hp => (hp.V 2 rfl rfl).elim fun v0 h0 => does_val (x_extract rfl h0.1 rfl) rfl) ?_
   refine .on rfl (fun a w hS hI hp => (hp.V 2 rfl rfl).elim fun v0 h0 => does_val (x_extract rfl h0.1 rfl) h0.2) ?_
   refine .on rfl (fun a w hS hI hp => (hp.V 2 rfl rfl).elim fun v0 h0 => does_val (x_extract rfl h0.1 rfl) rfl) ?_
   refine .on rfl (fun a w hS hI hp => does_var (x_alloc rfl (by kernel_rfl)) (hI.2).size) ?_
   exact .nil
  clear hS
  intro bO w8 hS aQ hp
  replace hS := ((hS.nil).cons (hS.get 2 rfl)).cons (hS.get 0 rfl)
  have aW : sl _ 13 = (frame_Here.v1 ar ac au av aw ax ay az aA ad ae af ag ah ai aj ak al am an ao ap aq) := hp 3 (by decide)
  obtain ⟨A9, C9, aO, bS, bQ⟩ := Kd.R_reads (show Kd.R k43 43 w8 w3.heap.size (fun _ => True) (sl _ 14) ab from hp 4 (by decide))
  have br : Kd.R k43 43 w8 w3.heap.size (fun _ => True) (.slice A9 ab.length C9) ab := aO ▸ (hp 4 (by decide))
  have aX : sl _ 15 = .int .i64 aa := hp 5 (by decide)
  obtain ⟨aG, a9, aD, aC⟩ := (show IsB _ 28 _ (sl _ 7) _ from hp 6 (by decide))
  have hS := hS.cons aW
  have hS := hS.cons aO
  have hS := hS.cons aX
  have hS := hS.cons a9
  clear hp aW aO aX a9
  show wpList _ _ _ [_, _, _] _ _
  refine list_step rfl (does_storeAll (g := aG) (cs := (frame_Here.c0 ar ac au av aw ax ay az aA ad ae af ag ah ai aj ak al am an ao ap aq)) rfl (hS.get 0 rfl) (hS.get 3 rfl) (((bR w8).block aG (blk_lt aC)).trans aC) (by kernel_rfl) (by kernel_rfl) (by kernel_rfl)) ?_
  rintro bH aZ ⟨rfl, aB, hT⟩
  have a3 := hT.rowT rfl (((bR w8).block aG (blk_lt aC)).trans aC) (Kd.R_below br (bR w8)) (by decide)
  have bE := (Kd.R_reads' a3).2.2
  have aR := hT.below aQ.1 (Nat.le_trans (a2).size aD) (aQ.1).size
  have aL := hT.below aQ.2 aD (aQ.2).size
  clear hT
  refine list_step rfl (R := fun v w' => Below _ _ w' ∧ (IsV (.slice A9 ab.length C9)) v w') (does_val (x_assign rfl (hS.get 2 rfl)) rfl) ?_
  rintro bi bs ⟨hb, he⟩
  have aS := below_step aR hb
  have aM := below_step aL hb
  have aH := below_step (bR aZ) hb
  obtain rfl : bi = .slice A9 ab.length C9 := he
  refine hS.next (v := .slice A9 ab.length C9) (d := 8) rfl (by decide) (by rfl) ?_
  clear hS
  intro bA hS
  refine list_step rfl (R := fun v w' => Below _ _ w' ∧ (VI aa) v w') (does_val (x_assign rfl (hS.get 2 rfl)) rfl) ?_
  rintro bj ba ⟨hb, he⟩
  have aT := below_step aS hb
  have aN := below_step aM hb
  have aI := below_step aH hb
  have a7 := below_step (bR bs) hb
  obtain rfl : bj = .int .i64 aa := he
  refine hS.next (v := .int .i64 aa) (d := 9) rfl (by decide) (by rfl) ?_
  clear hS
  intro bB hS
  refine wpList_nil ?_
  refine bq _ _ ?_
  refine wp_seq_k (fun bK bk => ?_)
  refine wp_seq_k (fun bL bc => ?_)
  refine reg_seq (I := I4_ w w3 aZ ba) (ps := [VI aa, VB (decide (aa = 0)), VB (decide (aa = 0)), VP aG 1, VI ac, VI a1, VB (!decide (ac = a1)), VB (!decide (ac = a1))]) (by kernel_rfl) ?_ ?_ rfl hS ⟨aT, aN, aI, (bR ba)⟩ ?_ ?_
  ·exact bs4
  ·exact .v (.v (.v (.v (.v (.v (.v (.v (.nil))))))))
  ·refine .ms 0 rfl rfl rfl ?_
   refine .on rfl (fun a w hS hI hp => does_val (x_bin rfl (hp.V 0 rfl rfl) (rfl) (b_eql _ _ _ _ _ _)) rfl) ?_
   refine .mv 1 rfl rfl rfl rfl ?_
   refine .oy 2 18 rfl rfl rfl rfl rfl ((decide_eq_true c1)) (fun a w hS hI hp => does_val (x_fieldE (b := 0) rfl (hS.get 2 rfl) Try.underlying28 rfl rfl (by kernel_rfl)) rfl) ?_
   refine .oy 2 18 rfl rfl rfl rfl rfl ((decide_eq_true c1)) (fun a w hS hI hp => does_val (x_load1 (d := .int .i64) rfl (hp.V 3 rfl rfl) (by kernel_rfl) rfl ((blk_cell (((hI.2.2.1).block aG (blk_lt aB)).trans aB) 1).trans rfl)) rfl) ?_
   refine .oy 2 18 rfl rfl rfl rfl rfl ((decide_eq_true c1)) (fun a w hS hI hp => does_val (x_move rfl (hS.get 7 rfl)) rfl) ?_
   refine .oy 2 18 rfl rfl rfl rfl rfl ((decide_eq_true c1)) (fun a w hS hI hp => does_val (x_bin rfl (hp.V 4 rfl rfl) (hp.V 5 rfl rfl) (b_neq _ _ _ _ _ _)) rfl) ?_
   refine .pt 2 6 rfl rfl rfl rfl ((decide_eq_true c1)) rfl rfl ?_
   exact .nil
  clear hS
  intro bC bb hS aP hp
  replace hS := ((((hS.nil).cons (hS.get 6 rfl)).cons (hS.get 2 rfl)).cons (hS.get 1 rfl)).cons (hS.get 0 rfl)
  have aY : sl _ 23 = .bool (!decide (ac = a1)) := hp 7 (by decide)
  have hS := hS.cons aY
  clear hp aY
  refine bc _ _ ?_
  refine wp_cond_true ((hS.get 0 rfl).trans (bT (congrArg (!·) (decide_eq_false c2)))) ?_
  refine wp_seq_k (fun bM bd => ?_)
  refine reg_seq_tail 1 (I := I4_ w w3 aZ bb) (ps := [IsV ((frame_Here.v1 0 0 0 0 0 0 0 0 0 0 0 0 0 0 0 0 0 0 0 0 0 0 0))]) (by kernel_rfl) ?_ ?_ rfl hS ⟨aP.1, aP.2.1, aP.2.2.1, (bR bb)⟩ ?_ ?_
  ·exact bs4
  ·exact .v (.nil)
  ·refine .on rfl (fun a w hS hI hp => does_val (x_build (vs := []) rfl (by rw [Array.toList_map]; exact (show [] = _ from rfl)) (by kernel_rfl)) rfl) ?_
   exact .nil
  clear hS
  intro bD bU hS aF hp
  replace hS := (hS.nil).cons (hS.get 4 rfl)
  have bG : sl _ 24 = (frame_Here.v1 0 0 0 0 0 0 0 0 0 0 0 0 0 0 0 0 0 0 0 0 0 0 0) := hp 0 (by decide)
  have hS := hS.cons bG
  clear hp bG
  show wpList _ _ _ [_, _, _] _ _
  refine list_step rfl (does_storeAll (g := g4) (cs := (frame_Here.c0 0 0 0 0 0 0 0 0 0 0 0 0 0 0 0 0 0 0 0 0 0 0 0)) rfl (hS.get 1 rfl) (hS.get 0 rfl) ((aF.2.1.block g4 (blk_lt aE)).trans aE) (by kernel_rfl) (by kernel_rfl) (by kernel_rfl)) ?_
  rintro bI bt ⟨rfl, aK, hT⟩
  have b5 := hT.blk ((aF.2.2.1.block aG (blk_lt aB)).trans aB) (Nat.ne_of_gt (Nat.lt_of_lt_of_le (Nat.lt_of_lt_of_le (blk_lt aE) (Nat.le_refl _)) aD))
  have aU := hT.below aF.1 a4 (aF.1).size
  clear hT
  refine list_step rfl (R := fun v w' => Below _ _ w' ∧ (IsV (.slice none 0 0)) v w') (does_val (x_assign rfl (rfl)) rfl) ?_
  rintro bZ b1 ⟨hb, he⟩
  have bw := below_step aU hb
  have bm := below_step (bR bt) hb
  obtain rfl : bZ = .slice none 0 0 := he
  refine hS.next (v := .slice none 0 0) (d := 5) rfl (by decide) (by rfl) ?_
  clear hS
  intro b3 hS
  refine list_step rfl (R := fun v w' => Below _ _ w' ∧ (VI 6) v w') (does_val (x_assign rfl (rfl)) rfl) ?_
  rintro b0 b6 ⟨hb, he⟩
  have bx := below_step bw hb
  have bn := below_step bm hb
  have bP := below_step (bR b1) hb
  obtain rfl : b0 = .int .i64 6 := he
  refine hS.next (v := .int .i64 6) (d := 6) rfl (by decide) (by rfl) ?_
  clear hS
  intro b4 hS
  refine wpList_nil ?_
  refine bd _ _ ?_
  refine wp_ret ?_
  (try simp only [Exit.then, Exit.inBlock, Exit.jump, Exit.noGoto])
  exact bodyPost_ret (v := .tuple #[(frame_Here.v1 0 0 0 0 0 0 0 0 0 0 0 0 0 0 0 0 0 0 0 0 0 0 0), .slice none 0 0, .int .i64 6]) (results_list (rs := [.cell 4 28, .tmp 5, .tmp 6]) rfl (by simp) (Vals.cell g4 28 (frame_Here.c0 0 0 0 0 0 0 0 0 0 0 0 0 0 0 0 0 0 0 0 0 0 0 0) (0, 0) _ (hS.get 3 rfl) ((bn.block g4 (blk_lt aK)).trans aK) Try.underlying28 rfl (by kernel_rfl) (Vals.at (hS.get 1 rfl) (Vals.at (hS.get 0 rfl) .nil)))) hS.nodef ⟨.slice none 0 0, rfl, Kd.R_nil _ _ _ _ _, bx⟩
 rw [if_pos c2] at H
 simp only [Option.some.injEq, Prod.mk.injEq] at H
 obtain ⟨rfl, rfl, rfl, rfl, rfl, rfl, rfl, rfl, rfl, rfl, rfl, rfl, rfl, rfl, rfl, rfl, rfl, rfl, rfl, rfl, rfl, rfl, rfl, rfl, rfl⟩ := H
 refine calls_of_wp (fn := Try.f18) (by kernel_rfl) rfl ?_
 have hS := St.enter #[.string a0, .int .i64 a1] 28 (by simp) [(0, .string a0), (1, .int .i64 a1)] (by simp)
 have bl := Below.refl w.heap.size w
 refine wp_seq_k (fun K1 bp => ?_)
 refine reg_seq (I := I1_ w) (ps := [IsB (frame_Here.c0 0 0 0 0 0 0 0 0 0 0 0 0 0 0 0 0 0 0 0 0 0 0 0) 28 w.heap.size, IsV (.slice none 0 0), VI 0]) (by kernel_rfl) ?_ ?_ rfl hS bl ?_ ?_
 ·exact bs1
 ·exact .cons (Stays.b _ _ _) (.v (.v (.nil)))
 ·refine .on rfl (fun a w hS hI hp => does_var (x_alloc rfl (by kernel_rfl)) (hI).size) ?_
  iterate 2 refine .on rfl (fun a w hS hI hp => does_val (x_assign rfl (rfl)) rfl) ?_
  exact .nil
 clear hS
 intro bN w3 hS a2 hp
 obtain ⟨g4, a8, a4, aE⟩ := (show IsB _ 28 _ (sl _ 4) _ from hp 0 (by decide))
 have hS := hS.cons a8
 clear hp a8
 refine bp _ _ ?_
 refine wp_seq_k (fun K5 bq => ?_)
 refine reg_seq_tail 7 (I := I2_ w w3) (ps := [IsV (.string a0), IsT (fun v0_ => #[(frame_Here.v1 ar ac au av aw ax ay az aA ad ae af ag ah ai aj ak al am an ao ap aq), v0_, .int .i64 aa]) (IsR k43 43 w3.heap.size ab), IsT (fun v0_ => #[(frame_Here.v1 ar ac au av aw ax ay az aA ad ae af ag ah ai aj ak al am an ao ap aq), v0_, .int .i64 aa]) (IsR k43 43 w3.heap.size ab), IsV ((frame_Here.v1 ar ac au av aw ax ay az aA ad ae af ag ah ai aj ak al am an ao ap aq)), IsR k43 43 w3.heap.size ab, VI aa, IsB (frame_Here.c0 0 0 0 0 0 0 0 0 0 0 0 0 0 0 0 0 0 0 0 0 0 0 0) 28 w3.heap.size]) (by kernel_rfl) ?_ ?_ rfl hS ⟨a2, (bR w3)⟩ ?_ ?_
 ·exact bs2
 ·exact .v (.cons (Stays.t _ (Stays.r _ _ _ _)) (.cons (Stays.t _ (Stays.r _ _ _ _)) (.v (.cons (Stays.r _ _ _ _) (.v (.cons (Stays.b _ _ _) (.nil)))))))
 ·refine .ms 1 rfl rfl rfl ?_
  refine .on rfl (fun a w hS hI hp => does_call (by kernel_rfl) (ar1 (hp.V 0 rfl rfl)) ((frame_Get.calls k a0 ar ac au av aw ax ay az aA ad ae af ag ah ai aj ak al am an ao ap aq ab aa _  bz).mono fun _ _ h => h.elim fun v0 h => ⟨_, h.1, h.2.2, v0, rfl, Kd.R_lower h.2.1 hI.2.size⟩)) ?_
  refine .on rfl (fun a w hS hI hp => does_val (x_move rfl rfl) (hp.V 1 rfl rfl)) ?_
  refine .on rfl (fun a w hS hI hp => (hp.V 2 rfl rfl).elim fun v0 h0 => does_val (x_extract rfl h0.1 rfl) rfl) ?_
  refine .on rfl (fun a w hS hI hp => (hp.V 2 rfl rfl).elim fun v0 h0 => does_val (x_extract rfl h0.1 rfl) h0.2) ?_
  refine .on rfl (fun a w hS hI hp => (hp.V 2 rfl rfl).elim fun v0 h0 => does_val (x_extract rfl h0.1 rfl) rfl) ?_
  refine .on rfl (fun a w hS hI hp => does_var (x_alloc rfl (by kernel_rfl)) (hI.2).size) ?_
  exact .nil
 clear hS
 intro bO w8 hS aQ hp
 replace hS := ((hS.nil).cons (hS.get 2 rfl)).cons (hS.get 0 rfl)
 have aW : sl _ 13 = (frame_Here.v1 ar ac au av aw ax ay az aA ad ae af ag ah ai aj ak al am an ao ap aq) := hp 3 (by decide)
 obtain ⟨A9, C9, aO, bS, bQ⟩ := Kd.R_reads (show Kd.R k43 43 w8 w3.heap.size (fun _ => True) (sl _ 14) ab from hp 4 (by decide))
 have br : Kd.R k43 43 w8 w3.heap.size (fun _ => True) (.slice A9 ab.length C9) ab := aO ▸ (hp 4 (by decide))
 have aX : sl _ 15 = .int .i64 aa := hp 5 (by decide)
 obtain ⟨aG, a9, aD, aC⟩ := (show IsB _ 28 _ (sl _ 7) _ from hp 6 (by decide))
 have hS := hS.cons aW
 have hS := hS.cons aO
 have hS := hS.cons aX
 have hS := hS.cons a9
 clear hp aW aO aX a9
 show wpList _ _ _ [_, _, _] _ _
 refine list_step rfl (does_storeAll (g := aG) (cs := (frame_Here.c0 ar ac au av aw ax ay az aA ad ae af ag ah ai aj ak al am an ao ap aq)) rfl (hS.get 0 rfl) (hS.get 3 rfl) (((bR w8).block aG (blk_lt aC)).trans aC) (by kernel_rfl) (by kernel_rfl) (by kernel_rfl)) ?_
 rintro bH aZ ⟨rfl, aB, hT⟩
 have a3 := hT.rowT rfl (((bR w8).block aG (blk_lt aC)).trans aC) (Kd.R_below br (bR w8)) (by decide)
 have bE := (Kd.R_reads' a3).2.2
 have aR := hT.below aQ.1 (Nat.le_trans (a2).size aD) (aQ.1).size
 have aL := hT.below aQ.2 aD (aQ.2).size
 clear hT
 refine list_step rfl (R := fun v w' => Below _ _ w' ∧ (IsV (.slice A9 ab.length C9)) v w') (does_val (x_assign rfl (hS.get 2 rfl)) rfl) ?_
 rintro bi bs ⟨hb, he⟩
 have aS := below_step aR hb
 have aM := below_step aL hb
 have aH := below_step (bR aZ) hb
 obtain rfl : bi = .slice A9 ab.length C9 := he
 refine hS.next (v := .slice A9 ab.length C9) (d := 8) rfl (by decide) (by rfl) ?_
 clear hS
 intro bA hS
 refine list_step rfl (R := fun v w' => Below _ _ w' ∧ (VI aa) v w') (does_val (x_assign rfl (hS.get 2 rfl)) rfl) ?_
 rintro bj ba ⟨hb, he⟩
 have aT := below_step aS hb
 have aN := below_step aM hb
 have aI := below_step aH hb
 have a7 := below_step (bR bs) hb
 obtain rfl : bj = .int .i64 aa := he
 refine hS.next (v := .int .i64 aa) (d := 9) rfl (by decide) (by rfl) ?_
 clear hS
 intro bB hS
 refine wpList_nil ?_
 refine bq _ _ ?_
 refine wp_seq_k (fun bK bk => ?_)
 refine wp_seq_k (fun bL bc => ?_)
 refine reg_seq (I := I4_ w w3 aZ ba) (ps := [VI aa, VB (decide (aa = 0)), VB (decide (aa = 0)), VP aG 1, VI ac, VI a1, VB (!decide (ac = a1)), VB (!decide (ac = a1))]) (by kernel_rfl) ?_ ?_ rfl hS ⟨aT, aN, aI, (bR ba)⟩ ?_ ?_
 ·exact bs4
 ·exact .v (.v (.v (.v (.v (.v (.v (.v (.nil))))))))
 ·refine .ms 0 rfl rfl rfl ?_
  refine .on rfl (fun a w hS hI hp => does_val (x_bin rfl (hp.V 0 rfl rfl) (rfl) (b_eql _ _ _ _ _ _)) rfl) ?_
  refine .mv 1 rfl rfl rfl rfl ?_
  refine .oy 2 18 rfl rfl rfl rfl rfl ((decide_eq_true c1)) (fun a w hS hI hp => does_val (x_fieldE (b := 0) rfl (hS.get 2 rfl) Try.underlying28 rfl rfl (by kernel_rfl)) rfl) ?_
  refine .oy 2 18 rfl rfl rfl rfl rfl ((decide_eq_true c1)) (fun a w hS hI hp => does_val (x_load1 (d := .int .i64) rfl (hp.V 3 rfl rfl) (by kernel_rfl) rfl ((blk_cell (((hI.2.2.1).block aG (blk_lt aB)).trans aB) 1).trans rfl)) rfl) ?_
  refine .oy 2 18 rfl rfl rfl rfl rfl ((decide_eq_true c1)) (fun a w hS hI hp => does_val (x_move rfl (hS.get 7 rfl)) rfl) ?_
  refine .oy 2 18 rfl rfl rfl rfl rfl ((decide_eq_true c1)) (fun a w hS hI hp => does_val (x_bin rfl (hp.V 4 rfl rfl) (hp.V 5 rfl rfl) (b_neq _ _ _ _ _ _)) rfl) ?_
  refine .pt 2 6 rfl rfl rfl rfl ((decide_eq_true c1)) rfl rfl ?_
  exact .nil
 clear hS
 intro bC bb hS aP hp
 replace hS := ((((hS.nil).cons (hS.get 6 rfl)).cons (hS.get 2 rfl)).cons (hS.get 1 rfl)).cons (hS.get 0 rfl)
 have aY : sl _ 23 = .bool (!decide (ac = a1)) := hp 7 (by decide)
 have hS := hS.cons aY
 clear hp aY
 refine bc _ _ ?_
 refine wp_cond_false ((hS.get 0 rfl).trans (bF (congrArg (!·) (decide_eq_true c2)))) ?_
 refine wp_skip ?_
 refine bk _ _ ?_
 refine wp_seq_k (fun bM bd => ?_)
 refine reg_seq_tail 3 (I := I4_ w w3 aZ bb) (ps := [IsV ((frame_Here.v1 ar ac au av aw ax ay az aA ad ae af ag ah ai aj ak al am an ao ap aq)), IsV (.slice A9 ab.length C9), VI aa]) (by kernel_rfl) ?_ ?_ rfl hS ⟨aP.1, aP.2.1, aP.2.2.1, (bR bb)⟩ ?_ ?_
 ·exact bs4
 ·exact .v (.v (.v (.nil)))
 ·refine .on rfl (fun a w hS hI hp => does_loadrow rfl (hS.get 3 rfl) (((hI.2.2.1).block aG (blk_lt aB)).trans aB) Try.underlying28 rfl (by kernel_rfl) rfl) ?_
  refine .ms 2 rfl rfl rfl ?_
  refine .ms 1 rfl rfl rfl ?_
  exact .nil
 clear hS
 intro bD bU hS aF hp
 replace hS := (hS.nil).cons (hS.get 4 rfl)
 have bf : sl _ 25 = (frame_Here.v1 ar ac au av aw ax ay az aA ad ae af ag ah ai aj ak al am an ao ap aq) := hp 0 (by decide)
 have bg : sl _ 26 = .slice A9 ab.length C9 := hp 1 (by decide)
 have bh : sl _ 27 = .int .i64 aa := hp 2 (by decide)
 have hS := hS.cons bf
 have hS := hS.cons bg
 have hS := hS.cons bh
 clear hp bf bg bh
 show wpList _ _ _ [_, _, _] _ _
 refine list_step rfl (does_storeAll (g := g4) (cs := (frame_Here.c0 ar ac au av aw ax ay az aA ad ae af ag ah ai aj ak al am an ao ap aq)) rfl (hS.get 3 rfl) (hS.get 2 rfl) ((aF.2.1.block g4 (blk_lt aE)).trans aE) (by kernel_rfl) (by kernel_rfl) (by kernel_rfl)) ?_
 rintro bI bt ⟨rfl, aK, hT⟩
 have be := hT.row (Kd.R_below a3 aF.2.2.1) (Nat.lt_of_lt_of_le (blk_lt aE) (Nat.le_refl _))
 have bX := (Kd.R_reads' be).2.2
 have bY := hT.blk ((aF.2.2.1.block aG (blk_lt aB)).trans aB) (Nat.ne_of_gt (Nat.lt_of_lt_of_le (Nat.lt_of_lt_of_le (blk_lt aE) (Nat.le_refl _)) aD))
 have aU := hT.below aF.1 a4 (aF.1).size
 clear hT
 refine list_step rfl (R := fun v w' => Below _ _ w' ∧ (IsV (.slice A9 ab.length C9)) v w') (does_val (x_assign rfl (hS.get 1 rfl)) rfl) ?_
 rintro bu bJ ⟨hb, he⟩
 have a5 := below_step aU hb
 have aV := below_step (bR bt) hb
 obtain rfl : bu = .slice A9 ab.length C9 := he
 refine hS.next (v := .slice A9 ab.length C9) (d := 5) rfl (by decide) (by rfl) ?_
 clear hS
 intro bV hS
 refine list_step rfl (R := fun v w' => Below _ _ w' ∧ (VI aa) v w') (does_val (x_assign rfl (hS.get 1 rfl)) rfl) ?_
 rintro bv b2 ⟨hb, he⟩
 have a6 := below_step a5 hb
 have aJ := below_step aV hb
 have bo := below_step (bR bJ) hb
 obtain rfl : bv = .int .i64 aa := he
 refine hS.next (v := .int .i64 aa) (d := 6) rfl (by decide) (by rfl) ?_
 clear hS
 intro bW hS
 refine wpList_nil ?_
 refine bd _ _ ?_
 refine wp_ret ?_
 (try simp only [Exit.then, Exit.inBlock, Exit.jump, Exit.noGoto])
 exact bodyPost_ret (v := .tuple #[(frame_Here.v1 ar ac au av aw ax ay az aA ad ae af ag ah ai aj ak al am an ao ap aq), .slice A9 ab.length C9, .int .i64 aa]) (results_list (rs := [.cell 4 28, .tmp 5, .tmp 6]) rfl (by simp) (Vals.cell g4 28 (frame_Here.c0 ar ac au av aw ax ay az aA ad ae af ag ah ai aj ak al am an ao ap aq) (0, 0) _ (hS.get 5 rfl) ((aJ.block g4 (blk_lt aK)).trans aK) Try.underlying28 rfl (by kernel_rfl) (Vals.at (hS.get 1 rfl) (Vals.at (hS.get 0 rfl) .nil)))) hS.nodef ⟨.slice A9 ab.length C9, rfl, Kd.R_lower (Kd.R_below be aJ) (a2).size, a6⟩
end Go.Proofs.Ytiomlbkakiienaa.P
