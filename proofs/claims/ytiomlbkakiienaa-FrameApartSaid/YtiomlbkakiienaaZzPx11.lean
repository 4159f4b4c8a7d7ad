/- Functions and loops of the given program as Lean functions, and that the code comes to what they say: written by this session's own program; Lean checks it. -/
import Derived.Test.YtiomlbkakiienaaZzPx0
import Derived.Test.YtiomlbkakiienaaZzPx5
import Derived.Test.YtiomlbkakiienaaZzPx7
import Derived.Test.YtiomlbkakiienaaZzPx9
import Derived.Test.YtiomlbkakiienaaZzPx10
namespace Go.Proofs.Ytiomlbkakiienaa.P
open Go.RowKit Go.Proofs.YtiomlbkakiienaaW.PrintWords Go.Proofs.YtiomlbkakiienaaW.PrintLast Go.Proofs.YtiomlbkakiienaaW.PrintMore
attribute [local go_sem] max2_int min2_int max_two min_two max_three min_three max_four min_four   -- for this text's walks alone
set_option linter.unusedVariables false
set_option linter.unusedSimpArgs false
/-! ### frame_Get: function 14: by our own printer -/
def frame_Get.j1 (k : Nat) (x1_2_0 x1_2_1 x1_2_2 x1_2_3 x1_2_4 x1_2_5 x1_2_6 x1_2_7 x1_2_8 x1_2_9 x1_2_10 x1_2_11 x1_2_12 x1_2_13 x1_2_14 x1_2_15 x1_2_16 x1_2_17 x1_2_18 x1_2_19 x1_2_20 x1_2_21 x1_2_22 x1_9 : Int) : Option (Int × Int × Int × Int × Int × Int × Int × Int × Int × Int × Int × Int × Int × Int × Int × Int × Int × Int × Int × Int × Int × Int × Int × List (S43) × Int) := some (0, 0, 0, 0, 0, 0, 0, 0, 0, 0, 0, 0, 0, 0, 0, 0, 0, 0, 0, 0, 0, 0, 0, [], x1_9)
def frame_Get.f (k : Nat) (a0 : ByteArray) : Option (Int × Int × Int × Int × Int × Int × Int × Int × Int × Int × Int × Int × Int × Int × Int × Int × Int × Int × Int × Int × Int × Int × Int × List (S43) × Int) := if a0.size ≤ 9223372036854775807 then ((header_Get.f k (bytesOf a0)).bind fun t12 => (if t12.2.2.2.2.2.2.2.2.2.2.2.2.2.2.2.2.2.2.2.2.2.2.2.2 = 0 then ((body_Get.f k t12.1 t12.2.1 t12.2.2.1 t12.2.2.2.1 t12.2.2.2.2.1 t12.2.2.2.2.2.1 t12.2.2.2.2.2.2.1 t12.2.2.2.2.2.2.2.1 t12.2.2.2.2.2.2.2.2.1 t12.2.2.2.2.2.2.2.2.2.1 t12.2.2.2.2.2.2.2.2.2.2.1 t12.2.2.2.2.2.2.2.2.2.2.2.1 t12.2.2.2.2.2.2.2.2.2.2.2.2.1 t12.2.2.2.2.2.2.2.2.2.2.2.2.2.1 t12.2.2.2.2.2.2.2.2.2.2.2.2.2.2.1 t12.2.2.2.2.2.2.2.2.2.2.2.2.2.2.2.1 t12.2.2.2.2.2.2.2.2.2.2.2.2.2.2.2.2.1 t12.2.2.2.2.2.2.2.2.2.2.2.2.2.2.2.2.2.1 t12.2.2.2.2.2.2.2.2.2.2.2.2.2.2.2.2.2.2.1 t12.2.2.2.2.2.2.2.2.2.2.2.2.2.2.2.2.2.2.2.1 t12.2.2.2.2.2.2.2.2.2.2.2.2.2.2.2.2.2.2.2.2.1 t12.2.2.2.2.2.2.2.2.2.2.2.2.2.2.2.2.2.2.2.2.2.1 t12.2.2.2.2.2.2.2.2.2.2.2.2.2.2.2.2.2.2.2.2.2.2.1 (bytesOf a0) 34).bind fun t27 => (if t27.2.2.2.2.2.2.2.2.2.2.2.2.2.2.2.2.2.2.2.2.2.2.2.2 = 0 then ((tlv_Get.f k (bytesOf a0) t27.2.2.2.2.2.2.2.2.2.2.2.2.2.2.2.2.2.2.2.2.2.2.2.1).bind fun t40 => (if t40.2 = 0 then (some (t27.1, t27.2.1, t27.2.2.1, t27.2.2.2.1, t27.2.2.2.2.1, t27.2.2.2.2.2.1, t27.2.2.2.2.2.2.1, t27.2.2.2.2.2.2.2.1, t27.2.2.2.2.2.2.2.2.1, t27.2.2.2.2.2.2.2.2.2.1, t27.2.2.2.2.2.2.2.2.2.2.1, t27.2.2.2.2.2.2.2.2.2.2.2.1, t27.2.2.2.2.2.2.2.2.2.2.2.2.1, t27.2.2.2.2.2.2.2.2.2.2.2.2.2.1, t27.2.2.2.2.2.2.2.2.2.2.2.2.2.2.1, t27.2.2.2.2.2.2.2.2.2.2.2.2.2.2.2.1, t27.2.2.2.2.2.2.2.2.2.2.2.2.2.2.2.2.1, t27.2.2.2.2.2.2.2.2.2.2.2.2.2.2.2.2.2.1, t27.2.2.2.2.2.2.2.2.2.2.2.2.2.2.2.2.2.2.1, t27.2.2.2.2.2.2.2.2.2.2.2.2.2.2.2.2.2.2.2.1, t27.2.2.2.2.2.2.2.2.2.2.2.2.2.2.2.2.2.2.2.2.1, t27.2.2.2.2.2.2.2.2.2.2.2.2.2.2.2.2.2.2.2.2.2.1, t27.2.2.2.2.2.2.2.2.2.2.2.2.2.2.2.2.2.2.2.2.2.2.1, t40.1, 0)) else (frame_Get.j1 k 0 0 0 0 0 0 0 0 0 0 0 0 0 0 0 0 0 0 0 0 0 0 0 t40.2))) else (frame_Get.j1 k 0 0 0 0 0 0 0 0 0 0 0 0 0 0 0 0 0 0 0 0 0 0 0 t27.2.2.2.2.2.2.2.2.2.2.2.2.2.2.2.2.2.2.2.2.2.2.2.2))) else (frame_Get.j1 k 0 0 0 0 0 0 0 0 0 0 0 0 0 0 0 0 0 0 0 0 0 0 0 t12.2.2.2.2.2.2.2.2.2.2.2.2.2.2.2.2.2.2.2.2.2.2.2.2))) else (none)
abbrev frame_Get.c0 (x0 x1 x2 x3 x4 x5 x6 x7 x8 x9 x10 x11 x12 x13 x14 x15 x16 x17 x18 x19 x20 x21 x22 : Int) : Array Value := #[.int .i64 x0, .int .i64 x1, .int .i64 x2, .int .i64 x3, .int .u64 x4, .int .i64 x5, .int .i64 x6, .int .i64 x7, .int .i64 x8, .int .u64 x9, .int .i64 x10, .int .i64 x11, .int .i64 x12, .int .i64 x13, .int .i64 x14, .int .i64 x15, .int .i64 x16, .int .u64 x17, .int .i64 x18, .int .i64 x19, .int .i64 x20, .int .i64 x21, .int .i64 x22]
abbrev frame_Get.v1 (x0 x1 x2 x3 x4 x5 x6 x7 x8 x9 x10 x11 x12 x13 x14 x15 x16 x17 x18 x19 x20 x21 x22 : Int) : Value := .agg #[.int .i64 x0, .int .i64 x1, .int .i64 x2, .int .i64 x3, .int .u64 x4, .int .i64 x5, .int .i64 x6, .int .i64 x7, .int .i64 x8, .int .u64 x9, .int .i64 x10, .int .i64 x11, .int .i64 x12, .int .i64 x13, .int .i64 x14, .int .i64 x15, .int .i64 x16, .int .u64 x17, .int .i64 x18, .int .i64 x19, .int .i64 x20, .int .i64 x21, .int .i64 x22]
open Go.Proofs.Ytiomlbkakiienaa.E in
set_option maxHeartbeats 60000000 in
set_option maxRecDepth 100000 in
theorem frame_Get.calls (k : Nat) (a0 : ByteArray) (r1 r2 r3 r4 r5 r6 r7 r8 r9 en eo ep eq er es et eu ev ew ex ey ez eA : Int) (eB : List (S43)) (eC : Int) (w : World) (h : frame_Get.f k a0 = some (r1, r2, r3, r4, r5, r6, r7, r8, r9, en, eo, ep, eq, er, es, et, eu, ev, ew, ex, ey, ez, eA, eB, eC)) :
    Calls Try.prog 14 #[.string a0] w fun e w' => ∃ v0_ : Value, e = .returned (.tuple #[.agg #[.int .i64 r1, .int .i64 r2, .int .i64 r3, .int .i64 r4, .int .u64 r5, .int .i64 r6, .int .i64 r7, .int .i64 r8, .int .i64 r9, .int .u64 en, .int .i64 eo, .int .i64 ep, .int .i64 eq, .int .i64 er, .int .i64 es, .int .i64 et, .int .i64 eu, .int .u64 ev, .int .i64 ew, .int .i64 ex, .int .i64 ey, .int .i64 ez, .int .i64 eA], v0_, .int .i64 eC]) ∧ Kd.R k43 43 w' w.heap.size (fun _ => True) v0_ eB ∧ Below w.heap.size w w' := by
 have H := h
 clear h
 unfold frame_Get.f at H
 refine calls_of_wp (fn := Try.f14) (by kernel_rfl) rfl ?_
 have hS := St.enter #[.string a0] 42 (by simp) [(0, .string a0)] (by simp)
 have dW := Below.refl w.heap.size w
 refine wp_seq_k (fun K1 d3 => ?_)
 refine reg_seq (I := I1_ w) (ps := [IsB (frame_Get.c0 0 0 0 0 0 0 0 0 0 0 0 0 0 0 0 0 0 0 0 0 0 0 0) 28 w.heap.size, IsV (.slice none 0 0), VI 0]) (by kernel_rfl) ?_ ?_ rfl hS dW ?_ ?_
 ·exact bs1
 ·exact .cons (Stays.b _ _ _) (.v (.v (.nil)))
 ·refine .on rfl (fun a w hS hI hp => does_var (x_alloc rfl (by kernel_rfl)) (hI).size) ?_
  iterate 2 refine .on rfl (fun a w hS hI hp => does_val (x_assign rfl (rfl)) rfl) ?_
  exact .nil
 clear hS
 intro em w3 hS dd hp
 obtain ⟨g4, dN, cq, bp⟩ := (show IsB _ 28 _ (sl _ 2) _ from hp 0 (by decide))
 have hS := hS.cons dN
 clear hp dN
 refine d3 _ _ ?_
 refine wp_scope_fwd 0 (fun dL cZ => ∃ (cF cG cH cI cJ cK cL cM cN cO b7 b8 b9 ca cb cc cd ce cf cg ch ci cj : Int) (bE : Nat) (bN : Int) , frame_Get.j1 k cF cG cH cI cJ cK cL cM cN cO b7 b8 b9 ca cb cc cd ce cf cg ch ci cj bN = some (r1, r2, r3, r4, r5, r6, r7, r8, r9, en, eo, ep, eq, er, es, et, eu, ev, ew, ex, ey, ez, eA, eB, eC) ∧ St 42 [(2, .pointer (some ⟨bE, 0, none⟩)), (9, .int .i64 bN)] dL ∧ Below w.heap.size w cZ ∧ w.heap.size ≤ bE ∧ cZ.heap[bE]? = some (.cells (frame_Get.c0 cF cG cH cI cJ cK cL cM cN cO b7 b8 b9 ca cb cc cd ce cf cg ch ci cj) 28 (0, 0))) rfl ?_ (fun J1 => ?_)
 ·clear H hS
  rintro dL cZ ⟨cF, cG, cH, cI, cJ, cK, cL, cM, cN, cO, b7, b8, b9, ca, cb, cc, cd, ce, cf, cg, ch, ci, cj, bE, bN, H, hS, dh, cW, cm⟩
  unfold frame_Get.j1 at H
  (try dsimp only at H)
  simp only [Option.some.injEq, Prod.mk.injEq] at H
  obtain ⟨rfl, rfl, rfl, rfl, rfl, rfl, rfl, rfl, rfl, rfl, rfl, rfl, rfl, rfl, rfl, rfl, rfl, rfl, rfl, rfl, rfl, rfl, rfl, rfl, rfl⟩ := H
  refine wp_seq_k (fun ea du => ?_)
  refine reg_seq_tail 2 (I := I2_ w cZ) (ps := [IsV ((frame_Get.v1 0 0 0 0 0 0 0 0 0 0 0 0 0 0 0 0 0 0 0 0 0 0 0)), VI bN]) (by kernel_rfl) ?_ ?_ rfl hS ⟨dh, (bR cZ)⟩ ?_ ?_
  ·exact bs2
  ·exact .v (.v (.nil))
  ·refine .on rfl (fun a w hS hI hp => does_val (x_build (vs := []) rfl (by rw [Array.toList_map]; exact (show [] = _ from rfl)) (by kernel_rfl)) rfl) ?_
   refine .ms 1 rfl rfl rfl ?_
   exact .nil
  clear hS
  intro d0 eb hS cz hp
  replace hS := (hS.nil).cons (hS.get 0 rfl)
  have dA : sl _ 40 = (frame_Get.v1 0 0 0 0 0 0 0 0 0 0 0 0 0 0 0 0 0 0 0 0 0 0 0) := hp 0 (by decide)
  have dB : sl _ 41 = .int .i64 bN := hp 1 (by decide)
  have hS := hS.cons dA
  have hS := hS.cons dB
  clear hp dA dB
  show wpList _ _ _ [_, _, _] _ _
  refine list_step rfl (does_storeAll (g := bE) (cs := (frame_Get.c0 0 0 0 0 0 0 0 0 0 0 0 0 0 0 0 0 0 0 0 0 0 0 0)) rfl (hS.get 2 rfl) (hS.get 1 rfl) ((cz.2.block bE (blk_lt cm)).trans cm) (by kernel_rfl) (by kernel_rfl) (by kernel_rfl)) ?_
  rintro d7 dG ⟨rfl, cw, hT⟩
  have cR := hT.below cz.1 cW (cz.1).size
  clear hT
  refine list_step rfl (R := fun v w' => Below _ _ w' ∧ (IsV (.slice none 0 0)) v w') (does_val (x_assign rfl (rfl)) rfl) ?_
  rintro dC dH ⟨hb, he⟩
  have cS := below_step cR hb
  have co := below_step (bR dG) hb
  obtain rfl : dC = .slice none 0 0 := he
  refine hS.next (v := .slice none 0 0) (d := 3) rfl (by decide) (by rfl) ?_
  clear hS
  intro d1 hS
  refine list_step rfl (R := fun v w' => Below _ _ w' ∧ (VI bN) v w') (does_val (x_assign rfl (hS.get 1 rfl)) rfl) ?_
  rintro dD ec ⟨hb, he⟩
  have cT := below_step cS hb
  have cp := below_step co hb
  have di := below_step (bR dH) hb
  obtain rfl : dD = .int .i64 bN := he
  refine hS.next (v := .int .i64 bN) (d := 4) rfl (by decide) (by rfl) ?_
  clear hS
  intro d2 hS
  refine wpList_nil ?_
  refine du _ _ ?_
  refine wp_ret ?_
  (try simp only [Exit.then, Exit.inBlock, Exit.jump, Exit.noGoto])
  exact bodyPost_ret (v := .tuple #[(frame_Get.v1 0 0 0 0 0 0 0 0 0 0 0 0 0 0 0 0 0 0 0 0 0 0 0), .slice none 0 0, .int .i64 bN]) (results_list (rs := [.cell 2 28, .tmp 3, .tmp 4]) rfl (by simp) (Vals.cell bE 28 (frame_Get.c0 0 0 0 0 0 0 0 0 0 0 0 0 0 0 0 0 0 0 0 0 0 0 0) (0, 0) _ (hS.get 4 rfl) ((cp.block bE (blk_lt cw)).trans cw) Try.underlying28 rfl (by kernel_rfl) (Vals.at (hS.get 1 rfl) (Vals.at (hS.get 0 rfl) .nil)))) hS.nodef ⟨.slice none 0 0, rfl, Kd.R_nil _ _ _ _ _, cT⟩
 by_cases c1 : a0.size ≤ 9223372036854775807
 rotate_left
 ·rw [if_neg c1] at H
  exact absurd H (by simp)
 rw [if_pos c1] at H
 obtain ⟨d4, cP, H⟩ := Option.bind_eq_some_iff.mp H
 obtain ⟨av, aw, ax, ay, az, aA, aB, aC, aD, ad, ae, af, ag, ah, ai, aj, ak, al, am, an, ao, ap, aq, ac, aa⟩ := d4
 (try dsimp only at H)
 by_cases c2 : aa = 0
 rotate_left
 ·rw [if_neg c2] at H
  refine wp_seq_k (fun K5 cu => ?_)
  refine reg_seq (I := I2_ w w3) (ps := [IsV (.slice none 0 0)]) (by kernel_rfl) ?_ ?_ rfl hS ⟨dd, (bR w3)⟩ ?_ ?_
  ·exact bs2
  ·exact .v (.nil)
  ·refine .on rfl (fun a w hS hI hp => does_val (x_assign rfl (rfl)) rfl) ?_
   exact .nil
  clear hS
  intro ds w7 hS bW hp
  clear hp
  refine cu _ _ ?_
  refine wp_seq_k (fun K8 cv => ?_)
  refine reg_seq (I := I3_ w w3 w7) (ps := [VI 0]) (by kernel_rfl) ?_ ?_ rfl hS ⟨bW.1, bW.2, (bR w7)⟩ ?_ ?_
  ·exact bs3
  ·exact .v (.nil)
  ·refine .on rfl (fun a w hS hI hp => does_val (x_assign rfl (rfl)) rfl) ?_
   exact .nil
  clear hS
  intro dt a8 hS a4 hp
  clear hp
  refine cv _ _ ?_
  refine wp_seq_k (fun dk b1 => ?_)
  refine reg_seq_tail 8 (I := I3_ w w3 a8) (ps := [IsV (.string a0), IsC (Kd.int .u8) (bytesOf a0), IsV (.tuple #[(frame_Get.v1 av aw ax ay az aA aB aC aD ad ae af ag ah ai aj ak al am an ao ap aq), .int .i64 ac, .int .i64 aa]), IsV (.tuple #[(frame_Get.v1 av aw ax ay az aA aB aC aD ad ae af ag ah ai aj ak al am an ao ap aq), .int .i64 ac, .int .i64 aa]), IsV ((frame_Get.v1 av aw ax ay az aA aB aC aD ad ae af ag ah ai aj ak al am an ao ap aq)), VI ac, VI aa, IsB (frame_Get.c0 0 0 0 0 0 0 0 0 0 0 0 0 0 0 0 0 0 0 0 0 0 0 0) 28 a8.heap.size]) (by kernel_rfl) ?_ ?_ rfl hS ⟨a4.1, a4.2.1, (bR a8)⟩ ?_ ?_
  ·exact bs3
  ·exact .v (.cons (Stays.c _ _) (.v (.v (.v (.v (.v (.cons (Stays.b _ _ _) (.nil))))))))
  ·refine .ms 1 rfl rfl rfl ?_
   refine .on rfl (fun a w hS hI hp => does_bytes (e := 5) rfl (by kernel_rfl) (by kernel_rfl) (by kernel_rfl) (hp.V 0 rfl rfl) c1) ?_
   refine .on rfl (fun a w hS hI hp => (hp.V 1 rfl rfl).elim fun A_ h_ => h_.elim fun c_ h_ => h_.elim fun hv_ h_ => h_.elim fun hl_ hc_ => does_call (by kernel_rfl) (ar1 (hv_)) ((header_Get.calls k _ _ (bytesOf a0) av aw ax ay az aA aB aC aD ad ae af ag ah ai aj ak al am an ao ap aq ac aa _ hc_ hl_ cP).mono fun _ _ h => ⟨_, h.1, h.2, rfl⟩)) ?_
   refine .mv 2 rfl rfl rfl rfl ?_
   iterate 3 refine .on rfl (fun a w hS hI hp => does_val (x_extract rfl (hp.V 3 rfl rfl) rfl) rfl) ?_
   refine .on rfl (fun a w hS hI hp => does_var (x_alloc rfl (by kernel_rfl)) (hI.2.2).size) ?_
   exact .nil
  clear hS
  intro c6 cD hS a3 hp
  have bz : sl _ 14 = (frame_Get.v1 av aw ax ay az aA aB aC aD ad ae af ag ah ai aj ak al am an ao ap aq) := hp 4 (by decide)
  have bA : sl _ 15 = .int .i64 ac := hp 5 (by decide)
  have bB : sl _ 16 = .int .i64 aa := hp 6 (by decide)
  obtain ⟨bg, bV, au, be⟩ := (show IsB _ 28 _ (sl _ 7) _ from hp 7 (by decide))
  have hS := hS.cons bz
  have hS := hS.cons bA
  have hS := hS.cons bB
  have hS := hS.cons bV
  clear hp bz bA bB bV
  show wpList _ _ _ [_, _, _] _ _
  refine list_step rfl (does_storeAll (g := bg) (cs := (frame_Get.c0 av aw ax ay az aA aB aC aD ad ae af ag ah ai aj ak al am an ao ap aq)) rfl (hS.get 0 rfl) (hS.get 3 rfl) (((bR cD).block bg (blk_lt be)).trans be) (by kernel_rfl) (by kernel_rfl) (by kernel_rfl)) ?_
  rintro dc bG ⟨rfl, a6, hT⟩
  have bm := hT.below a3.1 (Nat.le_trans (a4.1).size au) (a3.1).size
  have bi := hT.below a3.2.1 (Nat.le_trans (a4.2.1).size au) (a3.2.1).size
  have a9 := hT.below a3.2.2 au (a3.2.2).size
  clear hT
  refine list_step rfl (R := fun v w' => Below _ _ w' ∧ (VI ac) v w') (does_val (x_assign rfl (hS.get 2 rfl)) rfl) ?_
  rintro b3 cE ⟨hb, he⟩
  have bn := below_step bm hb
  have bj := below_step bi hb
  have ba := below_step a9 hb
  have bb := below_step (bR bG) hb
  obtain rfl : b3 = .int .i64 ac := he
  refine hS.next (v := .int .i64 ac) (d := 8) rfl (by decide) (by rfl) ?_
  clear hS
  intro c7 hS
  refine list_step rfl (R := fun v w' => Below _ _ w' ∧ (VI aa) v w') (does_val (x_assign rfl (hS.get 2 rfl)) rfl) ?_
  rintro b4 bX ⟨hb, he⟩
  have bo := below_step bn hb
  have bk := below_step bj hb
  have bc := below_step ba hb
  have bd := below_step bb hb
  have bO := below_step (bR cE) hb
  obtain rfl : b4 = .int .i64 aa := he
  refine hS.next (v := .int .i64 aa) (d := 9) rfl (by decide) (by rfl) ?_
  clear hS
  intro c8 hS
  refine wpList_nil ?_
  refine b1 _ _ ?_
  refine wp_seq_k (fun dl b6 => ?_)
  refine wp_seq_k (fun dm b2 => ?_)
  refine reg_seq (I := I5_ w w3 a8 bG bX) (ps := [VI aa, VB (!decide (aa = 0))]) (by kernel_rfl) ?_ ?_ rfl hS ⟨bo, bk, bc, bd, (bR bX)⟩ ?_ ?_
  ·exact bs5
  ·exact .v (.v (.nil))
  ·refine .ms 0 rfl rfl rfl ?_
   refine .on rfl (fun a w hS hI hp => does_val (x_bin rfl (hp.V 0 rfl rfl) (rfl) (b_neq _ _ _ _ _ _)) rfl) ?_
   exact .nil
  clear hS
  intro c9 b5 hS bf hp
  replace hS := ((((hS.nil).cons (hS.get 7 rfl)).cons (hS.get 6 rfl)).cons (hS.get 2 rfl)).cons (hS.get 0 rfl)
  have bC : sl _ 18 = .bool (!decide (aa = 0)) := hp 1 (by decide)
  have hS := hS.cons bC
  clear hp bC
  refine b2 _ _ ?_
  refine wp_cond_true ((hS.get 0 rfl).trans (bT (congrArg (!·) (decide_eq_false c2)))) ?_
  refine wp_goto ?_
  (try simp only [Exit.then, Exit.inBlock])
  replace hS := ((hS.nil).cons (hS.get 1 rfl)).cons (hS.get 3 rfl)
  exact ⟨rfl, 0, 0, 0, 0, 0, 0, 0, 0, 0, 0, 0, 0, 0, 0, 0, 0, 0, 0, 0, 0, 0, 0, 0, g4, aa, H, hS, bf.1, cq, ((bf.2.1.block g4 (blk_lt bp)).trans bp)⟩
 rw [if_pos c2] at H
 obtain ⟨d5, c5, H⟩ := Option.bind_eq_some_iff.mp H
 obtain ⟨aS, aT, aU, aV, aW, aX, aY, aZ, a1, aE, aF, aG, aH, aI, aJ, aK, aL, aM, aN, aO, aP, aQ, aR, ar, ab⟩ := d5
 (try dsimp only at H)
 by_cases c3 : ab = 0
 rotate_left
 ·rw [if_neg c3] at H
  refine wp_seq_k (fun K5 cu => ?_)
  refine reg_seq (I := I2_ w w3) (ps := [IsV (.slice none 0 0)]) (by kernel_rfl) ?_ ?_ rfl hS ⟨dd, (bR w3)⟩ ?_ ?_
  ·exact bs2
  ·exact .v (.nil)
  ·refine .on rfl (fun a w hS hI hp => does_val (x_assign rfl (rfl)) rfl) ?_
   exact .nil
  clear hS
  intro ds w7 hS bW hp
  clear hp
  refine cu _ _ ?_
  refine wp_seq_k (fun K8 cv => ?_)
  refine reg_seq (I := I3_ w w3 w7) (ps := [VI 0]) (by kernel_rfl) ?_ ?_ rfl hS ⟨bW.1, bW.2, (bR w7)⟩ ?_ ?_
  ·exact bs3
  ·exact .v (.nil)
  ·refine .on rfl (fun a w hS hI hp => does_val (x_assign rfl (rfl)) rfl) ?_
   exact .nil
  clear hS
  intro dt a8 hS a4 hp
  clear hp
  refine cv _ _ ?_
  refine wp_seq_k (fun dk b1 => ?_)
  refine reg_seq_tail 8 (I := I3_ w w3 a8) (ps := [IsV (.string a0), IsC (Kd.int .u8) (bytesOf a0), IsV (.tuple #[(frame_Get.v1 av aw ax ay az aA aB aC aD ad ae af ag ah ai aj ak al am an ao ap aq), .int .i64 ac, .int .i64 aa]), IsV (.tuple #[(frame_Get.v1 av aw ax ay az aA aB aC aD ad ae af ag ah ai aj ak al am an ao ap aq), .int .i64 ac, .int .i64 aa]), IsV ((frame_Get.v1 av aw ax ay az aA aB aC aD ad ae af ag ah ai aj ak al am an ao ap aq)), VI ac, VI aa, IsB (frame_Get.c0 0 0 0 0 0 0 0 0 0 0 0 0 0 0 0 0 0 0 0 0 0 0 0) 28 a8.heap.size]) (by kernel_rfl) ?_ ?_ rfl hS ⟨a4.1, a4.2.1, (bR a8)⟩ ?_ ?_
  ·exact bs3
  ·exact .v (.cons (Stays.c _ _) (.v (.v (.v (.v (.v (.cons (Stays.b _ _ _) (.nil))))))))
  ·refine .ms 1 rfl rfl rfl ?_
   refine .on rfl (fun a w hS hI hp => does_bytes (e := 5) rfl (by kernel_rfl) (by kernel_rfl) (by kernel_rfl) (hp.V 0 rfl rfl) c1) ?_
   refine .on rfl (fun a w hS hI hp => (hp.V 1 rfl rfl).elim fun A_ h_ => h_.elim fun c_ h_ => h_.elim fun hv_ h_ => h_.elim fun hl_ hc_ => does_call (by kernel_rfl) (ar1 (hv_)) ((header_Get.calls k _ _ (bytesOf a0) av aw ax ay az aA aB aC aD ad ae af ag ah ai aj ak al am an ao ap aq ac aa _ hc_ hl_ cP).mono fun _ _ h => ⟨_, h.1, h.2, rfl⟩)) ?_
   refine .mv 2 rfl rfl rfl rfl ?_
   iterate 3 refine .on rfl (fun a w hS hI hp => does_val (x_extract rfl (hp.V 3 rfl rfl) rfl) rfl) ?_
   refine .on rfl (fun a w hS hI hp => does_var (x_alloc rfl (by kernel_rfl)) (hI.2.2).size) ?_
   exact .nil
  clear hS
  intro c6 cD hS a3 hp
  have bz : sl _ 14 = (frame_Get.v1 av aw ax ay az aA aB aC aD ad ae af ag ah ai aj ak al am an ao ap aq) := hp 4 (by decide)
  have bA : sl _ 15 = .int .i64 ac := hp 5 (by decide)
  have bB : sl _ 16 = .int .i64 aa := hp 6 (by decide)
  obtain ⟨bg, bV, au, be⟩ := (show IsB _ 28 _ (sl _ 7) _ from hp 7 (by decide))
  have hS := hS.cons bz
  have hS := hS.cons bA
  have hS := hS.cons bB
  have hS := hS.cons bV
  clear hp bz bA bB bV
  show wpList _ _ _ [_, _, _] _ _
  refine list_step rfl (does_storeAll (g := bg) (cs := (frame_Get.c0 av aw ax ay az aA aB aC aD ad ae af ag ah ai aj ak al am an ao ap aq)) rfl (hS.get 0 rfl) (hS.get 3 rfl) (((bR cD).block bg (blk_lt be)).trans be) (by kernel_rfl) (by kernel_rfl) (by kernel_rfl)) ?_
  rintro dc bG ⟨rfl, a6, hT⟩
  have bm := hT.below a3.1 (Nat.le_trans (a4.1).size au) (a3.1).size
  have bi := hT.below a3.2.1 (Nat.le_trans (a4.2.1).size au) (a3.2.1).size
  have a9 := hT.below a3.2.2 au (a3.2.2).size
  clear hT
  refine list_step rfl (R := fun v w' => Below _ _ w' ∧ (VI ac) v w') (does_val (x_assign rfl (hS.get 2 rfl)) rfl) ?_
  rintro b3 cE ⟨hb, he⟩
  have bn := below_step bm hb
  have bj := below_step bi hb
  have ba := below_step a9 hb
  have bb := below_step (bR bG) hb
  obtain rfl : b3 = .int .i64 ac := he
  refine hS.next (v := .int .i64 ac) (d := 8) rfl (by decide) (by rfl) ?_
  clear hS
  intro c7 hS
  refine list_step rfl (R := fun v w' => Below _ _ w' ∧ (VI aa) v w') (does_val (x_assign rfl (hS.get 2 rfl)) rfl) ?_
  rintro b4 bX ⟨hb, he⟩
  have bo := below_step bn hb
  have bk := below_step bj hb
  have bc := below_step ba hb
  have bd := below_step bb hb
  have bO := below_step (bR cE) hb
  obtain rfl : b4 = .int .i64 aa := he
  refine hS.next (v := .int .i64 aa) (d := 9) rfl (by decide) (by rfl) ?_
  clear hS
  intro c8 hS
  refine wpList_nil ?_
  refine b1 _ _ ?_
  refine wp_seq_k (fun dl b6 => ?_)
  refine wp_seq_k (fun dm b2 => ?_)
  refine reg_seq (I := I5_ w w3 a8 bG bX) (ps := [VI aa, VB (!decide (aa = 0))]) (by kernel_rfl) ?_ ?_ rfl hS ⟨bo, bk, bc, bd, (bR bX)⟩ ?_ ?_
  ·exact bs5
  ·exact .v (.v (.nil))
  ·refine .ms 0 rfl rfl rfl ?_
   refine .on rfl (fun a w hS hI hp => does_val (x_bin rfl (hp.V 0 rfl rfl) (rfl) (b_neq _ _ _ _ _ _)) rfl) ?_
   exact .nil
  clear hS
  intro c9 b5 hS bf hp
  replace hS := ((((hS.nil).cons (hS.get 7 rfl)).cons (hS.get 6 rfl)).cons (hS.get 2 rfl)).cons (hS.get 0 rfl)
  have bC : sl _ 18 = .bool (!decide (aa = 0)) := hp 1 (by decide)
  have hS := hS.cons bC
  clear hp bC
  refine b2 _ _ ?_
  refine wp_cond_false ((hS.get 0 rfl).trans (bF (congrArg (!·) (decide_eq_true c2)))) ?_
  refine wp_skip ?_
  refine b6 _ _ ?_
  refine wp_seq_k (fun dI cQ => ?_)
  refine wp_seq_k (fun dJ cr => ?_)
  refine reg_seq_tail 8 (I := I5_ w w3 a8 bG b5) (ps := [IsV ((frame_Get.v1 av aw ax ay az aA aB aC aD ad ae af ag ah ai aj ak al am an ao ap aq)), IsV (.string a0), IsC (Kd.int .u8) (bytesOf a0), IsV (.tuple #[(frame_Get.v1 aS aT aU aV aW aX aY aZ a1 aE aF aG aH aI aJ aK aL aM aN aO aP aQ aR), .int .i64 ar, .int .i64 ab]), IsV (.tuple #[(frame_Get.v1 aS aT aU aV aW aX aY aZ a1 aE aF aG aH aI aJ aK aL aM aN aO aP aQ aR), .int .i64 ar, .int .i64 ab]), IsV ((frame_Get.v1 aS aT aU aV aW aX aY aZ a1 aE aF aG aH aI aJ aK aL aM aN aO aP aQ aR)), VI ar, VI ab]) (by kernel_rfl) ?_ ?_ rfl hS ⟨bf.1, bf.2.1, bf.2.2.1, bf.2.2.2.1, (bR b5)⟩ ?_ ?_
  ·exact bs5
  ·exact .v (.v (.cons (Stays.c _ _) (.v (.v (.v (.v (.v (.nil))))))))
  ·refine .on rfl (fun a w hS hI hp => does_loadrow rfl (hS.get 2 rfl) (((hI.2.2.2.1).block bg (blk_lt a6)).trans a6) Try.underlying28 rfl (by kernel_rfl) rfl) ?_
   refine .ms 4 rfl rfl rfl ?_
   refine .on rfl (fun a w hS hI hp => does_bytes (e := 5) rfl (by kernel_rfl) (by kernel_rfl) (by kernel_rfl) (hp.V 1 rfl rfl) c1) ?_
   refine .on rfl (fun a w hS hI hp => (hp.V 2 rfl rfl).elim fun A_ h_ => h_.elim fun c_ h_ => h_.elim fun hv_ h_ => h_.elim fun hl_ hc_ => does_call (by kernel_rfl) (ar3 (hp.V 0 rfl rfl) (hv_) (rfl)) ((body_Get.calls k av aw ax ay az aA aB aC aD ad ae af ag ah ai aj ak al am an ao ap aq _ _ (bytesOf a0) 34 aS aT aU aV aW aX aY aZ a1 aE aF aG aH aI aJ aK aL aM aN aO aP aQ aR ar ab _ hc_ hl_ c5).mono fun _ _ h => ⟨_, h.1, h.2, rfl⟩)) ?_
   refine .mv 3 rfl rfl rfl rfl ?_
   iterate 3 refine .on rfl (fun a w hS hI hp => does_val (x_extract rfl (hp.V 4 rfl rfl) rfl) rfl) ?_
   exact .nil
  clear hS
  intro dn dO hS a7 hp
  replace hS := ((((hS.nil).cons (hS.get 4 rfl)).cons (hS.get 3 rfl)).cons (hS.get 2 rfl)).cons (hS.get 1 rfl)
  have bP : sl _ 24 = (frame_Get.v1 aS aT aU aV aW aX aY aZ a1 aE aF aG aH aI aJ aK aL aM aN aO aP aQ aR) := hp 5 (by decide)
  have bQ : sl _ 25 = .int .i64 ar := hp 6 (by decide)
  have bS : sl _ 26 = .int .i64 ab := hp 7 (by decide)
  have hS := hS.cons bP
  have hS := hS.cons bQ
  have hS := hS.cons bS
  clear hp bP bQ bS
  show wpList _ _ _ [_, _, _] _ _
  refine list_step rfl (does_storeAll (g := bg) (cs := (frame_Get.c0 aS aT aU aV aW aX aY aZ a1 aE aF aG aH aI aJ aK aL aM aN aO aP aQ aR)) rfl (hS.get 4 rfl) (hS.get 2 rfl) ((a7.2.2.2.1.block bg (blk_lt a6)).trans a6) (by kernel_rfl) (by kernel_rfl) (by kernel_rfl)) ?_
  rintro dE bL ⟨rfl, bK, hT⟩
  have bH := hT.below a7.1 (Nat.le_trans (a4.1).size au) (a7.1).size
  have bv := hT.below a7.2.1 (Nat.le_trans (a4.2.1).size au) (a7.2.1).size
  have bq := hT.below a7.2.2.1 au (a7.2.2.1).size
  clear hT
  refine list_step rfl (R := fun v w' => Below _ _ w' ∧ (VI ar) v w') (does_val (x_assign rfl (hS.get 1 rfl)) rfl) ?_
  rintro cB cY ⟨hb, he⟩
  have bI := below_step bH hb
  have bw := below_step bv hb
  have br := below_step bq hb
  have bs := below_step (bR bL) hb
  obtain rfl : cB = .int .i64 ar := he
  refine hS.next (v := .int .i64 ar) (d := 6) rfl (by decide) (by rfl) ?_
  clear hS
  intro dp hS
  refine list_step rfl (R := fun v w' => Below _ _ w' ∧ (VI ab) v w') (does_val (x_assign rfl (hS.get 1 rfl)) rfl) ?_
  rintro cC cn ⟨hb, he⟩
  have bJ := below_step bI hb
  have bx := below_step bw hb
  have bt := below_step br hb
  have bu := below_step bs hb
  have ck := below_step (bR cY) hb
  obtain rfl : cC = .int .i64 ab := he
  replace hS := (((((((hS.nil).cons (hS.get 7 rfl)).cons (hS.get 6 rfl)).cons (hS.get 5 rfl)).cons (hS.get 3 rfl)).cons (hS.get 2 rfl)).cons (hS.get 1 rfl)).cons (hS.get 0 rfl)
  refine hS.next (v := .int .i64 ab) (d := 9) rfl (by decide) (by rfl) ?_
  clear hS
  intro dq hS
  refine wpList_nil ?_
  refine cr _ _ ?_
  refine wp_seq_k (fun dK ct => ?_)
  refine reg_seq (I := I5_ w w3 a8 bL cn) (ps := [VI ab, VB (!decide (ab = 0))]) (by kernel_rfl) ?_ ?_ rfl hS ⟨bJ, bx, bt, bu, (bR cn)⟩ ?_ ?_
  ·exact bs5
  ·exact .v (.v (.nil))
  ·refine .ms 0 rfl rfl rfl ?_
   refine .on rfl (fun a w hS hI hp => does_val (x_bin rfl (hp.V 0 rfl rfl) (rfl) (b_neq _ _ _ _ _ _)) rfl) ?_
   exact .nil
  clear hS
  intro dr bh hS bl hp
  replace hS := (((((hS.nil).cons (hS.get 7 rfl)).cons (hS.get 6 rfl)).cons (hS.get 5 rfl)).cons (hS.get 1 rfl)).cons (hS.get 0 rfl)
  have bU : sl _ 28 = .bool (!decide (ab = 0)) := hp 1 (by decide)
  have hS := hS.cons bU
  clear hp bU
  refine ct _ _ ?_
  refine wp_cond_true ((hS.get 0 rfl).trans (bT (congrArg (!·) (decide_eq_false c3)))) ?_
  refine wp_goto ?_
  (try simp only [Exit.then, Exit.inBlock])
  replace hS := ((hS.nil).cons (hS.get 1 rfl)).cons (hS.get 4 rfl)
  exact ⟨rfl, 0, 0, 0, 0, 0, 0, 0, 0, 0, 0, 0, 0, 0, 0, 0, 0, 0, 0, 0, 0, 0, 0, 0, g4, ab, H, hS, bl.1, cq, ((bl.2.1.block g4 (blk_lt bp)).trans bp)⟩
 rw [if_pos c3] at H
 obtain ⟨d6, dj, H⟩ := Option.bind_eq_some_iff.mp H
 obtain ⟨a2, a5⟩ := d6
 (try dsimp only at H)
 by_cases c4 : a5 = 0
 rotate_left
 ·rw [if_neg c4] at H
  refine wp_seq_k (fun K5 cu => ?_)
  refine reg_seq (I := I2_ w w3) (ps := [IsV (.slice none 0 0)]) (by kernel_rfl) ?_ ?_ rfl hS ⟨dd, (bR w3)⟩ ?_ ?_
  ·exact bs2
  ·exact .v (.nil)
  ·refine .on rfl (fun a w hS hI hp => does_val (x_assign rfl (rfl)) rfl) ?_
   exact .nil
  clear hS
  intro ds w7 hS bW hp
  clear hp
  refine cu _ _ ?_
  refine wp_seq_k (fun K8 cv => ?_)
  refine reg_seq (I := I3_ w w3 w7) (ps := [VI 0]) (by kernel_rfl) ?_ ?_ rfl hS ⟨bW.1, bW.2, (bR w7)⟩ ?_ ?_
  ·exact bs3
  ·exact .v (.nil)
  ·refine .on rfl (fun a w hS hI hp => does_val (x_assign rfl (rfl)) rfl) ?_
   exact .nil
  clear hS
  intro dt a8 hS a4 hp
  clear hp
  refine cv _ _ ?_
  refine wp_seq_k (fun dk b1 => ?_)
  refine reg_seq_tail 8 (I := I3_ w w3 a8) (ps := [IsV (.string a0), IsC (Kd.int .u8) (bytesOf a0), IsV (.tuple #[(frame_Get.v1 av aw ax ay az aA aB aC aD ad ae af ag ah ai aj ak al am an ao ap aq), .int .i64 ac, .int .i64 aa]), IsV (.tuple #[(frame_Get.v1 av aw ax ay az aA aB aC aD ad ae af ag ah ai aj ak al am an ao ap aq), .int .i64 ac, .int .i64 aa]), IsV ((frame_Get.v1 av aw ax ay az aA aB aC aD ad ae af ag ah ai aj ak al am an ao ap aq)), VI ac, VI aa, IsB (frame_Get.c0 0 0 0 0 0 0 0 0 0 0 0 0 0 0 0 0 0 0 0 0 0 0 0) 28 a8.heap.size]) (by kernel_rfl) ?_ ?_ rfl hS ⟨a4.1, a4.2.1, (bR a8)⟩ ?_ ?_
  ·exact bs3
  ·exact .v (.cons (Stays.c _ _) (.v (.v (.v (.v (.v (.cons (Stays.b _ _ _) (.nil))))))))
  ·refine .ms 1 rfl rfl rfl ?_
   refine .on rfl (fun a w hS hI hp => does_bytes (e := 5) rfl (by kernel_rfl) (by kernel_rfl) (by kernel_rfl) (hp.V 0 rfl rfl) c1) ?_
   refine .on rfl (fun a w hS hI hp => (hp.V 1 rfl rfl).elim fun A_ h_ => h_.elim fun c_ h_ => h_.elim fun hv_ h_ => h_.elim fun hl_ hc_ => does_call (by kernel_rfl) (ar1 (hv_)) ((header_Get.calls k _ _ (bytesOf a0) av aw ax ay az aA aB aC aD ad ae af ag ah ai aj ak al am an ao ap aq ac aa _ hc_ hl_ cP).mono fun _ _ h => ⟨_, h.1, h.2, rfl⟩)) ?_
   refine .mv 2 rfl rfl rfl rfl ?_
   iterate 3 refine .on rfl (fun a w hS hI hp => does_val (x_extract rfl (hp.V 3 rfl rfl) rfl) rfl) ?_
   refine .on rfl (fun a w hS hI hp => does_var (x_alloc rfl (by kernel_rfl)) (hI.2.2).size) ?_
   exact .nil
  clear hS
  intro c6 cD hS a3 hp
  have bz : sl _ 14 = (frame_Get.v1 av aw ax ay az aA aB aC aD ad ae af ag ah ai aj ak al am an ao ap aq) := hp 4 (by decide)
  have bA : sl _ 15 = .int .i64 ac := hp 5 (by decide)
  have bB : sl _ 16 = .int .i64 aa := hp 6 (by decide)
  obtain ⟨bg, bV, au, be⟩ := (show IsB _ 28 _ (sl _ 7) _ from hp 7 (by decide))
  have hS := hS.cons bz
  have hS := hS.cons bA
  have hS := hS.cons bB
  have hS := hS.cons bV
  clear hp bz bA bB bV
  show wpList _ _ _ [_, _, _] _ _
  refine list_step rfl (does_storeAll (g := bg) (cs := (frame_Get.c0 av aw ax ay az aA aB aC aD ad ae af ag ah ai aj ak al am an ao ap aq)) rfl (hS.get 0 rfl) (hS.get 3 rfl) (((bR cD).block bg (blk_lt be)).trans be) (by kernel_rfl) (by kernel_rfl) (by kernel_rfl)) ?_
  rintro dc bG ⟨rfl, a6, hT⟩
  have bm := hT.below a3.1 (Nat.le_trans (a4.1).size au) (a3.1).size
  have bi := hT.below a3.2.1 (Nat.le_trans (a4.2.1).size au) (a3.2.1).size
  have a9 := hT.below a3.2.2 au (a3.2.2).size
  clear hT
  refine list_step rfl (R := fun v w' => Below _ _ w' ∧ (VI ac) v w') (does_val (x_assign rfl (hS.get 2 rfl)) rfl) ?_
  rintro b3 cE ⟨hb, he⟩
  have bn := below_step bm hb
  have bj := below_step bi hb
  have ba := below_step a9 hb
  have bb := below_step (bR bG) hb
  obtain rfl : b3 = .int .i64 ac := he
  refine hS.next (v := .int .i64 ac) (d := 8) rfl (by decide) (by rfl) ?_
  clear hS
  intro c7 hS
  refine list_step rfl (R := fun v w' => Below _ _ w' ∧ (VI aa) v w') (does_val (x_assign rfl (hS.get 2 rfl)) rfl) ?_
  rintro b4 bX ⟨hb, he⟩
  have bo := below_step bn hb
  have bk := below_step bj hb
  have bc := below_step ba hb
  have bd := below_step bb hb
  have bO := below_step (bR cE) hb
  obtain rfl : b4 = .int .i64 aa := he
  refine hS.next (v := .int .i64 aa) (d := 9) rfl (by decide) (by rfl) ?_
  clear hS
  intro c8 hS
  refine wpList_nil ?_
  refine b1 _ _ ?_
  refine wp_seq_k (fun dl b6 => ?_)
  refine wp_seq_k (fun dm b2 => ?_)
  refine reg_seq (I := I5_ w w3 a8 bG bX) (ps := [VI aa, VB (!decide (aa = 0))]) (by kernel_rfl) ?_ ?_ rfl hS ⟨bo, bk, bc, bd, (bR bX)⟩ ?_ ?_
  ·exact bs5
  ·exact .v (.v (.nil))
  ·refine .ms 0 rfl rfl rfl ?_
   refine .on rfl (fun a w hS hI hp => does_val (x_bin rfl (hp.V 0 rfl rfl) (rfl) (b_neq _ _ _ _ _ _)) rfl) ?_
   exact .nil
  clear hS
  intro c9 b5 hS bf hp
  replace hS := ((((hS.nil).cons (hS.get 7 rfl)).cons (hS.get 6 rfl)).cons (hS.get 2 rfl)).cons (hS.get 0 rfl)
  have bC : sl _ 18 = .bool (!decide (aa = 0)) := hp 1 (by decide)
  have hS := hS.cons bC
  clear hp bC
  refine b2 _ _ ?_
  refine wp_cond_false ((hS.get 0 rfl).trans (bF (congrArg (!·) (decide_eq_true c2)))) ?_
  refine wp_skip ?_
  refine b6 _ _ ?_
  refine wp_seq_k (fun dI cQ => ?_)
  refine wp_seq_k (fun dJ cr => ?_)
  refine reg_seq_tail 8 (I := I5_ w w3 a8 bG b5) (ps := [IsV ((frame_Get.v1 av aw ax ay az aA aB aC aD ad ae af ag ah ai aj ak al am an ao ap aq)), IsV (.string a0), IsC (Kd.int .u8) (bytesOf a0), IsV (.tuple #[(frame_Get.v1 aS aT aU aV aW aX aY aZ a1 aE aF aG aH aI aJ aK aL aM aN aO aP aQ aR), .int .i64 ar, .int .i64 ab]), IsV (.tuple #[(frame_Get.v1 aS aT aU aV aW aX aY aZ a1 aE aF aG aH aI aJ aK aL aM aN aO aP aQ aR), .int .i64 ar, .int .i64 ab]), IsV ((frame_Get.v1 aS aT aU aV aW aX aY aZ a1 aE aF aG aH aI aJ aK aL aM aN aO aP aQ aR)), VI ar, VI ab]) (by kernel_rfl) ?_ ?_ rfl hS ⟨bf.1, bf.2.1, bf.2.2.1, bf.2.2.2.1, (bR b5)⟩ ?_ ?_
  ·exact bs5
  ·exact .v (.v (.cons (Stays.c _ _) (.v (.v (.v (.v (.v (.nil))))))))
  ·refine .on rfl (fun a w hS hI hp => does_loadrow rfl (hS.get 2 rfl) (((hI.2.2.2.1).block bg (blk_lt a6)).trans a6) Try.underlying28 rfl (by kernel_rfl) rfl) ?_
   refine .ms 4 rfl rfl rfl ?_
   refine .on rfl (fun a w hS hI hp => does_bytes (e := 5) rfl (by kernel_rfl) (by kernel_rfl) (by kernel_rfl) (hp.V 1 rfl rfl) c1) ?_
   refine .on rfl (fun a w hS hI hp => (hp.V 2 rfl rfl).elim fun A_ h_ => h_.elim fun c_ h_ => h_.elim fun hv_ h_ => h_.elim fun hl_ hc_ => does_call (by kernel_rfl) (ar3 (hp.V 0 rfl rfl) (hv_) (rfl)) ((body_Get.calls k av aw ax ay az aA aB aC aD ad ae af ag ah ai aj ak al am an ao ap aq _ _ (bytesOf a0) 34 aS aT aU aV aW aX aY aZ a1 aE aF aG aH aI aJ aK aL aM aN aO aP aQ aR ar ab _ hc_ hl_ c5).mono fun _ _ h => ⟨_, h.1, h.2, rfl⟩)) ?_
   refine .mv 3 rfl rfl rfl rfl ?_
   iterate 3 refine .on rfl (fun a w hS hI hp => does_val (x_extract rfl (hp.V 4 rfl rfl) rfl) rfl) ?_
   exact .nil
  clear hS
  intro dn dO hS a7 hp
  replace hS := ((((hS.nil).cons (hS.get 4 rfl)).cons (hS.get 3 rfl)).cons (hS.get 2 rfl)).cons (hS.get 1 rfl)
  have bP : sl _ 24 = (frame_Get.v1 aS aT aU aV aW aX aY aZ a1 aE aF aG aH aI aJ aK aL aM aN aO aP aQ aR) := hp 5 (by decide)
  have bQ : sl _ 25 = .int .i64 ar := hp 6 (by decide)
  have bS : sl _ 26 = .int .i64 ab := hp 7 (by decide)
  have hS := hS.cons bP
  have hS := hS.cons bQ
  have hS := hS.cons bS
  clear hp bP bQ bS
  show wpList _ _ _ [_, _, _] _ _
  refine list_step rfl (does_storeAll (g := bg) (cs := (frame_Get.c0 aS aT aU aV aW aX aY aZ a1 aE aF aG aH aI aJ aK aL aM aN aO aP aQ aR)) rfl (hS.get 4 rfl) (hS.get 2 rfl) ((a7.2.2.2.1.block bg (blk_lt a6)).trans a6) (by kernel_rfl) (by kernel_rfl) (by kernel_rfl)) ?_
  rintro dE bL ⟨rfl, bK, hT⟩
  have bH := hT.below a7.1 (Nat.le_trans (a4.1).size au) (a7.1).size
  have bv := hT.below a7.2.1 (Nat.le_trans (a4.2.1).size au) (a7.2.1).size
  have bq := hT.below a7.2.2.1 au (a7.2.2.1).size
  clear hT
  refine list_step rfl (R := fun v w' => Below _ _ w' ∧ (VI ar) v w') (does_val (x_assign rfl (hS.get 1 rfl)) rfl) ?_
  rintro cB cY ⟨hb, he⟩
  have bI := below_step bH hb
  have bw := below_step bv hb
  have br := below_step bq hb
  have bs := below_step (bR bL) hb
  obtain rfl : cB = .int .i64 ar := he
  refine hS.next (v := .int .i64 ar) (d := 6) rfl (by decide) (by rfl) ?_
  clear hS
  intro dp hS
  refine list_step rfl (R := fun v w' => Below _ _ w' ∧ (VI ab) v w') (does_val (x_assign rfl (hS.get 1 rfl)) rfl) ?_
  rintro cC cn ⟨hb, he⟩
  have bJ := below_step bI hb
  have bx := below_step bw hb
  have bt := below_step br hb
  have bu := below_step bs hb
  have ck := below_step (bR cY) hb
  obtain rfl : cC = .int .i64 ab := he
  replace hS := (((((((hS.nil).cons (hS.get 7 rfl)).cons (hS.get 6 rfl)).cons (hS.get 5 rfl)).cons (hS.get 3 rfl)).cons (hS.get 2 rfl)).cons (hS.get 1 rfl)).cons (hS.get 0 rfl)
  refine hS.next (v := .int .i64 ab) (d := 9) rfl (by decide) (by rfl) ?_
  clear hS
  intro dq hS
  refine wpList_nil ?_
  refine cr _ _ ?_
  refine wp_seq_k (fun dK ct => ?_)
  refine reg_seq (I := I5_ w w3 a8 bL cn) (ps := [VI ab, VB (!decide (ab = 0))]) (by kernel_rfl) ?_ ?_ rfl hS ⟨bJ, bx, bt, bu, (bR cn)⟩ ?_ ?_
  ·exact bs5
  ·exact .v (.v (.nil))
  ·refine .ms 0 rfl rfl rfl ?_
   refine .on rfl (fun a w hS hI hp => does_val (x_bin rfl (hp.V 0 rfl rfl) (rfl) (b_neq _ _ _ _ _ _)) rfl) ?_
   exact .nil
  clear hS
  intro dr bh hS bl hp
  replace hS := (((((hS.nil).cons (hS.get 7 rfl)).cons (hS.get 6 rfl)).cons (hS.get 5 rfl)).cons (hS.get 1 rfl)).cons (hS.get 0 rfl)
  have bU : sl _ 28 = .bool (!decide (ab = 0)) := hp 1 (by decide)
  have hS := hS.cons bU
  clear hp bU
  refine ct _ _ ?_
  refine wp_cond_false ((hS.get 0 rfl).trans (bF (congrArg (!·) (decide_eq_true c3)))) ?_
  refine wp_skip ?_
  refine cQ _ _ ?_
  refine wp_seq_k (fun dX dv => ?_)
  refine wp_seq_k (fun dY da => ?_)
  replace hS := (((((hS.nil).cons (hS.get 5 rfl)).cons (hS.get 4 rfl)).cons (hS.get 3 rfl)).cons (hS.get 2 rfl)).cons (hS.get 0 rfl)
  refine reg_seq (I := I5_ w w3 a8 bL bh) (ps := [IsV (.string a0), IsC (Kd.int .u8) (bytesOf a0), VI ar, IsT (fun v0_ => #[v0_, .int .i64 a5]) (IsR k43 43 bh.heap.size a2), IsT (fun v0_ => #[v0_, .int .i64 a5]) (IsR k43 43 bh.heap.size a2), IsR k43 43 bh.heap.size a2, VI a5, IsR k43 43 bh.heap.size a2, VI a5]) (by kernel_rfl) ?_ ?_ rfl hS ⟨bl.1, bl.2.1, bl.2.2.1, bl.2.2.2.1, (bR bh)⟩ ?_ ?_
  ·exact bs5
  ·exact .v (.cons (Stays.c _ _) (.v (.cons (Stays.t _ (Stays.r _ _ _ _)) (.cons (Stays.t _ (Stays.r _ _ _ _)) (.cons (Stays.r _ _ _ _) (.v (.cons (Stays.r _ _ _ _) (.v (.nil)))))))))
  ·refine .ms 4 rfl rfl rfl ?_
   refine .on rfl (fun a w hS hI hp => does_bytes (e := 5) rfl (by kernel_rfl) (by kernel_rfl) (by kernel_rfl) (hp.V 0 rfl rfl) c1) ?_
   refine .ms 1 rfl rfl rfl ?_
   refine .on rfl (fun a w hS hI hp => (hp.V 1 rfl rfl).elim fun A_ h_ => h_.elim fun c_ h_ => h_.elim fun hv_ h_ => h_.elim fun hl_ hc_ => does_call (by kernel_rfl) (ar2 (hv_) (hp.V 2 rfl rfl)) ((tlv_Get.calls k _ _ (bytesOf a0) ar a2 a5 _ hc_ hl_ dj).mono fun _ _ h => h.elim fun v0 h => ⟨_, h.1, h.2.2, v0, rfl, Kd.R_lower h.2.1 hI.2.2.2.2.size⟩)) ?_
   refine .on rfl (fun a w hS hI hp => does_val (x_move rfl rfl) (hp.V 3 rfl rfl)) ?_
   refine .on rfl (fun a w hS hI hp => (hp.V 4 rfl rfl).elim fun v0 h0 => does_val (x_extract rfl h0.1 rfl) h0.2) ?_
   refine .on rfl (fun a w hS hI hp => (hp.V 4 rfl rfl).elim fun v0 h0 => does_val (x_extract rfl h0.1 rfl) rfl) ?_
   refine .on rfl (fun a w hS hI hp => does_val (x_assign rfl rfl) (hp.V 5 rfl rfl)) ?_
   refine .asg 6 rfl rfl rfl rfl ?_
   exact .nil
  clear hS
  intro dP b0 hS bD hp
  replace hS := ((hS.nil).cons (hS.get 3 rfl)).cons (hS.get 2 rfl)
  obtain ⟨bY, bZ, cy, dT, dS⟩ := Kd.R_reads (show Kd.R k43 43 b0 bh.heap.size (fun _ => True) (sl _ 5) a2 from hp 7 (by decide))
  have dw : Kd.R k43 43 b0 bh.heap.size (fun _ => True) (.slice bY a2.length bZ) a2 := cy ▸ (hp 7 (by decide))
  have cX : sl _ 9 = .int .i64 a5 := hp 8 (by decide)
  have hS := hS.cons cy
  have hS := hS.cons cX
  clear hp cy cX
  refine da _ _ ?_
  refine wp_seq_k (fun dZ db => ?_)
  refine reg_seq (I := I6_ w w3 a8 bL bh b0) (ps := [VI a5, VB (!decide (a5 = 0))]) (by kernel_rfl) ?_ ?_ rfl hS ⟨bD.1, bD.2.1, bD.2.2.1, bD.2.2.2.1, bD.2.2.2.2, (bR b0)⟩ ?_ ?_
  ·exact bs6
  ·exact .v (.v (.nil))
  ·refine .ms 0 rfl rfl rfl ?_
   refine .on rfl (fun a w hS hI hp => does_val (x_bin rfl (hp.V 0 rfl rfl) (rfl) (b_neq _ _ _ _ _ _)) rfl) ?_
   exact .nil
  clear hS
  intro dQ dF hS bM hp
  have cx : sl _ 37 = .bool (!decide (a5 = 0)) := hp 1 (by decide)
  have hS := hS.cons cx
  clear hp cx
  refine db _ _ ?_
  refine wp_cond_true ((hS.get 0 rfl).trans (bT (congrArg (!·) (decide_eq_false c4)))) ?_
  refine wp_goto ?_
  (try simp only [Exit.then, Exit.inBlock])
  replace hS := ((hS.nil).cons (hS.get 1 rfl)).cons (hS.get 4 rfl)
  exact ⟨rfl, 0, 0, 0, 0, 0, 0, 0, 0, 0, 0, 0, 0, 0, 0, 0, 0, 0, 0, 0, 0, 0, 0, 0, g4, a5, H, hS, bM.1, cq, ((bM.2.1.block g4 (blk_lt bp)).trans bp)⟩
 rw [if_pos c4] at H
 simp only [Option.some.injEq, Prod.mk.injEq] at H
 obtain ⟨rfl, rfl, rfl, rfl, rfl, rfl, rfl, rfl, rfl, rfl, rfl, rfl, rfl, rfl, rfl, rfl, rfl, rfl, rfl, rfl, rfl, rfl, rfl, rfl, rfl⟩ := H
 refine wp_seq_k (fun K5 cu => ?_)
 refine reg_seq (I := I2_ w w3) (ps := [IsV (.slice none 0 0)]) (by kernel_rfl) ?_ ?_ rfl hS ⟨dd, (bR w3)⟩ ?_ ?_
 ·exact bs2
 ·exact .v (.nil)
 ·refine .on rfl (fun a w hS hI hp => does_val (x_assign rfl (rfl)) rfl) ?_
  exact .nil
 clear hS
 intro ds w7 hS bW hp
 clear hp
 refine cu _ _ ?_
 refine wp_seq_k (fun K8 cv => ?_)
 refine reg_seq (I := I3_ w w3 w7) (ps := [VI 0]) (by kernel_rfl) ?_ ?_ rfl hS ⟨bW.1, bW.2, (bR w7)⟩ ?_ ?_
 ·exact bs3
 ·exact .v (.nil)
 ·refine .on rfl (fun a w hS hI hp => does_val (x_assign rfl (rfl)) rfl) ?_
  exact .nil
 clear hS
 intro dt a8 hS a4 hp
 clear hp
 refine cv _ _ ?_
 refine wp_seq_k (fun dk b1 => ?_)
 refine reg_seq_tail 8 (I := I3_ w w3 a8) (ps := [IsV (.string a0), IsC (Kd.int .u8) (bytesOf a0), IsV (.tuple #[(frame_Get.v1 av aw ax ay az aA aB aC aD ad ae af ag ah ai aj ak al am an ao ap aq), .int .i64 ac, .int .i64 aa]), IsV (.tuple #[(frame_Get.v1 av aw ax ay az aA aB aC aD ad ae af ag ah ai aj ak al am an ao ap aq), .int .i64 ac, .int .i64 aa]), IsV ((frame_Get.v1 av aw ax ay az aA aB aC aD ad ae af ag ah ai aj ak al am an ao ap aq)), VI ac, VI aa, IsB (frame_Get.c0 0 0 0 0 0 0 0 0 0 0 0 0 0 0 0 0 0 0 0 0 0 0 0) 28 a8.heap.size]) (by kernel_rfl) ?_ ?_ rfl hS ⟨a4.1, a4.2.1, (bR a8)⟩ ?_ ?_
 ·exact bs3
 ·exact .v (.cons (Stays.c _ _) (.v (.v (.v (.v (.v (.cons (Stays.b _ _ _) (.nil))))))))
 ·refine .ms 1 rfl rfl rfl ?_
  refine .on rfl (fun a w hS hI hp => does_bytes (e := 5) rfl (by kernel_rfl) (by kernel_rfl) (by kernel_rfl) (hp.V 0 rfl rfl) c1) ?_
  refine .on rfl (fun a w hS hI hp => (hp.V 1 rfl rfl).elim fun A_ h_ => h_.elim fun c_ h_ => h_.elim fun hv_ h_ => h_.elim fun hl_ hc_ => does_call (by kernel_rfl) (ar1 (hv_)) ((header_Get.calls k _ _ (bytesOf a0) av aw ax ay az aA aB aC aD ad ae af ag ah ai aj ak al am an ao ap aq ac aa _ hc_ hl_ cP).mono fun _ _ h => ⟨_, h.1, h.2, rfl⟩)) ?_
  refine .mv 2 rfl rfl rfl rfl ?_
  iterate 3 refine .on rfl (fun a w hS hI hp => does_val (x_extract rfl (hp.V 3 rfl rfl) rfl) rfl) ?_
  refine .on rfl (fun a w hS hI hp => does_var (x_alloc rfl (by kernel_rfl)) (hI.2.2).size) ?_
  exact .nil
 clear hS
 intro c6 cD hS a3 hp
 have bz : sl _ 14 = (frame_Get.v1 av aw ax ay az aA aB aC aD ad ae af ag ah ai aj ak al am an ao ap aq) := hp 4 (by decide)
 have bA : sl _ 15 = .int .i64 ac := hp 5 (by decide)
 have bB : sl _ 16 = .int .i64 aa := hp 6 (by decide)
 obtain ⟨bg, bV, au, be⟩ := (show IsB _ 28 _ (sl _ 7) _ from hp 7 (by decide))
 have hS := hS.cons bz
 have hS := hS.cons bA
 have hS := hS.cons bB
 have hS := hS.cons bV
 clear hp bz bA bB bV
 show wpList _ _ _ [_, _, _] _ _
 refine list_step rfl (does_storeAll (g := bg) (cs := (frame_Get.c0 av aw ax ay az aA aB aC aD ad ae af ag ah ai aj ak al am an ao ap aq)) rfl (hS.get 0 rfl) (hS.get 3 rfl) (((bR cD).block bg (blk_lt be)).trans be) (by kernel_rfl) (by kernel_rfl) (by kernel_rfl)) ?_
 rintro dc bG ⟨rfl, a6, hT⟩
 have bm := hT.below a3.1 (Nat.le_trans (a4.1).size au) (a3.1).size
 have bi := hT.below a3.2.1 (Nat.le_trans (a4.2.1).size au) (a3.2.1).size
 have a9 := hT.below a3.2.2 au (a3.2.2).size
 clear hT
 refine list_step rfl (R := fun v w' => Below _ _ w' ∧ (VI ac) v w') (does_val (x_assign rfl (hS.get 2 rfl)) rfl) ?_
 rintro b3 cE ⟨hb, he⟩
 have bn := below_step bm hb
 have bj := below_step bi hb
 have ba := below_step a9 hb
 have bb := below_step (bR bG) hb
 obtain rfl : b3 = .int .i64 ac := he
 refine hS.next (v := .int .i64 ac) (d := 8) rfl (by decide) (by rfl) ?_
 clear hS
 intro c7 hS
 refine list_step rfl (R := fun v w' => Below _ _ w' ∧ (VI aa) v w') (does_val (x_assign rfl (hS.get 2 rfl)) rfl) ?_
 rintro b4 bX ⟨hb, he⟩
 have bo := below_step bn hb
 have bk := below_step bj hb
 have bc := below_step ba hb
 have bd := below_step bb hb
 have bO := below_step (bR cE) hb
 obtain rfl : b4 = .int .i64 aa := he
 refine hS.next (v := .int .i64 aa) (d := 9) rfl (by decide) (by rfl) ?_
 clear hS
 intro c8 hS
 refine wpList_nil ?_
 refine b1 _ _ ?_
 refine wp_seq_k (fun dl b6 => ?_)
 refine wp_seq_k (fun dm b2 => ?_)
 refine reg_seq (I := I5_ w w3 a8 bG bX) (ps := [VI aa, VB (!decide (aa = 0))]) (by kernel_rfl) ?_ ?_ rfl hS ⟨bo, bk, bc, bd, (bR bX)⟩ ?_ ?_
 ·exact bs5
 ·exact .v (.v (.nil))
 ·refine .ms 0 rfl rfl rfl ?_
  refine .on rfl (fun a w hS hI hp => does_val (x_bin rfl (hp.V 0 rfl rfl) (rfl) (b_neq _ _ _ _ _ _)) rfl) ?_
  exact .nil
 clear hS
 intro c9 b5 hS bf hp
 replace hS := ((((hS.nil).cons (hS.get 7 rfl)).cons (hS.get 6 rfl)).cons (hS.get 2 rfl)).cons (hS.get 0 rfl)
 have bC : sl _ 18 = .bool (!decide (aa = 0)) := hp 1 (by decide)
 have hS := hS.cons bC
 clear hp bC
 refine b2 _ _ ?_
 refine wp_cond_false ((hS.get 0 rfl).trans (bF (congrArg (!·) (decide_eq_true c2)))) ?_
 refine wp_skip ?_
 refine b6 _ _ ?_
 refine wp_seq_k (fun dI cQ => ?_)
 refine wp_seq_k (fun dJ cr => ?_)
 refine reg_seq_tail 8 (I := I5_ w w3 a8 bG b5) (ps := [IsV ((frame_Get.v1 av aw ax ay az aA aB aC aD ad ae af ag ah ai aj ak al am an ao ap aq)), IsV (.string a0), IsC (Kd.int .u8) (bytesOf a0), IsV (.tuple #[(frame_Get.v1 aS aT aU aV aW aX aY aZ a1 aE aF aG aH aI aJ aK aL aM aN aO aP aQ aR), .int .i64 ar, .int .i64 ab]), IsV (.tuple #[(frame_Get.v1 aS aT aU aV aW aX aY aZ a1 aE aF aG aH aI aJ aK aL aM aN aO aP aQ aR), .int .i64 ar, .int .i64 ab]), IsV ((frame_Get.v1 aS aT aU aV aW aX aY aZ a1 aE aF aG aH aI aJ aK aL aM aN aO aP aQ aR)), VI ar, VI ab]) (by kernel_rfl) ?_ ?_ rfl hS ⟨bf.1, bf.2.1, bf.2.2.1, bf.2.2.2.1, (bR b5)⟩ ?_ ?_
 ·exact bs5
 ·exact .v (.v (.cons (Stays.c _ _) (.v (.v (.v (.v (.v (.nil))))))))
 ·refine .on rfl (fun a w hS hI hp => does_loadrow rfl (hS.get 2 rfl) (((hI.2.2.2.1).block bg (blk_lt a6)).trans a6) Try.underlying28 rfl (by kernel_rfl) rfl) ?_
  refine .ms 4 rfl rfl rfl ?_
  refine .on rfl (fun a w hS hI hp => does_bytes (e := 5) rfl (by kernel_rfl) (by kernel_rfl) (by kernel_rfl) (hp.V 1 rfl rfl) c1) ?_
  refine .on rfl (fun a w hS hI hp => (hp.V 2 rfl rfl).elim fun A_ h_ => h_.elim fun c_ h_ => h_.elim fun hv_ h_ => h_.elim fun hl_ hc_ => does_call (by kernel_rfl) (ar3 (hp.V 0 rfl rfl) (hv_) (rfl)) ((body_Get.calls k av aw ax ay az aA aB aC aD ad ae af ag ah ai aj ak al am an ao ap aq _ _ (bytesOf a0) 34 aS aT aU aV aW aX aY aZ a1 aE aF aG aH aI aJ aK aL aM aN aO aP aQ aR ar ab _ hc_ hl_ c5).mono fun _ _ h => ⟨_, h.1, h.2, rfl⟩)) ?_
  refine .mv 3 rfl rfl rfl rfl ?_
  iterate 3 refine .on rfl (fun a w hS hI hp => does_val (x_extract rfl (hp.V 4 rfl rfl) rfl) rfl) ?_
  exact .nil
 clear hS
 intro dn dO hS a7 hp
 replace hS := ((((hS.nil).cons (hS.get 4 rfl)).cons (hS.get 3 rfl)).cons (hS.get 2 rfl)).cons (hS.get 1 rfl)
 have bP : sl _ 24 = (frame_Get.v1 aS aT aU aV aW aX aY aZ a1 aE aF aG aH aI aJ aK aL aM aN aO aP aQ aR) := hp 5 (by decide)
 have bQ : sl _ 25 = .int .i64 ar := hp 6 (by decide)
 have bS : sl _ 26 = .int .i64 ab := hp 7 (by decide)
 have hS := hS.cons bP
 have hS := hS.cons bQ
 have hS := hS.cons bS
 clear hp bP bQ bS
 show wpList _ _ _ [_, _, _] _ _
 refine list_step rfl (does_storeAll (g := bg) (cs := (frame_Get.c0 aS aT aU aV aW aX aY aZ a1 aE aF aG aH aI aJ aK aL aM aN aO aP aQ aR)) rfl (hS.get 4 rfl) (hS.get 2 rfl) ((a7.2.2.2.1.block bg (blk_lt a6)).trans a6) (by kernel_rfl) (by kernel_rfl) (by kernel_rfl)) ?_
 rintro dE bL ⟨rfl, bK, hT⟩
 have bH := hT.below a7.1 (Nat.le_trans (a4.1).size au) (a7.1).size
 have bv := hT.below a7.2.1 (Nat.le_trans (a4.2.1).size au) (a7.2.1).size
 have bq := hT.below a7.2.2.1 au (a7.2.2.1).size
 clear hT
 refine list_step rfl (R := fun v w' => Below _ _ w' ∧ (VI ar) v w') (does_val (x_assign rfl (hS.get 1 rfl)) rfl) ?_
 rintro cB cY ⟨hb, he⟩
 have bI := below_step bH hb
 have bw := below_step bv hb
 have br := below_step bq hb
 have bs := below_step (bR bL) hb
 obtain rfl : cB = .int .i64 ar := he
 refine hS.next (v := .int .i64 ar) (d := 6) rfl (by decide) (by rfl) ?_
 clear hS
 intro dp hS
 refine list_step rfl (R := fun v w' => Below _ _ w' ∧ (VI ab) v w') (does_val (x_assign rfl (hS.get 1 rfl)) rfl) ?_
 rintro cC cn ⟨hb, he⟩
 have bJ := below_step bI hb
 have bx := below_step bw hb
 have bt := below_step br hb
 have bu := below_step bs hb
 have ck := below_step (bR cY) hb
 obtain rfl : cC = .int .i64 ab := he
 replace hS := (((((((hS.nil).cons (hS.get 7 rfl)).cons (hS.get 6 rfl)).cons (hS.get 5 rfl)).cons (hS.get 3 rfl)).cons (hS.get 2 rfl)).cons (hS.get 1 rfl)).cons (hS.get 0 rfl)
 refine hS.next (v := .int .i64 ab) (d := 9) rfl (by decide) (by rfl) ?_
 clear hS
 intro dq hS
 refine wpList_nil ?_
 refine cr _ _ ?_
 refine wp_seq_k (fun dK ct => ?_)
 refine reg_seq (I := I5_ w w3 a8 bL cn) (ps := [VI ab, VB (!decide (ab = 0))]) (by kernel_rfl) ?_ ?_ rfl hS ⟨bJ, bx, bt, bu, (bR cn)⟩ ?_ ?_
 ·exact bs5
 ·exact .v (.v (.nil))
 ·refine .ms 0 rfl rfl rfl ?_
  refine .on rfl (fun a w hS hI hp => does_val (x_bin rfl (hp.V 0 rfl rfl) (rfl) (b_neq _ _ _ _ _ _)) rfl) ?_
  exact .nil
 clear hS
 intro dr bh hS bl hp
 replace hS := (((((hS.nil).cons (hS.get 7 rfl)).cons (hS.get 6 rfl)).cons (hS.get 5 rfl)).cons (hS.get 1 rfl)).cons (hS.get 0 rfl)
 have bU : sl _ 28 = .bool (!decide (ab = 0)) := hp 1 (by decide)
 have hS := hS.cons bU
 clear hp bU
 refine ct _ _ ?_
 refine wp_cond_false ((hS.get 0 rfl).trans (bF (congrArg (!·) (decide_eq_true c3)))) ?_
 refine wp_skip ?_
 refine cQ _ _ ?_
 refine wp_seq_k (fun dX dv => ?_)
 refine wp_seq_k (fun dY da => ?_)
 replace hS := (((((hS.nil).cons (hS.get 5 rfl)).cons (hS.get 4 rfl)).cons (hS.get 3 rfl)).cons (hS.get 2 rfl)).cons (hS.get 0 rfl)
 refine reg_seq (I := I5_ w w3 a8 bL bh) (ps := [IsV (.string a0), IsC (Kd.int .u8) (bytesOf a0), VI ar, IsT (fun v0_ => #[v0_, .int .i64 a5]) (IsR k43 43 bh.heap.size a2), IsT (fun v0_ => #[v0_, .int .i64 a5]) (IsR k43 43 bh.heap.size a2), IsR k43 43 bh.heap.size a2, VI a5, IsR k43 43 bh.heap.size a2, VI a5]) (by kernel_rfl) ?_ ?_ rfl hS ⟨bl.1, bl.2.1, bl.2.2.1, bl.2.2.2.1, (bR bh)⟩ ?_ ?_
 ·exact bs5
 ·exact .v (.cons (Stays.c _ _) (.v (.cons (Stays.t _ (Stays.r _ _ _ _)) (.cons (Stays.t _ (Stays.r _ _ _ _)) (.cons (Stays.r _ _ _ _) (.v (.cons (Stays.r _ _ _ _) (.v (.nil)))))))))
 ·refine .ms 4 rfl rfl rfl ?_
  refine .on rfl (fun a w hS hI hp => does_bytes (e := 5) rfl (by kernel_rfl) (by kernel_rfl) (by kernel_rfl) (hp.V 0 rfl rfl) c1) ?_
  refine .ms 1 rfl rfl rfl ?_
  refine .on rfl (fun a w hS hI hp => (hp.V 1 rfl rfl).elim fun A_ h_ => h_.elim fun c_ h_ => h_.elim fun hv_ h_ => h_.elim fun hl_ hc_ => does_call (by kernel_rfl) (ar2 (hv_) (hp.V 2 rfl rfl)) ((tlv_Get.calls k _ _ (bytesOf a0) ar a2 a5 _ hc_ hl_ dj).mono fun _ _ h => h.elim fun v0 h => ⟨_, h.1, h.2.2, v0, rfl, Kd.R_lower h.2.1 hI.2.2.2.2.size⟩)) ?_
  refine .on rfl (fun a w hS hI hp => does_val (x_move rfl rfl) (hp.V 3 rfl rfl)) ?_
  refine .on rfl (fun a w hS hI hp => (hp.V 4 rfl rfl).elim fun v0 h0 => does_val (x_extract rfl h0.1 rfl) h0.2) ?_
  refine .on rfl (fun a w hS hI hp => (hp.V 4 rfl rfl).elim fun v0 h0 => does_val (x_extract rfl h0.1 rfl) rfl) ?_
  refine .on rfl (fun a w hS hI hp => does_val (x_assign rfl rfl) (hp.V 5 rfl rfl)) ?_
  refine .asg 6 rfl rfl rfl rfl ?_
  exact .nil
 clear hS
 intro dP b0 hS bD hp
 replace hS := ((hS.nil).cons (hS.get 3 rfl)).cons (hS.get 2 rfl)
 obtain ⟨bY, bZ, cy, dT, dS⟩ := Kd.R_reads (show Kd.R k43 43 b0 bh.heap.size (fun _ => True) (sl _ 5) a2 from hp 7 (by decide))
 have dw : Kd.R k43 43 b0 bh.heap.size (fun _ => True) (.slice bY a2.length bZ) a2 := cy ▸ (hp 7 (by decide))
 have cX : sl _ 9 = .int .i64 a5 := hp 8 (by decide)
 have hS := hS.cons cy
 have hS := hS.cons cX
 clear hp cy cX
 refine da _ _ ?_
 refine wp_seq_k (fun dZ db => ?_)
 refine reg_seq (I := I6_ w w3 a8 bL bh b0) (ps := [VI a5, VB (!decide (a5 = 0))]) (by kernel_rfl) ?_ ?_ rfl hS ⟨bD.1, bD.2.1, bD.2.2.1, bD.2.2.2.1, bD.2.2.2.2, (bR b0)⟩ ?_ ?_
 ·exact bs6
 ·exact .v (.v (.nil))
 ·refine .ms 0 rfl rfl rfl ?_
  refine .on rfl (fun a w hS hI hp => does_val (x_bin rfl (hp.V 0 rfl rfl) (rfl) (b_neq _ _ _ _ _ _)) rfl) ?_
  exact .nil
 clear hS
 intro dQ dF hS bM hp
 have cx : sl _ 37 = .bool (!decide (a5 = 0)) := hp 1 (by decide)
 have hS := hS.cons cx
 clear hp cx
 refine db _ _ ?_
 refine wp_cond_false ((hS.get 0 rfl).trans (bF (congrArg (!·) (decide_eq_true c4)))) ?_
 refine wp_skip ?_
 refine dv _ _ ?_
 refine wp_seq_k (fun ek eg => ?_)
 refine wp_seq_k (fun el dR => ?_)
 refine reg_seq_tail 2 (I := I7_ w w3 a8 bL bh b0 dF) (ps := [IsV ((frame_Get.v1 aS aT aU aV aW aX aY aZ a1 aE aF aG aH aI aJ aK aL aM aN aO aP aQ aR)), IsV (.slice bY a2.length bZ)]) (by kernel_rfl) ?_ ?_ rfl hS ⟨bM.1, bM.2.1, bM.2.2.1, bM.2.2.2.1, bM.2.2.2.2.1, bM.2.2.2.2.2, (bR dF)⟩ ?_ ?_
 ·exact bs7
 ·exact .v (.v (.nil))
 ·refine .on rfl (fun a w hS hI hp => does_loadrow rfl (hS.get 3 rfl) (((hI.2.2.2.1).block bg (blk_lt bK)).trans bK) Try.underlying28 rfl (by kernel_rfl) rfl) ?_
  refine .ms 2 rfl rfl rfl ?_
  exact .nil
 clear hS
 intro ed eD hS cA hp
 replace hS := (hS.nil).cons (hS.get 4 rfl)
 have dy : sl _ 38 = (frame_Get.v1 aS aT aU aV aW aX aY aZ a1 aE aF aG aH aI aJ aK aL aM aN aO aP aQ aR) := hp 0 (by decide)
 have dz : sl _ 39 = .slice bY a2.length bZ := hp 1 (by decide)
 have hS := hS.cons dy
 have hS := hS.cons dz
 clear hp dy dz
 show wpList _ _ _ [_, _, _] _ _
 refine list_step rfl (does_storeAll (g := g4) (cs := (frame_Get.c0 aS aT aU aV aW aX aY aZ a1 aE aF aG aH aI aJ aK aL aM aN aO aP aQ aR)) rfl (hS.get 2 rfl) (hS.get 1 rfl) ((cA.2.1.block g4 (blk_lt bp)).trans bp) (by kernel_rfl) (by kernel_rfl) (by kernel_rfl)) ?_
 rintro ej d8 ⟨rfl, cV, hT⟩
 have dx := hT.row (Kd.R_below dw cA.2.2.2.2.2.1) (Nat.lt_of_lt_of_le (blk_lt bp) (bl.2.1).size)
 have eh := (Kd.R_reads' dx).2.2
 have ei := hT.blk ((cA.2.2.2.1.block bg (blk_lt bK)).trans bK) (Nat.ne_of_gt (Nat.lt_of_lt_of_le (Nat.lt_of_lt_of_le (blk_lt bp) (a4.2.1).size) au))
 have de := hT.below cA.1 cq (cA.1).size
 clear hT
 refine list_step rfl (R := fun v w' => Below _ _ w' ∧ (IsV (.slice bY a2.length bZ)) v w') (does_val (x_assign rfl (hS.get 0 rfl)) rfl) ?_
 rintro dU d9 ⟨hb, he⟩
 have df := below_step de hb
 have cU := below_step (bR d8) hb
 obtain rfl : dU = .slice bY a2.length bZ := he
 refine hS.next (v := .slice bY a2.length bZ) (d := 3) rfl (by decide) (by rfl) ?_
 clear hS
 intro ee hS
 refine list_step rfl (R := fun v w' => Below _ _ w' ∧ (VI 0) v w') (does_val (x_assign rfl (rfl)) rfl) ?_
 rintro dV eE ⟨hb, he⟩
 have dg := below_step df hb
 have cl := below_step cU hb
 have dM := below_step (bR d9) hb
 obtain rfl : dV = .int .i64 0 := he
 refine hS.next (v := .int .i64 0) (d := 4) rfl (by decide) (by rfl) ?_
 clear hS
 intro ef hS
 refine wpList_nil ?_
 refine dR _ _ ?_
 refine wp_ret ?_
 (try simp only [Exit.then, Exit.inBlock, Exit.jump, Exit.noGoto])
 exact bodyPost_ret (v := .tuple #[(frame_Get.v1 aS aT aU aV aW aX aY aZ a1 aE aF aG aH aI aJ aK aL aM aN aO aP aQ aR), .slice bY a2.length bZ, .int .i64 0]) (results_list (rs := [.cell 2 28, .tmp 3, .tmp 4]) rfl (by simp) (Vals.cell g4 28 (frame_Get.c0 aS aT aU aV aW aX aY aZ a1 aE aF aG aH aI aJ aK aL aM aN aO aP aQ aR) (0, 0) _ (hS.get 4 rfl) ((cl.block g4 (blk_lt cV)).trans cV) Try.underlying28 rfl (by kernel_rfl) (Vals.at (hS.get 1 rfl) (Vals.at (hS.get 0 rfl) .nil)))) hS.nodef ⟨.slice bY a2.length bZ, rfl, Kd.R_lower (Kd.R_below dx cl) (bl.1).size, dg⟩
/-! ### carillonlaw09_awake: function 10: by our own printer -/
def carillonlaw09_awake.f (k : Nat)  : Option (Bool) := (frame_Put.f k 0 0 0 0 0 0 0 0 0 0 0 0 0 0 0 0 0 0 0 0 0 0 0 []).bind fun t5 => ((frame_Get.f k t5.1).bind fun t9 => (if t5.2 = true then (if (t5.1.size : Int) = 44 then (if t9.2.2.2.2.2.2.2.2.2.2.2.2.2.2.2.2.2.2.2.2.2.2.2.2 = 0 then (if ((t9.1 == 0) && ((t9.2.1 == 0) && ((t9.2.2.1 == 0) && ((t9.2.2.2.1 == 0) && ((t9.2.2.2.2.1 == 0) && ((t9.2.2.2.2.2.1 == 0) && ((t9.2.2.2.2.2.2.1 == 0) && ((t9.2.2.2.2.2.2.2.1 == 0) && ((t9.2.2.2.2.2.2.2.2.1 == 0) && ((t9.2.2.2.2.2.2.2.2.2.1 == 0) && ((t9.2.2.2.2.2.2.2.2.2.2.1 == 0) && ((t9.2.2.2.2.2.2.2.2.2.2.2.1 == 0) && ((t9.2.2.2.2.2.2.2.2.2.2.2.2.1 == 0) && ((t9.2.2.2.2.2.2.2.2.2.2.2.2.2.1 == 0) && ((t9.2.2.2.2.2.2.2.2.2.2.2.2.2.2.1 == 0) && ((t9.2.2.2.2.2.2.2.2.2.2.2.2.2.2.2.1 == 0) && ((t9.2.2.2.2.2.2.2.2.2.2.2.2.2.2.2.2.1 == 0) && ((t9.2.2.2.2.2.2.2.2.2.2.2.2.2.2.2.2.2.1 == 0) && ((t9.2.2.2.2.2.2.2.2.2.2.2.2.2.2.2.2.2.2.1 == 0) && ((t9.2.2.2.2.2.2.2.2.2.2.2.2.2.2.2.2.2.2.2.1 == 0) && ((t9.2.2.2.2.2.2.2.2.2.2.2.2.2.2.2.2.2.2.2.2.1 == 0) && ((t9.2.2.2.2.2.2.2.2.2.2.2.2.2.2.2.2.2.2.2.2.2.1 == 0) && (t9.2.2.2.2.2.2.2.2.2.2.2.2.2.2.2.2.2.2.2.2.2.2.1 == 0))))))))))))))))))))))) = true then (some (decide ((t9.2.2.2.2.2.2.2.2.2.2.2.2.2.2.2.2.2.2.2.2.2.2.2.1.length : Int) = 0))) else (some false)) else (some false)) else (some false)) else (some false)))
open Go.Proofs.Ytiomlbkakiienaa.E in
set_option maxRecDepth 100000 in
theorem carillonlaw09_awake.eql28 (x y : Operand) (w : World) (a0 a1 a2 a3 a4 a5 a6 a7 a8 a9 a10 a11 a12 a13 a14 a15 a16 a17 a18 a19 a20 a21 a22 b0 b1 b2 b3 b4 b5 b6 b7 b8 b9 b10 b11 b12 b13 b14 b15 b16 b17 b18 b19 b20 b21 b22 : Int) : (do eqGuard .eql 28 x y (.agg #[.int .i64 a0, .int .i64 a1, .int .i64 a2, .int .i64 a3, .int .u64 a4, .int .i64 a5, .int .i64 a6, .int .i64 a7, .int .i64 a8, .int .u64 a9, .int .i64 a10, .int .i64 a11, .int .i64 a12, .int .i64 a13, .int .i64 a14, .int .i64 a15, .int .i64 a16, .int .u64 a17, .int .i64 a18, .int .i64 a19, .int .i64 a20, .int .i64 a21, .int .i64 a22]) (.agg #[.int .i64 b0, .int .i64 b1, .int .i64 b2, .int .i64 b3, .int .u64 b4, .int .i64 b5, .int .i64 b6, .int .i64 b7, .int .i64 b8, .int .u64 b9, .int .i64 b10, .int .i64 b11, .int .i64 b12, .int .i64 b13, .int .i64 b14, .int .i64 b15, .int .i64 b16, .int .u64 b17, .int .i64 b18, .int .i64 b19, .int .i64 b20, .int .i64 b21, .int .i64 b22]); binOp .eql 28 (.agg #[.int .i64 a0, .int .i64 a1, .int .i64 a2, .int .i64 a3, .int .u64 a4, .int .i64 a5, .int .i64 a6, .int .i64 a7, .int .i64 a8, .int .u64 a9, .int .i64 a10, .int .i64 a11, .int .i64 a12, .int .i64 a13, .int .i64 a14, .int .i64 a15, .int .i64 a16, .int .u64 a17, .int .i64 a18, .int .i64 a19, .int .i64 a20, .int .i64 a21, .int .i64 a22]) (.agg #[.int .i64 b0, .int .i64 b1, .int .i64 b2, .int .i64 b3, .int .u64 b4, .int .i64 b5, .int .i64 b6, .int .i64 b7, .int .i64 b8, .int .u64 b9, .int .i64 b10, .int .i64 b11, .int .i64 b12, .int .i64 b13, .int .i64 b14, .int .i64 b15, .int .i64 b16, .int .u64 b17, .int .i64 b18, .int .i64 b19, .int .i64 b20, .int .i64 b21, .int .i64 b22]) : Sem Value).run Try.prog w = .ok (.bool ((a0 == b0) && ((a1 == b1) && ((a2 == b2) && ((a3 == b3) && ((a4 == b4) && ((a5 == b5) && ((a6 == b6) && ((a7 == b7) && ((a8 == b8) && ((a9 == b9) && ((a10 == b10) && ((a11 == b11) && ((a12 == b12) && ((a13 == b13) && ((a14 == b14) && ((a15 == b15) && ((a16 == b16) && ((a17 == b17) && ((a18 == b18) && ((a19 == b19) && ((a20 == b20) && ((a21 == b21) && (a22 == b22)))))))))))))))))))))))) w := by
  have hu3 := Try.underlying3
  have hu22 := Try.underlying22
  have hu24 := Try.underlying24
  have hu26 := Try.underlying26
  have hu28 := Try.underlying28
  conv => lhs; simp [eqGuard, go_sem, hu3, hu22, hu24, hu26, hu28]
  exact ite_and (ite_and (ite_and (ite_and (ite_and (ite_and (ite_and (ite_and (ite_and (ite_and (ite_and (ite_and (ite_and (ite_and (ite_and (ite_and (ite_and (ite_and (ite_and (ite_and (ite_and (ite_and (ite_last))))))))))))))))))))))
abbrev carillonlaw09_awake.v0 (x0 x1 x2 x3 x4 x5 x6 x7 x8 x9 x10 x11 x12 x13 x14 x15 x16 x17 x18 x19 x20 x21 x22 : Int) : Value := .agg #[.int .i64 x0, .int .i64 x1, .int .i64 x2, .int .i64 x3, .int .u64 x4, .int .i64 x5, .int .i64 x6, .int .i64 x7, .int .i64 x8, .int .u64 x9, .int .i64 x10, .int .i64 x11, .int .i64 x12, .int .i64 x13, .int .i64 x14, .int .i64 x15, .int .i64 x16, .int .u64 x17, .int .i64 x18, .int .i64 x19, .int .i64 x20, .int .i64 x21, .int .i64 x22]
abbrev carillonlaw09_awake.c1 (x0 x1 x2 x3 x4 x5 x6 x7 x8 x9 x10 x11 x12 x13 x14 x15 x16 x17 x18 x19 x20 x21 x22 : Int) : Array Value := #[.int .i64 x0, .int .i64 x1, .int .i64 x2, .int .i64 x3, .int .u64 x4, .int .i64 x5, .int .i64 x6, .int .i64 x7, .int .i64 x8, .int .u64 x9, .int .i64 x10, .int .i64 x11, .int .i64 x12, .int .i64 x13, .int .i64 x14, .int .i64 x15, .int .i64 x16, .int .u64 x17, .int .i64 x18, .int .i64 x19, .int .i64 x20, .int .i64 x21, .int .i64 x22]
open Go.Proofs.Ytiomlbkakiienaa.E in
set_option maxHeartbeats 60000000 in
set_option maxRecDepth 100000 in
theorem carillonlaw09_awake.calls (k : Nat) (r : Bool) (w : World) (h : carillonlaw09_awake.f k  = some r) :
    Calls Try.prog 10 #[] w fun e w' => e = .returned (.bool r) ∧ Below w.heap.size w w' := by
 have H := h
 clear h
 unfold carillonlaw09_awake.f at H
 obtain ⟨t5, bz, H⟩ := Option.bind_eq_some_iff.mp H
 obtain ⟨ac, ar⟩ := t5
 (try dsimp only at H)
 obtain ⟨t9, bA, H⟩ := Option.bind_eq_some_iff.mp H
 obtain ⟨au, av, aw, ax, ay, az, aA, aB, aC, ad, ae, af, ag, ah, ai, aj, ak, al, am, an, ao, ap, aq, aa, ab⟩ := t9
 (try dsimp only at H)
 by_cases c1 : ar = true
 rotate_left
 ·rw [if_neg c1] at H
  obtain rfl := Option.some.inj H
  refine calls_of_wp (fn := Try.f10) (by kernel_rfl) rfl ?_
  have hS := St.enter #[] 37 (by simp) [] (by simp)
  have bk := Below.refl w.heap.size w
  refine wp_seq_k (fun K1 bl => ?_)
  refine reg_seq (I := I1_ w) (ps := [VB false]) (by kernel_rfl) ?_ ?_ rfl hS bk ?_ ?_
  ·exact bs1
  ·exact .v (.nil)
  ·refine .on rfl (fun a w hS hI hp => does_val (x_assign rfl (rfl)) rfl) ?_
   exact .nil
  clear hS
  intro bC w3 hS bo hp
  clear hp
  refine bl _ _ ?_
  refine wp_seq_k (fun K4 bm => ?_)
  refine reg_seq (I := I2_ w w3) (ps := [IsV ((carillonlaw09_awake.v0 0 0 0 0 0 0 0 0 0 0 0 0 0 0 0 0 0 0 0 0 0 0 0)), IsV (.tuple #[.string ac, .bool ar]), IsV (.tuple #[.string ac, .bool ar]), IsV (.string ac), VB ar, IsV (.string ac), VB ar]) (by kernel_rfl) ?_ ?_ rfl hS ⟨bo, (bR w3)⟩ ?_ ?_
  ·exact bs2
  ·exact .v (.v (.v (.v (.v (.v (.v (.nil)))))))
  ·refine .on rfl (fun a w hS hI hp => does_val (x_build (vs := []) rfl (by rw [Array.toList_map]; exact (show [] = _ from rfl)) (by kernel_rfl)) rfl) ?_
   refine .on rfl (fun a w hS hI hp => does_call (by kernel_rfl) (ar2 (hp.V 0 rfl rfl) (rfl)) ((frame_Put.calls k 0 0 0 0 0 0 0 0 0 0 0 0 0 0 0 0 0 0 0 0 0 0 0 _ _ [] ac ar _ (Kd.C_nil _ _) (Nat.le_refl _) bz).mono fun _ _ h => ⟨_, h.1, h.2, rfl⟩)) ?_
   refine .mv 1 rfl rfl rfl rfl ?_
   iterate 2 refine .on rfl (fun a w hS hI hp => does_val (x_extract rfl (hp.V 2 rfl rfl) rfl) rfl) ?_
   refine .asg 3 rfl rfl rfl rfl ?_
   refine .asg 4 rfl rfl rfl rfl ?_
   exact .nil
  clear hS
  intro bD w7 hS bb hp
  have aY : sl _ 1 = .string ac := hp 5 (by decide)
  have aZ : sl _ 2 = .bool ar := hp 6 (by decide)
  have hS := hS.cons aY
  have hS := hS.cons aZ
  clear hp aY aZ
  refine bm _ _ ?_
  refine wp_seq_k (fun K8 bn => ?_)
  refine reg_seq_tail 7 (I := I2_ w w7) (ps := [IsV (.string ac), IsT (fun v0_ => #[(carillonlaw09_awake.v0 au av aw ax ay az aA aB aC ad ae af ag ah ai aj ak al am an ao ap aq), v0_, .int .i64 ab]) (IsR k43 43 w7.heap.size aa), IsT (fun v0_ => #[(carillonlaw09_awake.v0 au av aw ax ay az aA aB aC ad ae af ag ah ai aj ak al am an ao ap aq), v0_, .int .i64 ab]) (IsR k43 43 w7.heap.size aa), IsV ((carillonlaw09_awake.v0 au av aw ax ay az aA aB aC ad ae af ag ah ai aj ak al am an ao ap aq)), IsR k43 43 w7.heap.size aa, VI ab, IsB (carillonlaw09_awake.c1 0 0 0 0 0 0 0 0 0 0 0 0 0 0 0 0 0 0 0 0 0 0 0) 28 w7.heap.size]) (by kernel_rfl) ?_ ?_ rfl hS ⟨bb.1, (bR w7)⟩ ?_ ?_
  ·exact bs2
  ·exact .v (.cons (Stays.t _ (Stays.r _ _ _ _)) (.cons (Stays.t _ (Stays.r _ _ _ _)) (.v (.cons (Stays.r _ _ _ _) (.v (.cons (Stays.b _ _ _) (.nil)))))))
  ·refine .ms 1 rfl rfl rfl ?_
   refine .on rfl (fun a w hS hI hp => does_call (by kernel_rfl) (ar1 (hp.V 0 rfl rfl)) ((frame_Get.calls k ac au av aw ax ay az aA aB aC ad ae af ag ah ai aj ak al am an ao ap aq aa ab _  bA).mono fun _ _ h => h.elim fun v0 h => ⟨_, h.1, h.2.2, v0, rfl, Kd.R_lower h.2.1 hI.2.size⟩)) ?_
   refine .on rfl (fun a w hS hI hp => does_val (x_move rfl rfl) (hp.V 1 rfl rfl)) ?_
   refine .on rfl (fun a w hS hI hp => (hp.V 2 rfl rfl).elim fun v0 h0 => does_val (x_extract rfl h0.1 rfl) rfl) ?_
   refine .on rfl (fun a w hS hI hp => (hp.V 2 rfl rfl).elim fun v0 h0 => does_val (x_extract rfl h0.1 rfl) h0.2) ?_
   refine .on rfl (fun a w hS hI hp => (hp.V 2 rfl rfl).elim fun v0 h0 => does_val (x_extract rfl h0.1 rfl) rfl) ?_
   refine .on rfl (fun a w hS hI hp => does_var (x_alloc rfl (by kernel_rfl)) (hI.2).size) ?_
   exact .nil
  clear hS
  intro bq aI hS aE hp
  have aT : sl _ 14 = (carillonlaw09_awake.v0 au av aw ax ay az aA aB aC ad ae af ag ah ai aj ak al am an ao ap aq) := hp 3 (by decide)
  obtain ⟨aN, aO, aM, bw, bu⟩ := Kd.R_reads (show Kd.R k43 43 aI w7.heap.size (fun _ => True) (sl _ 15) aa from hp 4 (by decide))
  have bf : Kd.R k43 43 aI w7.heap.size (fun _ => True) (.slice aN aa.length aO) aa := aM ▸ (hp 4 (by decide))
  have aU : sl _ 16 = .int .i64 ab := hp 5 (by decide)
  obtain ⟨aS, ba, aH, aD⟩ := (show IsB _ 28 _ (sl _ 3) _ from hp 6 (by decide))
  have hS := hS.cons aT
  have hS := hS.cons aM
  have hS := hS.cons aU
  have hS := hS.cons ba
  clear hp aT aM aU ba
  show wpList _ _ _ [_, _, _] _ _
  refine list_step rfl (does_storeAll (g := aS) (cs := (carillonlaw09_awake.c1 au av aw ax ay az aA aB aC ad ae af ag ah ai aj ak al am an ao ap aq)) rfl (hS.get 0 rfl) (hS.get 3 rfl) (((bR aI).block aS (blk_lt aD)).trans aD) (by kernel_rfl) (by kernel_rfl) (by kernel_rfl)) ?_
  rintro bx bc ⟨rfl, aV, hT⟩
  have bg := hT.rowT rfl (((bR aI).block aS (blk_lt aD)).trans aD) (Kd.R_below bf (bR aI)) (by decide)
  have bv := (Kd.R_reads' bg).2.2
  have aP := hT.below aE.1 (Nat.le_trans (bb.1).size aH) (aE.1).size
  have aJ := hT.below aE.2 aH (aE.2).size
  clear hT
  refine list_step rfl (R := fun v w' => Below _ _ w' ∧ (IsV (.slice aN aa.length aO)) v w') (does_val (x_assign rfl (hS.get 2 rfl)) rfl) ?_
  rintro bi bp ⟨hb, he⟩
  have aQ := below_step aP hb
  have aK := below_step aJ hb
  have aF := below_step (bR bc) hb
  obtain rfl : bi = .slice aN aa.length aO := he
  refine hS.next (v := .slice aN aa.length aO) (d := 4) rfl (by decide) (by rfl) ?_
  clear hS
  intro br hS
  refine list_step rfl (R := fun v w' => Below _ _ w' ∧ (VI ab) v w') (does_val (x_assign rfl (hS.get 2 rfl)) rfl) ?_
  rintro bj bd ⟨hb, he⟩
  have aR := below_step aQ hb
  have aL := below_step aK hb
  have aG := below_step aF hb
  have aW := below_step (bR bp) hb
  obtain rfl : bj = .int .i64 ab := he
  refine hS.next (v := .int .i64 ab) (d := 5) rfl (by decide) (by rfl) ?_
  clear hS
  intro bs hS
  refine wpList_nil ?_
  refine bn _ _ ?_
  refine wp_seq_k (fun bB be => ?_)
  refine reg_seq (I := I4_ w w7 bc bd) (ps := [VB ar, VB ar, VU, VU, VU, VB false, VB false, VU, VU, VB false, VB false, VU, VU, VU, VB false, VB false, VU, VU, VU, VB false, VB false]) (by kernel_rfl) ?_ ?_ rfl hS ⟨aR, aL, aG, (bR bd)⟩ ?_ ?_
  ·exact bs4
  ·exact .v (.v (.v (.v (.v (.v (.v (.v (.v (.v (.v (.v (.v (.v (.v (.v (.v (.v (.v (.v (.v (.nil)))))))))))))))))))))
  ·refine .ms 6 rfl rfl rfl ?_
   refine .mv 0 rfl rfl rfl rfl ?_
   iterate 3 refine .sn 1 18 rfl rfl rfl rfl rfl ((Bool.eq_false_iff.2 c1)) ?_
   refine .pf 1 rfl rfl rfl rfl ((Bool.eq_false_iff.2 c1)) (fun _ => rfl) ?_
   refine .mv 5 rfl rfl rfl rfl ?_
   iterate 2 refine .sn 6 23 rfl rfl rfl rfl rfl rfl ?_
   refine .pf 6 rfl rfl rfl rfl rfl (fun _ => rfl) ?_
   refine .mv 9 rfl rfl rfl rfl ?_
   iterate 3 refine .sn 10 27 rfl rfl rfl rfl rfl rfl ?_
   refine .pf 10 rfl rfl rfl rfl rfl (fun _ => rfl) ?_
   refine .mv 14 rfl rfl rfl rfl ?_
   iterate 3 refine .sn 15 32 rfl rfl rfl rfl rfl rfl ?_
   refine .pf 15 rfl rfl rfl rfl rfl (fun _ => rfl) ?_
   refine .asg 19 rfl rfl rfl rfl ?_
   exact .nil
  clear hS
  intro bt bE hS bh hp
  replace hS := hS.nil
  have aX : sl _ 0 = .bool false := hp 20 (by decide)
  have hS := hS.cons aX
  clear hp aX
  refine be _ _ ?_
  refine wp_ret ?_
  (try simp only [Exit.then, Exit.inBlock, Exit.jump, Exit.noGoto])
  exact bodyPost_ret (v := .bool false) (results_single rfl (Vals.at (hS.get 0 rfl) .nil)) hS.nodef ⟨rfl, bh.1⟩
 rw [if_pos c1] at H
 by_cases c2 : (ac.size : Int) = 44
 rotate_left
 ·rw [if_neg c2] at H
  obtain rfl := Option.some.inj H
  refine calls_of_wp (fn := Try.f10) (by kernel_rfl) rfl ?_
  have hS := St.enter #[] 37 (by simp) [] (by simp)
  have bk := Below.refl w.heap.size w
  refine wp_seq_k (fun K1 bl => ?_)
  refine reg_seq (I := I1_ w) (ps := [VB false]) (by kernel_rfl) ?_ ?_ rfl hS bk ?_ ?_
  ·exact bs1
  ·exact .v (.nil)
  ·refine .on rfl (fun a w hS hI hp => does_val (x_assign rfl (rfl)) rfl) ?_
   exact .nil
  clear hS
  intro bC w3 hS bo hp
  clear hp
  refine bl _ _ ?_
  refine wp_seq_k (fun K4 bm => ?_)
  refine reg_seq (I := I2_ w w3) (ps := [IsV ((carillonlaw09_awake.v0 0 0 0 0 0 0 0 0 0 0 0 0 0 0 0 0 0 0 0 0 0 0 0)), IsV (.tuple #[.string ac, .bool ar]), IsV (.tuple #[.string ac, .bool ar]), IsV (.string ac), VB ar, IsV (.string ac), VB ar]) (by kernel_rfl) ?_ ?_ rfl hS ⟨bo, (bR w3)⟩ ?_ ?_
  ·exact bs2
  ·exact .v (.v (.v (.v (.v (.v (.v (.nil)))))))
  ·refine .on rfl (fun a w hS hI hp => does_val (x_build (vs := []) rfl (by rw [Array.toList_map]; exact (show [] = _ from rfl)) (by kernel_rfl)) rfl) ?_
   refine .on rfl (fun a w hS hI hp => does_call (by kernel_rfl) (ar2 (hp.V 0 rfl rfl) (rfl)) ((frame_Put.calls k 0 0 0 0 0 0 0 0 0 0 0 0 0 0 0 0 0 0 0 0 0 0 0 _ _ [] ac ar _ (Kd.C_nil _ _) (Nat.le_refl _) bz).mono fun _ _ h => ⟨_, h.1, h.2, rfl⟩)) ?_
   refine .mv 1 rfl rfl rfl rfl ?_
   iterate 2 refine .on rfl (fun a w hS hI hp => does_val (x_extract rfl (hp.V 2 rfl rfl) rfl) rfl) ?_
   refine .asg 3 rfl rfl rfl rfl ?_
   refine .asg 4 rfl rfl rfl rfl ?_
   exact .nil
  clear hS
  intro bD w7 hS bb hp
  have aY : sl _ 1 = .string ac := hp 5 (by decide)
  have aZ : sl _ 2 = .bool ar := hp 6 (by decide)
  have hS := hS.cons aY
  have hS := hS.cons aZ
  clear hp aY aZ
  refine bm _ _ ?_
  refine wp_seq_k (fun K8 bn => ?_)
  refine reg_seq_tail 7 (I := I2_ w w7) (ps := [IsV (.string ac), IsT (fun v0_ => #[(carillonlaw09_awake.v0 au av aw ax ay az aA aB aC ad ae af ag ah ai aj ak al am an ao ap aq), v0_, .int .i64 ab]) (IsR k43 43 w7.heap.size aa), IsT (fun v0_ => #[(carillonlaw09_awake.v0 au av aw ax ay az aA aB aC ad ae af ag ah ai aj ak al am an ao ap aq), v0_, .int .i64 ab]) (IsR k43 43 w7.heap.size aa), IsV ((carillonlaw09_awake.v0 au av aw ax ay az aA aB aC ad ae af ag ah ai aj ak al am an ao ap aq)), IsR k43 43 w7.heap.size aa, VI ab, IsB (carillonlaw09_awake.c1 0 0 0 0 0 0 0 0 0 0 0 0 0 0 0 0 0 0 0 0 0 0 0) 28 w7.heap.size]) (by kernel_rfl) ?_ ?_ rfl hS ⟨bb.1, (bR w7)⟩ ?_ ?_
  ·exact bs2
  ·exact .v (.cons (Stays.t _ (Stays.r _ _ _ _)) (.cons (Stays.t _ (Stays.r _ _ _ _)) (.v (.cons (Stays.r _ _ _ _) (.v (.cons (Stays.b _ _ _) (.nil)))))))
  ·refine .ms 1 rfl rfl rfl ?_
   refine .on rfl (fun a w hS hI hp => does_call (by kernel_rfl) (ar1 (hp.V 0 rfl rfl)) ((frame_Get.calls k ac au av aw ax ay az aA aB aC ad ae af ag ah ai aj ak al am an ao ap aq aa ab _  bA).mono fun _ _ h => h.elim fun v0 h => ⟨_, h.1, h.2.2, v0, rfl, Kd.R_lower h.2.1 hI.2.size⟩)) ?_
   refine .on rfl (fun a w hS hI hp => does_val (x_move rfl rfl) (hp.V 1 rfl rfl)) ?_
   refine .on rfl (fun a w hS hI hp => (hp.V 2 rfl rfl).elim fun v0 h0 => does_val (x_extract rfl h0.1 rfl) rfl) ?_
   refine .on rfl (fun a w hS hI hp => (hp.V 2 rfl rfl).elim fun v0 h0 => does_val (x_extract rfl h0.1 rfl) h0.2) ?_
   refine .on rfl (fun a w hS hI hp => (hp.V 2 rfl rfl).elim fun v0 h0 => does_val (x_extract rfl h0.1 rfl) rfl) ?_
   refine .on rfl (fun a w hS hI hp => does_var (x_alloc rfl (by kernel_rfl)) (hI.2).size) ?_
   exact .nil
  clear hS
  intro bq aI hS aE hp
  have aT : sl _ 14 = (carillonlaw09_awake.v0 au av aw ax ay az aA aB aC ad ae af ag ah ai aj ak al am an ao ap aq) := hp 3 (by decide)
  obtain ⟨aN, aO, aM, bw, bu⟩ := Kd.R_reads (show Kd.R k43 43 aI w7.heap.size (fun _ => True) (sl _ 15) aa from hp 4 (by decide))
  have bf : Kd.R k43 43 aI w7.heap.size (fun _ => True) (.slice aN aa.length aO) aa := aM ▸ (hp 4 (by decide))
  have aU : sl _ 16 = .int .i64 ab := hp 5 (by decide)
  obtain ⟨aS, ba, aH, aD⟩ := (show IsB _ 28 _ (sl _ 3) _ from hp 6 (by decide))
  have hS := hS.cons aT
  have hS := hS.cons aM
  have hS := hS.cons aU
  have hS := hS.cons ba
  clear hp aT aM aU ba
  show wpList _ _ _ [_, _, _] _ _
  refine list_step rfl (does_storeAll (g := aS) (cs := (carillonlaw09_awake.c1 au av aw ax ay az aA aB aC ad ae af ag ah ai aj ak al am an ao ap aq)) rfl (hS.get 0 rfl) (hS.get 3 rfl) (((bR aI).block aS (blk_lt aD)).trans aD) (by kernel_rfl) (by kernel_rfl) (by kernel_rfl)) ?_
  rintro bx bc ⟨rfl, aV, hT⟩
  have bg := hT.rowT rfl (((bR aI).block aS (blk_lt aD)).trans aD) (Kd.R_below bf (bR aI)) (by decide)
  have bv := (Kd.R_reads' bg).2.2
  have aP := hT.below aE.1 (Nat.le_trans (bb.1).size aH) (aE.1).size
  have aJ := hT.below aE.2 aH (aE.2).size
  clear hT
  refine list_step rfl (R := fun v w' => Below _ _ w' ∧ (IsV (.slice aN aa.length aO)) v w') (does_val (x_assign rfl (hS.get 2 rfl)) rfl) ?_
  rintro bi bp ⟨hb, he⟩
  have aQ := below_step aP hb
  have aK := below_step aJ hb
  have aF := below_step (bR bc) hb
  obtain rfl : bi = .slice aN aa.length aO := he
  refine hS.next (v := .slice aN aa.length aO) (d := 4) rfl (by decide) (by rfl) ?_
  clear hS
  intro br hS
  refine list_step rfl (R := fun v w' => Below _ _ w' ∧ (VI ab) v w') (does_val (x_assign rfl (hS.get 2 rfl)) rfl) ?_
  rintro bj bd ⟨hb, he⟩
  have aR := below_step aQ hb
  have aL := below_step aK hb
  have aG := below_step aF hb
  have aW := below_step (bR bp) hb
  obtain rfl : bj = .int .i64 ab := he
  refine hS.next (v := .int .i64 ab) (d := 5) rfl (by decide) (by rfl) ?_
  clear hS
  intro bs hS
  refine wpList_nil ?_
  refine bn _ _ ?_
  refine wp_seq_k (fun bB be => ?_)
  refine reg_seq (I := I4_ w w7 bc bd) (ps := [VB ar, VB ar, IsV (.string ac), VI (ac.size : Int), VB (decide ((ac.size : Int) = 44)), VB (decide ((ac.size : Int) = 44)), VB (decide ((ac.size : Int) = 44)), VU, VU, VB false, VB false, VU, VU, VU, VB false, VB false, VU, VU, VU, VB false, VB false]) (by kernel_rfl) ?_ ?_ rfl hS ⟨aR, aL, aG, (bR bd)⟩ ?_ ?_
  ·exact bs4
  ·exact .v (.v (.v (.v (.v (.v (.v (.v (.v (.v (.v (.v (.v (.v (.v (.v (.v (.v (.v (.v (.v (.nil)))))))))))))))))))))
  ·refine .ms 6 rfl rfl rfl ?_
   refine .mv 0 rfl rfl rfl rfl ?_
   refine .oy 1 18 rfl rfl rfl rfl rfl c1 (fun a w hS hI hp => does_val (x_move rfl (hS.get 7 rfl)) rfl) ?_
   refine .oy 1 18 rfl rfl rfl rfl rfl c1 (fun a w hS hI hp => does_val (x_lenS rfl (by kernel_rfl) (hp.V 2 rfl rfl)) rfl) ?_
   refine .oy 1 18 rfl rfl rfl rfl rfl c1 (fun a w hS hI hp => does_val (x_bin rfl (hp.V 3 rfl rfl) (rfl) (b_eql _ _ _ _ _ _)) rfl) ?_
   refine .pt 1 4 rfl rfl rfl rfl c1 rfl rfl ?_
   refine .mv 5 rfl rfl rfl rfl ?_
   iterate 2 refine .sn 6 23 rfl rfl rfl rfl rfl ((decide_eq_false c2)) ?_
   refine .pf 6 rfl rfl rfl rfl ((decide_eq_false c2)) (fun _ => rfl) ?_
   refine .mv 9 rfl rfl rfl rfl ?_
   iterate 3 refine .sn 10 27 rfl rfl rfl rfl rfl rfl ?_
   refine .pf 10 rfl rfl rfl rfl rfl (fun _ => rfl) ?_
   refine .mv 14 rfl rfl rfl rfl ?_
   iterate 3 refine .sn 15 32 rfl rfl rfl rfl rfl rfl ?_
   refine .pf 15 rfl rfl rfl rfl rfl (fun _ => rfl) ?_
   refine .asg 19 rfl rfl rfl rfl ?_
   exact .nil
  clear hS
  intro bt bE hS bh hp
  replace hS := hS.nil
  have aX : sl _ 0 = .bool false := hp 20 (by decide)
  have hS := hS.cons aX
  clear hp aX
  refine be _ _ ?_
  refine wp_ret ?_
  (try simp only [Exit.then, Exit.inBlock, Exit.jump, Exit.noGoto])
  exact bodyPost_ret (v := .bool false) (results_single rfl (Vals.at (hS.get 0 rfl) .nil)) hS.nodef ⟨rfl, bh.1⟩
 rw [if_pos c2] at H
 by_cases c3 : ab = 0
 rotate_left
 ·rw [if_neg c3] at H
  obtain rfl := Option.some.inj H
  refine calls_of_wp (fn := Try.f10) (by kernel_rfl) rfl ?_
  have hS := St.enter #[] 37 (by simp) [] (by simp)
  have bk := Below.refl w.heap.size w
  refine wp_seq_k (fun K1 bl => ?_)
  refine reg_seq (I := I1_ w) (ps := [VB false]) (by kernel_rfl) ?_ ?_ rfl hS bk ?_ ?_
  ·exact bs1
  ·exact .v (.nil)
  ·refine .on rfl (fun a w hS hI hp => does_val (x_assign rfl (rfl)) rfl) ?_
   exact .nil
  clear hS
  intro bC w3 hS bo hp
  clear hp
  refine bl _ _ ?_
  refine wp_seq_k (fun K4 bm => ?_)
  refine reg_seq (I := I2_ w w3) (ps := [IsV ((carillonlaw09_awake.v0 0 0 0 0 0 0 0 0 0 0 0 0 0 0 0 0 0 0 0 0 0 0 0)), IsV (.tuple #[.string ac, .bool ar]), IsV (.tuple #[.string ac, .bool ar]), IsV (.string ac), VB ar, IsV (.string ac), VB ar]) (by kernel_rfl) ?_ ?_ rfl hS ⟨bo, (bR w3)⟩ ?_ ?_
  ·exact bs2
  ·exact .v (.v (.v (.v (.v (.v (.v (.nil)))))))
  ·refine .on rfl (fun a w hS hI hp => does_val (x_build (vs := []) rfl (by rw [Array.toList_map]; exact (show [] = _ from rfl)) (by kernel_rfl)) rfl) ?_
   refine .on rfl (fun a w hS hI hp => does_call (by kernel_rfl) (ar2 (hp.V 0 rfl rfl) (rfl)) ((frame_Put.calls k 0 0 0 0 0 0 0 0 0 0 0 0 0 0 0 0 0 0 0 0 0 0 0 _ _ [] ac ar _ (Kd.C_nil _ _) (Nat.le_refl _) bz).mono fun _ _ h => ⟨_, h.1, h.2, rfl⟩)) ?_
   refine .mv 1 rfl rfl rfl rfl ?_
   iterate 2 refine .on rfl (fun a w hS hI hp => does_val (x_extract rfl (hp.V 2 rfl rfl) rfl) rfl) ?_
   refine .asg 3 rfl rfl rfl rfl ?_
   refine .asg 4 rfl rfl rfl rfl ?_
   exact .nil
  clear hS
  intro bD w7 hS bb hp
  have aY : sl _ 1 = .string ac := hp 5 (by decide)
  have aZ : sl _ 2 = .bool ar := hp 6 (by decide)
  have hS := hS.cons aY
  have hS := hS.cons aZ
  clear hp aY aZ
  refine bm _ _ ?_
  refine wp_seq_k (fun K8 bn => ?_)
  refine reg_seq_tail 7 (I := I2_ w w7) (ps := [IsV (.string ac), IsT (fun v0_ => #[(carillonlaw09_awake.v0 au av aw ax ay az aA aB aC ad ae af ag ah ai aj ak al am an ao ap aq), v0_, .int .i64 ab]) (IsR k43 43 w7.heap.size aa), IsT (fun v0_ => #[(carillonlaw09_awake.v0 au av aw ax ay az aA aB aC ad ae af ag ah ai aj ak al am an ao ap aq), v0_, .int .i64 ab]) (IsR k43 43 w7.heap.size aa), IsV ((carillonlaw09_awake.v0 au av aw ax ay az aA aB aC ad ae af ag ah ai aj ak al am an ao ap aq)), IsR k43 43 w7.heap.size aa, VI ab, IsB (carillonlaw09_awake.c1 0 0 0 0 0 0 0 0 0 0 0 0 0 0 0 0 0 0 0 0 0 0 0) 28 w7.heap.size]) (by kernel_rfl) ?_ ?_ rfl hS ⟨bb.1, (bR w7)⟩ ?_ ?_
  ·exact bs2
  ·exact .v (.cons (Stays.t _ (Stays.r _ _ _ _)) (.cons (Stays.t _ (Stays.r _ _ _ _)) (.v (.cons (Stays.r _ _ _ _) (.v (.cons (Stays.b _ _ _) (.nil)))))))
  ·refine .ms 1 rfl rfl rfl ?_
   refine .on rfl (fun a w hS hI hp => does_call (by kernel_rfl) (ar1 (hp.V 0 rfl rfl)) ((frame_Get.calls k ac au av aw ax ay az aA aB aC ad ae af ag ah ai aj ak al am an ao ap aq aa ab _  bA).mono fun _ _ h => h.elim fun v0 h => ⟨_, h.1, h.2.2, v0, rfl, Kd.R_lower h.2.1 hI.2.size⟩)) ?_
   refine .on rfl (fun a w hS hI hp => does_val (x_move rfl rfl) (hp.V 1 rfl rfl)) ?_
   refine .on rfl (fun a w hS hI hp => (hp.V 2 rfl rfl).elim fun v0 h0 => does_val (x_extract rfl h0.1 rfl) rfl) ?_
   refine .on rfl (fun a w hS hI hp => (hp.V 2 rfl rfl).elim fun v0 h0 => does_val (x_extract rfl h0.1 rfl) h0.2) ?_
   refine .on rfl (fun a w hS hI hp => (hp.V 2 rfl rfl).elim fun v0 h0 => does_val (x_extract rfl h0.1 rfl) rfl) ?_
   refine .on rfl (fun a w hS hI hp => does_var (x_alloc rfl (by kernel_rfl)) (hI.2).size) ?_
   exact .nil
  clear hS
  intro bq aI hS aE hp
  have aT : sl _ 14 = (carillonlaw09_awake.v0 au av aw ax ay az aA aB aC ad ae af ag ah ai aj ak al am an ao ap aq) := hp 3 (by decide)
  obtain ⟨aN, aO, aM, bw, bu⟩ := Kd.R_reads (show Kd.R k43 43 aI w7.heap.size (fun _ => True) (sl _ 15) aa from hp 4 (by decide))
  have bf : Kd.R k43 43 aI w7.heap.size (fun _ => True) (.slice aN aa.length aO) aa := aM ▸ (hp 4 (by decide))
  have aU : sl _ 16 = .int .i64 ab := hp 5 (by decide)
  obtain ⟨aS, ba, aH, aD⟩ := (show IsB _ 28 _ (sl _ 3) _ from hp 6 (by decide))
  have hS := hS.cons aT
  have hS := hS.cons aM
  have hS := hS.cons aU
  have hS := hS.cons ba
  clear hp aT aM aU ba
  show wpList _ _ _ [_, _, _] _ _
  refine list_step rfl (does_storeAll (g := aS) (cs := (carillonlaw09_awake.c1 au av aw ax ay az aA aB aC ad ae af ag ah ai aj ak al am an ao ap aq)) rfl (hS.get 0 rfl) (hS.get 3 rfl) (((bR aI).block aS (blk_lt aD)).trans aD) (by kernel_rfl) (by kernel_rfl) (by kernel_rfl)) ?_
  rintro bx bc ⟨rfl, aV, hT⟩
  have bg := hT.rowT rfl (((bR aI).block aS (blk_lt aD)).trans aD) (Kd.R_below bf (bR aI)) (by decide)
  have bv := (Kd.R_reads' bg).2.2
  have aP := hT.below aE.1 (Nat.le_trans (bb.1).size aH) (aE.1).size
  have aJ := hT.below aE.2 aH (aE.2).size
  clear hT
  refine list_step rfl (R := fun v w' => Below _ _ w' ∧ (IsV (.slice aN aa.length aO)) v w') (does_val (x_assign rfl (hS.get 2 rfl)) rfl) ?_
  rintro bi bp ⟨hb, he⟩
  have aQ := below_step aP hb
  have aK := below_step aJ hb
  have aF := below_step (bR bc) hb
  obtain rfl : bi = .slice aN aa.length aO := he
  refine hS.next (v := .slice aN aa.length aO) (d := 4) rfl (by decide) (by rfl) ?_
  clear hS
  intro br hS
  refine list_step rfl (R := fun v w' => Below _ _ w' ∧ (VI ab) v w') (does_val (x_assign rfl (hS.get 2 rfl)) rfl) ?_
  rintro bj bd ⟨hb, he⟩
  have aR := below_step aQ hb
  have aL := below_step aK hb
  have aG := below_step aF hb
  have aW := below_step (bR bp) hb
  obtain rfl : bj = .int .i64 ab := he
  refine hS.next (v := .int .i64 ab) (d := 5) rfl (by decide) (by rfl) ?_
  clear hS
  intro bs hS
  refine wpList_nil ?_
  refine bn _ _ ?_
  refine wp_seq_k (fun bB be => ?_)
  refine reg_seq (I := I4_ w w7 bc bd) (ps := [VB ar, VB ar, IsV (.string ac), VI (ac.size : Int), VB (decide ((ac.size : Int) = 44)), VB (decide ((ac.size : Int) = 44)), VB (decide ((ac.size : Int) = 44)), VI ab, VB (decide (ab = 0)), VB (decide (ab = 0)), VB (decide (ab = 0)), VU, VU, VU, VB false, VB false, VU, VU, VU, VB false, VB false]) (by kernel_rfl) ?_ ?_ rfl hS ⟨aR, aL, aG, (bR bd)⟩ ?_ ?_
  ·exact bs4
  ·exact .v (.v (.v (.v (.v (.v (.v (.v (.v (.v (.v (.v (.v (.v (.v (.v (.v (.v (.v (.v (.v (.nil)))))))))))))))))))))
  ·refine .ms 6 rfl rfl rfl ?_
   refine .mv 0 rfl rfl rfl rfl ?_
   refine .oy 1 18 rfl rfl rfl rfl rfl c1 (fun a w hS hI hp => does_val (x_move rfl (hS.get 7 rfl)) rfl) ?_
   refine .oy 1 18 rfl rfl rfl rfl rfl c1 (fun a w hS hI hp => does_val (x_lenS rfl (by kernel_rfl) (hp.V 2 rfl rfl)) rfl) ?_
   refine .oy 1 18 rfl rfl rfl rfl rfl c1 (fun a w hS hI hp => does_val (x_bin rfl (hp.V 3 rfl rfl) (rfl) (b_eql _ _ _ _ _ _)) rfl) ?_
   refine .pt 1 4 rfl rfl rfl rfl c1 rfl rfl ?_
   refine .mv 5 rfl rfl rfl rfl ?_
   refine .oy 6 23 rfl rfl rfl rfl rfl ((decide_eq_true c2)) (fun a w hS hI hp => does_val (x_move rfl (hS.get 0 rfl)) rfl) ?_
   refine .oy 6 23 rfl rfl rfl rfl rfl ((decide_eq_true c2)) (fun a w hS hI hp => does_val (x_bin rfl (hp.V 7 rfl rfl) (rfl) (b_eql _ _ _ _ _ _)) rfl) ?_
   refine .pt 6 8 rfl rfl rfl rfl ((decide_eq_true c2)) rfl rfl ?_
   refine .mv 9 rfl rfl rfl rfl ?_
   iterate 3 refine .sn 10 27 rfl rfl rfl rfl rfl ((decide_eq_false c3)) ?_
   refine .pf 10 rfl rfl rfl rfl ((decide_eq_false c3)) (fun _ => rfl) ?_
   refine .mv 14 rfl rfl rfl rfl ?_
   iterate 3 refine .sn 15 32 rfl rfl rfl rfl rfl rfl ?_
   refine .pf 15 rfl rfl rfl rfl rfl (fun _ => rfl) ?_
   refine .asg 19 rfl rfl rfl rfl ?_
   exact .nil
  clear hS
  intro bt bE hS bh hp
  replace hS := hS.nil
  have aX : sl _ 0 = .bool false := hp 20 (by decide)
  have hS := hS.cons aX
  clear hp aX
  refine be _ _ ?_
  refine wp_ret ?_
  (try simp only [Exit.then, Exit.inBlock, Exit.jump, Exit.noGoto])
  exact bodyPost_ret (v := .bool false) (results_single rfl (Vals.at (hS.get 0 rfl) .nil)) hS.nodef ⟨rfl, bh.1⟩
 rw [if_pos c3] at H
 by_cases c4 : ((au == 0) && ((av == 0) && ((aw == 0) && ((ax == 0) && ((ay == 0) && ((az == 0) && ((aA == 0) && ((aB == 0) && ((aC == 0) && ((ad == 0) && ((ae == 0) && ((af == 0) && ((ag == 0) && ((ah == 0) && ((ai == 0) && ((aj == 0) && ((ak == 0) && ((al == 0) && ((am == 0) && ((an == 0) && ((ao == 0) && ((ap == 0) && (aq == 0))))))))))))))))))))))) = true
 ·rw [if_pos c4] at H
  obtain rfl := Option.some.inj H
  refine calls_of_wp (fn := Try.f10) (by kernel_rfl) rfl ?_
  have hS := St.enter #[] 37 (by simp) [] (by simp)
  have bk := Below.refl w.heap.size w
  refine wp_seq_k (fun K1 bl => ?_)
  refine reg_seq (I := I1_ w) (ps := [VB false]) (by kernel_rfl) ?_ ?_ rfl hS bk ?_ ?_
  ·exact bs1
  ·exact .v (.nil)
  ·refine .on rfl (fun a w hS hI hp => does_val (x_assign rfl (rfl)) rfl) ?_
   exact .nil
  clear hS
  intro bC w3 hS bo hp
  clear hp
  refine bl _ _ ?_
  refine wp_seq_k (fun K4 bm => ?_)
  refine reg_seq (I := I2_ w w3) (ps := [IsV ((carillonlaw09_awake.v0 0 0 0 0 0 0 0 0 0 0 0 0 0 0 0 0 0 0 0 0 0 0 0)), IsV (.tuple #[.string ac, .bool ar]), IsV (.tuple #[.string ac, .bool ar]), IsV (.string ac), VB ar, IsV (.string ac), VB ar]) (by kernel_rfl) ?_ ?_ rfl hS ⟨bo, (bR w3)⟩ ?_ ?_
  ·exact bs2
  ·exact .v (.v (.v (.v (.v (.v (.v (.nil)))))))
  ·refine .on rfl (fun a w hS hI hp => does_val (x_build (vs := []) rfl (by rw [Array.toList_map]; exact (show [] = _ from rfl)) (by kernel_rfl)) rfl) ?_
   refine .on rfl (fun a w hS hI hp => does_call (by kernel_rfl) (ar2 (hp.V 0 rfl rfl) (rfl)) ((frame_Put.calls k 0 0 0 0 0 0 0 0 0 0 0 0 0 0 0 0 0 0 0 0 0 0 0 _ _ [] ac ar _ (Kd.C_nil _ _) (Nat.le_refl _) bz).mono fun _ _ h => ⟨_, h.1, h.2, rfl⟩)) ?_
   refine .mv 1 rfl rfl rfl rfl ?_
   iterate 2 refine .on rfl (fun a w hS hI hp => does_val (x_extract rfl (hp.V 2 rfl rfl) rfl) rfl) ?_
   refine .asg 3 rfl rfl rfl rfl ?_
   refine .asg 4 rfl rfl rfl rfl ?_
   exact .nil
  clear hS
  intro bD w7 hS bb hp
  have aY : sl _ 1 = .string ac := hp 5 (by decide)
  have aZ : sl _ 2 = .bool ar := hp 6 (by decide)
  have hS := hS.cons aY
  have hS := hS.cons aZ
  clear hp aY aZ
  refine bm _ _ ?_
  refine wp_seq_k (fun K8 bn => ?_)
  refine reg_seq_tail 7 (I := I2_ w w7) (ps := [IsV (.string ac), IsT (fun v0_ => #[(carillonlaw09_awake.v0 au av aw ax ay az aA aB aC ad ae af ag ah ai aj ak al am an ao ap aq), v0_, .int .i64 ab]) (IsR k43 43 w7.heap.size aa), IsT (fun v0_ => #[(carillonlaw09_awake.v0 au av aw ax ay az aA aB aC ad ae af ag ah ai aj ak al am an ao ap aq), v0_, .int .i64 ab]) (IsR k43 43 w7.heap.size aa), IsV ((carillonlaw09_awake.v0 au av aw ax ay az aA aB aC ad ae af ag ah ai aj ak al am an ao ap aq)), IsR k43 43 w7.heap.size aa, VI ab, IsB (carillonlaw09_awake.c1 0 0 0 0 0 0 0 0 0 0 0 0 0 0 0 0 0 0 0 0 0 0 0) 28 w7.heap.size]) (by kernel_rfl) ?_ ?_ rfl hS ⟨bb.1, (bR w7)⟩ ?_ ?_
  ·exact bs2
  ·exact .v (.cons (Stays.t _ (Stays.r _ _ _ _)) (.cons (Stays.t _ (Stays.r _ _ _ _)) (.v (.cons (Stays.r _ _ _ _) (.v (.cons (Stays.b _ _ _) (.nil)))))))
  ·refine .ms 1 rfl rfl rfl ?_
   refine .on rfl (fun a w hS hI hp => does_call (by kernel_rfl) (ar1 (hp.V 0 rfl rfl)) ((frame_Get.calls k ac au av aw ax ay az aA aB aC ad ae af ag ah ai aj ak al am an ao ap aq aa ab _  bA).mono fun _ _ h => h.elim fun v0 h => ⟨_, h.1, h.2.2, v0, rfl, Kd.R_lower h.2.1 hI.2.size⟩)) ?_
   refine .on rfl (fun a w hS hI hp => does_val (x_move rfl rfl) (hp.V 1 rfl rfl)) ?_
   refine .on rfl (fun a w hS hI hp => (hp.V 2 rfl rfl).elim fun v0 h0 => does_val (x_extract rfl h0.1 rfl) rfl) ?_
   refine .on rfl (fun a w hS hI hp => (hp.V 2 rfl rfl).elim fun v0 h0 => does_val (x_extract rfl h0.1 rfl) h0.2) ?_
   refine .on rfl (fun a w hS hI hp => (hp.V 2 rfl rfl).elim fun v0 h0 => does_val (x_extract rfl h0.1 rfl) rfl) ?_
   refine .on rfl (fun a w hS hI hp => does_var (x_alloc rfl (by kernel_rfl)) (hI.2).size) ?_
   exact .nil
  clear hS
  intro bq aI hS aE hp
  have aT : sl _ 14 = (carillonlaw09_awake.v0 au av aw ax ay az aA aB aC ad ae af ag ah ai aj ak al am an ao ap aq) := hp 3 (by decide)
  obtain ⟨aN, aO, aM, bw, bu⟩ := Kd.R_reads (show Kd.R k43 43 aI w7.heap.size (fun _ => True) (sl _ 15) aa from hp 4 (by decide))
  have bf : Kd.R k43 43 aI w7.heap.size (fun _ => True) (.slice aN aa.length aO) aa := aM ▸ (hp 4 (by decide))
  have aU : sl _ 16 = .int .i64 ab := hp 5 (by decide)
  obtain ⟨aS, ba, aH, aD⟩ := (show IsB _ 28 _ (sl _ 3) _ from hp 6 (by decide))
  have hS := hS.cons aT
  have hS := hS.cons aM
  have hS := hS.cons aU
  have hS := hS.cons ba
  clear hp aT aM aU ba
  show wpList _ _ _ [_, _, _] _ _
  refine list_step rfl (does_storeAll (g := aS) (cs := (carillonlaw09_awake.c1 au av aw ax ay az aA aB aC ad ae af ag ah ai aj ak al am an ao ap aq)) rfl (hS.get 0 rfl) (hS.get 3 rfl) (((bR aI).block aS (blk_lt aD)).trans aD) (by kernel_rfl) (by kernel_rfl) (by kernel_rfl)) ?_
  rintro bx bc ⟨rfl, aV, hT⟩
  have bg := hT.rowT rfl (((bR aI).block aS (blk_lt aD)).trans aD) (Kd.R_below bf (bR aI)) (by decide)
  have bv := (Kd.R_reads' bg).2.2
  have aP := hT.below aE.1 (Nat.le_trans (bb.1).size aH) (aE.1).size
  have aJ := hT.below aE.2 aH (aE.2).size
  clear hT
  refine list_step rfl (R := fun v w' => Below _ _ w' ∧ (IsV (.slice aN aa.length aO)) v w') (does_val (x_assign rfl (hS.get 2 rfl)) rfl) ?_
  rintro bi bp ⟨hb, he⟩
  have aQ := below_step aP hb
  have aK := below_step aJ hb
  have aF := below_step (bR bc) hb
  obtain rfl : bi = .slice aN aa.length aO := he
  refine hS.next (v := .slice aN aa.length aO) (d := 4) rfl (by decide) (by rfl) ?_
  clear hS
  intro br hS
  refine list_step rfl (R := fun v w' => Below _ _ w' ∧ (VI ab) v w') (does_val (x_assign rfl (hS.get 2 rfl)) rfl) ?_
  rintro bj bd ⟨hb, he⟩
  have aR := below_step aQ hb
  have aL := below_step aK hb
  have aG := below_step aF hb
  have aW := below_step (bR bp) hb
  obtain rfl : bj = .int .i64 ab := he
  refine hS.next (v := .int .i64 ab) (d := 5) rfl (by decide) (by rfl) ?_
  clear hS
  intro bs hS
  refine wpList_nil ?_
  refine bn _ _ ?_
  refine wp_seq_k (fun bB be => ?_)
  refine reg_seq (I := I4_ w w7 bc bd) (ps := [VB ar, VB ar, IsV (.string ac), VI (ac.size : Int), VB (decide ((ac.size : Int) = 44)), VB (decide ((ac.size : Int) = 44)), VB (decide ((ac.size : Int) = 44)), VI ab, VB (decide (ab = 0)), VB (decide (ab = 0)), VB (decide (ab = 0)), IsV ((carillonlaw09_awake.v0 au av aw ax ay az aA aB aC ad ae af ag ah ai aj ak al am an ao ap aq)), IsV ((carillonlaw09_awake.v0 0 0 0 0 0 0 0 0 0 0 0 0 0 0 0 0 0 0 0 0 0 0 0)), VB ((au == 0) && ((av == 0) && ((aw == 0) && ((ax == 0) && ((ay == 0) && ((az == 0) && ((aA == 0) && ((aB == 0) && ((aC == 0) && ((ad == 0) && ((ae == 0) && ((af == 0) && ((ag == 0) && ((ah == 0) && ((ai == 0) && ((aj == 0) && ((ak == 0) && ((al == 0) && ((am == 0) && ((an == 0) && ((ao == 0) && ((ap == 0) && (aq == 0))))))))))))))))))))))), VB ((au == 0) && ((av == 0) && ((aw == 0) && ((ax == 0) && ((ay == 0) && ((az == 0) && ((aA == 0) && ((aB == 0) && ((aC == 0) && ((ad == 0) && ((ae == 0) && ((af == 0) && ((ag == 0) && ((ah == 0) && ((ai == 0) && ((aj == 0) && ((ak == 0) && ((al == 0) && ((am == 0) && ((an == 0) && ((ao == 0) && ((ap == 0) && (aq == 0))))))))))))))))))))))), VB ((au == 0) && ((av == 0) && ((aw == 0) && ((ax == 0) && ((ay == 0) && ((az == 0) && ((aA == 0) && ((aB == 0) && ((aC == 0) && ((ad == 0) && ((ae == 0) && ((af == 0) && ((ag == 0) && ((ah == 0) && ((ai == 0) && ((aj == 0) && ((ak == 0) && ((al == 0) && ((am == 0) && ((an == 0) && ((ao == 0) && ((ap == 0) && (aq == 0))))))))))))))))))))))), IsV (.slice aN aa.length aO), VI (aa.length : Int), VB (decide ((aa.length : Int) = 0)), VB (decide ((aa.length : Int) = 0)), VB (decide ((aa.length : Int) = 0))]) (by kernel_rfl) ?_ ?_ rfl hS ⟨aR, aL, aG, (bR bd)⟩ ?_ ?_
  ·exact bs4
  ·exact .v (.v (.v (.v (.v (.v (.v (.v (.v (.v (.v (.v (.v (.v (.v (.v (.v (.v (.v (.v (.v (.nil)))))))))))))))))))))
  ·refine .ms 6 rfl rfl rfl ?_
   refine .mv 0 rfl rfl rfl rfl ?_
   refine .oy 1 18 rfl rfl rfl rfl rfl c1 (fun a w hS hI hp => does_val (x_move rfl (hS.get 7 rfl)) rfl) ?_
   refine .oy 1 18 rfl rfl rfl rfl rfl c1 (fun a w hS hI hp => does_val (x_lenS rfl (by kernel_rfl) (hp.V 2 rfl rfl)) rfl) ?_
   refine .oy 1 18 rfl rfl rfl rfl rfl c1 (fun a w hS hI hp => does_val (x_bin rfl (hp.V 3 rfl rfl) (rfl) (b_eql _ _ _ _ _ _)) rfl) ?_
   refine .pt 1 4 rfl rfl rfl rfl c1 rfl rfl ?_
   refine .mv 5 rfl rfl rfl rfl ?_
   refine .oy 6 23 rfl rfl rfl rfl rfl ((decide_eq_true c2)) (fun a w hS hI hp => does_val (x_move rfl (hS.get 0 rfl)) rfl) ?_
   refine .oy 6 23 rfl rfl rfl rfl rfl ((decide_eq_true c2)) (fun a w hS hI hp => does_val (x_bin rfl (hp.V 7 rfl rfl) (rfl) (b_eql _ _ _ _ _ _)) rfl) ?_
   refine .pt 6 8 rfl rfl rfl rfl ((decide_eq_true c2)) rfl rfl ?_
   refine .mv 9 rfl rfl rfl rfl ?_
   refine .oy 10 27 rfl rfl rfl rfl rfl ((decide_eq_true c3)) (fun a w hS hI hp => does_loadrow rfl (hS.get 2 rfl) (((hI.2.2.1).block aS (blk_lt aV)).trans aV) Try.underlying28 rfl (by kernel_rfl) rfl) ?_
   refine .oy 10 27 rfl rfl rfl rfl rfl ((decide_eq_true c3)) (fun a w hS hI hp => does_val (x_build (vs := []) rfl (by rw [Array.toList_map]; exact (show [] = _ from rfl)) (by kernel_rfl)) rfl) ?_
   refine .oy 10 27 rfl rfl rfl rfl rfl ((decide_eq_true c3)) (fun a w hS hI hp => does_val (x_bin rfl (hp.V 11 rfl rfl) (hp.V 12 rfl rfl) (carillonlaw09_awake.eql28 _ _ _ au av aw ax ay az aA aB aC ad ae af ag ah ai aj ak al am an ao ap aq 0 0 0 0 0 0 0 0 0 0 0 0 0 0 0 0 0 0 0 0 0 0 0)) rfl) ?_
   refine .pt 10 13 rfl rfl rfl rfl ((decide_eq_true c3)) rfl rfl ?_
   refine .mv 14 rfl rfl rfl rfl ?_
   refine .oy 15 32 rfl rfl rfl rfl rfl c4 (fun a w hS hI hp => does_val (x_move rfl (hS.get 1 rfl)) rfl) ?_
   refine .oy 15 32 rfl rfl rfl rfl rfl c4 (fun a w hS hI hp => does_val (x_len (e := 43) rfl (by kernel_rfl) (hp.V 16 rfl rfl)) rfl) ?_
   refine .oy 15 32 rfl rfl rfl rfl rfl c4 (fun a w hS hI hp => does_val (x_bin rfl (hp.V 17 rfl rfl) (rfl) (b_eql _ _ _ _ _ _)) rfl) ?_
   refine .pt 15 18 rfl rfl rfl rfl c4 rfl rfl ?_
   refine .asg 19 rfl rfl rfl rfl ?_
   exact .nil
  clear hS
  intro bt bE hS bh hp
  replace hS := hS.nil
  have aX : sl _ 0 = .bool (decide ((aa.length : Int) = 0)) := hp 20 (by decide)
  have hS := hS.cons aX
  clear hp aX
  refine be _ _ ?_
  refine wp_ret ?_
  (try simp only [Exit.then, Exit.inBlock, Exit.jump, Exit.noGoto])
  exact bodyPost_ret (v := .bool (decide ((aa.length : Int) = 0))) (results_single rfl (Vals.at (hS.get 0 rfl) .nil)) hS.nodef ⟨rfl, bh.1⟩
 rw [if_neg c4] at H
 obtain rfl := Option.some.inj H
 refine calls_of_wp (fn := Try.f10) (by kernel_rfl) rfl ?_
 have hS := St.enter #[] 37 (by simp) [] (by simp)
 have bk := Below.refl w.heap.size w
 refine wp_seq_k (fun K1 bl => ?_)
 refine reg_seq (I := I1_ w) (ps := [VB false]) (by kernel_rfl) ?_ ?_ rfl hS bk ?_ ?_
 ·exact bs1
 ·exact .v (.nil)
 ·refine .on rfl (fun a w hS hI hp => does_val (x_assign rfl (rfl)) rfl) ?_
  exact .nil
 clear hS
 intro bC w3 hS bo hp
 clear hp
 refine bl _ _ ?_
 refine wp_seq_k (fun K4 bm => ?_)
 refine reg_seq (I := I2_ w w3) (ps := [IsV ((carillonlaw09_awake.v0 0 0 0 0 0 0 0 0 0 0 0 0 0 0 0 0 0 0 0 0 0 0 0)), IsV (.tuple #[.string ac, .bool ar]), IsV (.tuple #[.string ac, .bool ar]), IsV (.string ac), VB ar, IsV (.string ac), VB ar]) (by kernel_rfl) ?_ ?_ rfl hS ⟨bo, (bR w3)⟩ ?_ ?_
 ·exact bs2
 ·exact .v (.v (.v (.v (.v (.v (.v (.nil)))))))
 ·refine .on rfl (fun a w hS hI hp => does_val (x_build (vs := []) rfl (by rw [Array.toList_map]; exact (show [] = _ from rfl)) (by kernel_rfl)) rfl) ?_
  refine .on rfl (fun a w hS hI hp => does_call (by kernel_rfl) (ar2 (hp.V 0 rfl rfl) (rfl)) ((frame_Put.calls k 0 0 0 0 0 0 0 0 0 0 0 0 0 0 0 0 0 0 0 0 0 0 0 _ _ [] ac ar _ (Kd.C_nil _ _) (Nat.le_refl _) bz).mono fun _ _ h => ⟨_, h.1, h.2, rfl⟩)) ?_
  refine .mv 1 rfl rfl rfl rfl ?_
  iterate 2 refine .on rfl (fun a w hS hI hp => does_val (x_extract rfl (hp.V 2 rfl rfl) rfl) rfl) ?_
  refine .asg 3 rfl rfl rfl rfl ?_
  refine .asg 4 rfl rfl rfl rfl ?_
  exact .nil
 clear hS
 intro bD w7 hS bb hp
 have aY : sl _ 1 = .string ac := hp 5 (by decide)
 have aZ : sl _ 2 = .bool ar := hp 6 (by decide)
 have hS := hS.cons aY
 have hS := hS.cons aZ
 clear hp aY aZ
 refine bm _ _ ?_
 refine wp_seq_k (fun K8 bn => ?_)
 refine reg_seq_tail 7 (I := I2_ w w7) (ps := [IsV (.string ac), IsT (fun v0_ => #[(carillonlaw09_awake.v0 au av aw ax ay az aA aB aC ad ae af ag ah ai aj ak al am an ao ap aq), v0_, .int .i64 ab]) (IsR k43 43 w7.heap.size aa), IsT (fun v0_ => #[(carillonlaw09_awake.v0 au av aw ax ay az aA aB aC ad ae af ag ah ai aj ak al am an ao ap aq), v0_, .int .i64 ab]) (IsR k43 43 w7.heap.size aa), IsV ((carillonlaw09_awake.v0 au av aw ax ay az aA aB aC ad ae af ag ah ai aj ak al am an ao ap aq)), IsR k43 43 w7.heap.size aa, VI ab, IsB (carillonlaw09_awake.c1 0 0 0 0 0 0 0 0 0 0 0 0 0 0 0 0 0 0 0 0 0 0 0) 28 w7.heap.size]) (by kernel_rfl) ?_ ?_ rfl hS ⟨bb.1, (bR w7)⟩ ?_ ?_
 ·exact bs2
 ·exact .v (.cons (Stays.t _ (Stays.r _ _ _ _)) (.cons (Stays.t _ (Stays.r _ _ _ _)) (.v (.cons (Stays.r _ _ _ _) (.v (.cons (Stays.b _ _ _) (.nil)))))))
 ·refine .ms 1 rfl rfl rfl ?_
  refine .on rfl (fun a w hS hI hp => does_call (by kernel_rfl) (ar1 (hp.V 0 rfl rfl)) ((frame_Get.calls k ac au av aw ax ay az aA aB aC ad ae af ag ah ai aj ak al am an ao ap aq aa ab _  bA).mono fun _ _ h => h.elim fun v0 h => ⟨_, h.1, h.2.2, v0, rfl, Kd.R_lower h.2.1 hI.2.size⟩)) ?_
  refine .on rfl (fun a w hS hI hp => does_val (x_move rfl rfl) (hp.V 1 rfl rfl)) ?_
  refine .on rfl (fun a w hS hI hp => (hp.V 2 rfl rfl).elim fun v0 h0 => does_val (x_extract rfl h0.1 rfl) rfl) ?_
  refine .on rfl (fun a w hS hI hp => (hp.V 2 rfl rfl).elim fun v0 h0 => does_val (x_extract rfl h0.1 rfl) h0.2) ?_
  refine .on rfl (fun a w hS hI hp => (hp.V 2 rfl rfl).elim fun v0 h0 => does_val (x_extract rfl h0.1 rfl) rfl) ?_
  refine .on rfl (fun a w hS hI hp => does_var (x_alloc rfl (by kernel_rfl)) (hI.2).size) ?_
  exact .nil
 clear hS
 intro bq aI hS aE hp
 have aT : sl _ 14 = (carillonlaw09_awake.v0 au av aw ax ay az aA aB aC ad ae af ag ah ai aj ak al am an ao ap aq) := hp 3 (by decide)
 obtain ⟨aN, aO, aM, bw, bu⟩ := Kd.R_reads (show Kd.R k43 43 aI w7.heap.size (fun _ => True) (sl _ 15) aa from hp 4 (by decide))
 have bf : Kd.R k43 43 aI w7.heap.size (fun _ => True) (.slice aN aa.length aO) aa := aM ▸ (hp 4 (by decide))
 have aU : sl _ 16 = .int .i64 ab := hp 5 (by decide)
 obtain ⟨aS, ba, aH, aD⟩ := (show IsB _ 28 _ (sl _ 3) _ from hp 6 (by decide))
 have hS := hS.cons aT
 have hS := hS.cons aM
 have hS := hS.cons aU
 have hS := hS.cons ba
 clear hp aT aM aU ba
 show wpList _ _ _ [_, _, _] _ _
 refine list_step rfl (does_storeAll (g := aS) (cs := (carillonlaw09_awake.c1 au av aw ax ay az aA aB aC ad ae af ag ah ai aj ak al am an ao ap aq)) rfl (hS.get 0 rfl) (hS.get 3 rfl) (((bR aI).block aS (blk_lt aD)).trans aD) (by kernel_rfl) (by kernel_rfl) (by kernel_rfl)) ?_
 rintro bx bc ⟨rfl, aV, hT⟩
 have bg := hT.rowT rfl (((bR aI).block aS (blk_lt aD)).trans aD) (Kd.R_below bf (bR aI)) (by decide)
 have bv := (Kd.R_reads' bg).2.2
 have aP := hT.below aE.1 (Nat.le_trans (bb.1).size aH) (aE.1).size
 have aJ := hT.below aE.2 aH (aE.2).size
 clear hT
 refine list_step rfl (R := fun v w' => Below _ _ w' ∧ (IsV (.slice aN aa.length aO)) v w') (does_val (x_assign rfl (hS.get 2 rfl)) rfl) ?_
 rintro bi bp ⟨hb, he⟩
 have aQ := below_step aP hb
 have aK := below_step aJ hb
 have aF := below_step (bR bc) hb
 obtain rfl : bi = .slice aN aa.length aO := he
 refine hS.next (v := .slice aN aa.length aO) (d := 4) rfl (by decide) (by rfl) ?_
 clear hS
 intro br hS
 refine list_step rfl (R := fun v w' => Below _ _ w' ∧ (VI ab) v w') (does_val (x_assign rfl (hS.get 2 rfl)) rfl) ?_
 rintro bj bd ⟨hb, he⟩
 have aR := below_step aQ hb
 have aL := below_step aK hb
 have aG := below_step aF hb
 have aW := below_step (bR bp) hb
 obtain rfl : bj = .int .i64 ab := he
 refine hS.next (v := .int .i64 ab) (d := 5) rfl (by decide) (by rfl) ?_
 clear hS
 intro bs hS
 refine wpList_nil ?_
 refine bn _ _ ?_
 refine wp_seq_k (fun bB be => ?_)
 refine reg_seq (I := I4_ w w7 bc bd) (ps := [VB ar, VB ar, IsV (.string ac), VI (ac.size : Int), VB (decide ((ac.size : Int) = 44)), VB (decide ((ac.size : Int) = 44)), VB (decide ((ac.size : Int) = 44)), VI ab, VB (decide (ab = 0)), VB (decide (ab = 0)), VB (decide (ab = 0)), IsV ((carillonlaw09_awake.v0 au av aw ax ay az aA aB aC ad ae af ag ah ai aj ak al am an ao ap aq)), IsV ((carillonlaw09_awake.v0 0 0 0 0 0 0 0 0 0 0 0 0 0 0 0 0 0 0 0 0 0 0 0)), VB ((au == 0) && ((av == 0) && ((aw == 0) && ((ax == 0) && ((ay == 0) && ((az == 0) && ((aA == 0) && ((aB == 0) && ((aC == 0) && ((ad == 0) && ((ae == 0) && ((af == 0) && ((ag == 0) && ((ah == 0) && ((ai == 0) && ((aj == 0) && ((ak == 0) && ((al == 0) && ((am == 0) && ((an == 0) && ((ao == 0) && ((ap == 0) && (aq == 0))))))))))))))))))))))), VB ((au == 0) && ((av == 0) && ((aw == 0) && ((ax == 0) && ((ay == 0) && ((az == 0) && ((aA == 0) && ((aB == 0) && ((aC == 0) && ((ad == 0) && ((ae == 0) && ((af == 0) && ((ag == 0) && ((ah == 0) && ((ai == 0) && ((aj == 0) && ((ak == 0) && ((al == 0) && ((am == 0) && ((an == 0) && ((ao == 0) && ((ap == 0) && (aq == 0))))))))))))))))))))))), VB ((au == 0) && ((av == 0) && ((aw == 0) && ((ax == 0) && ((ay == 0) && ((az == 0) && ((aA == 0) && ((aB == 0) && ((aC == 0) && ((ad == 0) && ((ae == 0) && ((af == 0) && ((ag == 0) && ((ah == 0) && ((ai == 0) && ((aj == 0) && ((ak == 0) && ((al == 0) && ((am == 0) && ((an == 0) && ((ao == 0) && ((ap == 0) && (aq == 0))))))))))))))))))))))), VU, VU, VU, VB false, VB false]) (by kernel_rfl) ?_ ?_ rfl hS ⟨aR, aL, aG, (bR bd)⟩ ?_ ?_
 ·exact bs4
 ·exact .v (.v (.v (.v (.v (.v (.v (.v (.v (.v (.v (.v (.v (.v (.v (.v (.v (.v (.v (.v (.v (.nil)))))))))))))))))))))
 ·refine .ms 6 rfl rfl rfl ?_
  refine .mv 0 rfl rfl rfl rfl ?_
  refine .oy 1 18 rfl rfl rfl rfl rfl c1 (fun a w hS hI hp => does_val (x_move rfl (hS.get 7 rfl)) rfl) ?_
  refine .oy 1 18 rfl rfl rfl rfl rfl c1 (fun a w hS hI hp => does_val (x_lenS rfl (by kernel_rfl) (hp.V 2 rfl rfl)) rfl) ?_
  refine .oy 1 18 rfl rfl rfl rfl rfl c1 (fun a w hS hI hp => does_val (x_bin rfl (hp.V 3 rfl rfl) (rfl) (b_eql _ _ _ _ _ _)) rfl) ?_
  refine .pt 1 4 rfl rfl rfl rfl c1 rfl rfl ?_
  refine .mv 5 rfl rfl rfl rfl ?_
  refine .oy 6 23 rfl rfl rfl rfl rfl ((decide_eq_true c2)) (fun a w hS hI hp => does_val (x_move rfl (hS.get 0 rfl)) rfl) ?_
  refine .oy 6 23 rfl rfl rfl rfl rfl ((decide_eq_true c2)) (fun a w hS hI hp => does_val (x_bin rfl (hp.V 7 rfl rfl) (rfl) (b_eql _ _ _ _ _ _)) rfl) ?_
  refine .pt 6 8 rfl rfl rfl rfl ((decide_eq_true c2)) rfl rfl ?_
  refine .mv 9 rfl rfl rfl rfl ?_
  refine .oy 10 27 rfl rfl rfl rfl rfl ((decide_eq_true c3)) (fun a w hS hI hp => does_loadrow rfl (hS.get 2 rfl) (((hI.2.2.1).block aS (blk_lt aV)).trans aV) Try.underlying28 rfl (by kernel_rfl) rfl) ?_
  refine .oy 10 27 rfl rfl rfl rfl rfl ((decide_eq_true c3)) (fun a w hS hI hp => does_val (x_build (vs := []) rfl (by rw [Array.toList_map]; exact (show [] = _ from rfl)) (by kernel_rfl)) rfl) ?_
  refine .oy 10 27 rfl rfl rfl rfl rfl ((decide_eq_true c3)) (fun a w hS hI hp => does_val (x_bin rfl (hp.V 11 rfl rfl) (hp.V 12 rfl rfl) (carillonlaw09_awake.eql28 _ _ _ au av aw ax ay az aA aB aC ad ae af ag ah ai aj ak al am an ao ap aq 0 0 0 0 0 0 0 0 0 0 0 0 0 0 0 0 0 0 0 0 0 0 0)) rfl) ?_
  refine .pt 10 13 rfl rfl rfl rfl ((decide_eq_true c3)) rfl rfl ?_
  refine .mv 14 rfl rfl rfl rfl ?_
  iterate 3 refine .sn 15 32 rfl rfl rfl rfl rfl ((Bool.eq_false_iff.2 c4)) ?_
  refine .pf 15 rfl rfl rfl rfl ((Bool.eq_false_iff.2 c4)) (fun _ => rfl) ?_
  refine .asg 19 rfl rfl rfl rfl ?_
  exact .nil
 clear hS
 intro bt bE hS bh hp
 replace hS := hS.nil
 have aX : sl _ 0 = .bool false := hp 20 (by decide)
 have hS := hS.cons aX
 clear hp aX
 refine be _ _ ?_
 refine wp_ret ?_
 (try simp only [Exit.then, Exit.inBlock, Exit.jump, Exit.noGoto])
 exact bodyPost_ret (v := .bool false) (results_single rfl (Vals.at (hS.get 0 rfl) .nil)) hS.nodef ⟨rfl, bh.1⟩
/-! ### carillonlaw00_Tlvs: function 12 -/
def carillonlaw00_Tlvs.f (l0 : List (S43)) : Option ((List (S43))) := if ([] : List (S43)).length + l0.length < 5864062014805 then (some (([] : List (S43)) ++ l0)) else (none)
set_option maxHeartbeats 8000000 in
set_option maxRecDepth 100000 in
theorem carillonlaw00_Tlvs.calls (A0 : Option Addr) (c0 : Nat) (l0 : List (S43)) (r : List (S43)) (w : World) (hr0 : Kd.C k43 w A0 l0.length l0) (hc0 : l0.length ≤ c0) (h : carillonlaw00_Tlvs.f l0 = some r) :
    Calls Try.prog 12 #[.slice A0 l0.length c0] w fun e w' => ∃ v0_ : Value, e = .returned (v0_) ∧ Kd.R k43 43 w' w.heap.size (fun _ => True) v0_ r ∧ Below w.heap.size w w' := by
  have HR0 := Aside0.mk hr0
  have HC0 := Aside0.mk hc0
  clear hr0 hc0
  have HB := Aside0.mk (Below.refl w.heap.size w)
  have H : (if ([] : List (S43)).length + l0.length < 5864062014805 then (some (([] : List (S43)) ++ l0)) else (none)) = some r := h
  clear h
  by_cases c2 : ([] : List (S43)).length + l0.length < 5864062014805
  · rw [if_pos c2] at H
    have LMc2 := Aside0.mk c2
    clear c2
    obtain ⟨y166, hy166⟩ : ∃ y_ : List (S43), y_ = (([] : List (S43)) ++ l0) := ⟨_, rfl⟩
    replace H : (some y166) = some r := by first | (rw [hy166]; with_reducible exact H) | (have H2_ := (Option.bind_some _ _).symm.trans H; rw [hy166]; with_reducible exact H2_) | (have H2_ := (Option.bind_some _ _).symm.trans H; with_reducible exact H2_) | with_reducible exact H | (rw [hy166]; exact H) | exact H
    have Ny166 := Aside0.mk hy166
    clear hy166
    obtain rfl := Option.some.inj H
    go_enter Try.func12, Try.ntmps12
    go_wp2_with (first | ((with_reducible refine gate_builtin (b := .append) (xs := #[.const (.slice none 0 0), .tmp 3]) rfl ?_); at_builtin; refine Kd.R_append_rows k43 (w0 := w) w.heap.size rfl (.const (.slice none 0 0)) (.tmp 3) 29 43 (.agg #[(.int .i64 0), (.string ⟨#[]⟩)]) 24 rfl Try.underlying29 info43 rfl (by decide) (by omega) (.slice none 0 0) ([] : List (S43)) l0 _ _ _ (fun _ => True) (fun _ => False) rfl rfl ?aO ?aR (fun _ _ h => h) (fun _ h => h.elim) ?aF ?aB ?aS ?aL ?_; (case aR => repeat (first | exact HR0.out | (with_reducible refine Kd.C_alloc ?_ _) | (with_reducible refine Kd.C_drewN ?_ _) | (with_reducible refine Kd.C_drew ?_))); (case aB => exact (by repeat (first | (with_reducible first | exact HB.out | apply below_alloc | apply pw_below_drewN | apply below_drew1) | exact HB.out))); (case aF => exact (fun _ _ => trivial)); (case aO => exact ((Kd.R_nil _ _ _ _ (fun _ => True)))); (case aS => exact (below_size (by repeat (first | (with_reducible first | exact HB.out | apply below_alloc | apply pw_below_drewN | apply below_drew1) | exact HB.out)))); (case aL => have := LMc2.out; omega); intro v167 w3 ho hb hg hat; rw [← Ny166.out] at ho; have n0_ := Aside0.mk (hb); have n1_ := Aside0.mk (ho); clear HB; have HB := n0_; have HO168 := n1_; clear n0_ n1_; clear ho hb hg hat))
    all_goals
      go_ret
      exact ⟨_, by first | rfl | (simp [errW_none, errW_some] <;> rfl) | (simp [*, errW_none, errW_some] <;> rfl), by (with_reducible repeat (first | apply Kd.R_alloc | apply Kd.R_drewN | apply Kd.R_drew)); exact HO168.out, by repeat (first | (with_reducible first | exact HB.out | apply below_alloc | apply pw_below_drewN | apply below_drew1) | exact HB.out)⟩
  · rw [if_neg c2] at H
    exact absurd H (by simp)
end Go.Proofs.Ytiomlbkakiienaa.P
