/- Functions and loops of the given program as Lean functions, and that the code comes to what they say: written by this session's own program; Lean checks it. -/
import Derived.Test.YtiomlbkakiienaaZzPx0
import Derived.Test.YtiomlbkakiienaaZzPx2
namespace Go.Proofs.Ytiomlbkakiienaa.P
open Go.RowKit Go.Proofs.YtiomlbkakiienaaW.PrintWords Go.Proofs.YtiomlbkakiienaaW.PrintLast Go.Proofs.YtiomlbkakiienaaW.PrintMore
attribute [local go_sem] max2_int min2_int max_two min_two max_three min_three max_four min_four   -- for this text's walks alone
set_option linter.unusedVariables false
set_option linter.unusedSimpArgs false
def body_Put.f (k : Nat) (l0 : List Int) (a1_0 a1_1 a1_2 a1_3 a1_4 a1_5 a1_6 a1_7 a1_8 a1_9 a1_10 a1_11 a1_12 a1_13 a1_14 a1_15 a1_16 a1_17 a1_18 a1_19 a1_20 a1_21 a1_22 : Int) : Option (List Int × Bool) := (body_Check.f k a1_0 a1_1 a1_2 a1_3 a1_4 a1_5 a1_6 a1_7 a1_8 a1_9 a1_10 a1_11 a1_12 a1_13 a1_14 a1_15 a1_16 a1_17 a1_18 a1_19 a1_20 a1_21 a1_22).bind fun t7 => (if t7 = true then ((body_stamped.f a1_0).bind fun t15 => (if t15 = true then ((stamp_Put.f l0 a1_8).bind fun t18 => ((body_targeted.f a1_0).bind fun t26 => (if t26 = true then (none) else (if a1_0 = 2 then (none) else (if a1_0 = 11 then (none) else (if a1_0 = 13 then (none) else (some (t18, true)))))))) else (none))) else (none))
abbrev body_Put.v0 (x0 x1 x2 x3 x4 x5 x6 x7 x8 x9 x10 x11 x12 x13 x14 x15 x16 x17 x18 x19 x20 x21 x22 : Int) : Value := .agg #[.int .i64 x0, .int .i64 x1, .int .i64 x2, .int .i64 x3, .int .u64 x4, .int .i64 x5, .int .i64 x6, .int .i64 x7, .int .i64 x8, .int .u64 x9, .int .i64 x10, .int .i64 x11, .int .i64 x12, .int .i64 x13, .int .i64 x14, .int .i64 x15, .int .i64 x16, .int .u64 x17, .int .i64 x18, .int .i64 x19, .int .i64 x20, .int .i64 x21, .int .i64 x22]
abbrev body_Put.c1 (x0 x1 x2 x3 x4 x5 x6 x7 x8 x9 x10 x11 x12 x13 x14 x15 x16 x17 x18 x19 x20 x21 x22 : Int) : Array Value := #[.int .i64 x0, .int .i64 x1, .int .i64 x2, .int .i64 x3, .int .u64 x4, .int .i64 x5, .int .i64 x6, .int .i64 x7, .int .i64 x8, .int .u64 x9, .int .i64 x10, .int .i64 x11, .int .i64 x12, .int .i64 x13, .int .i64 x14, .int .i64 x15, .int .i64 x16, .int .u64 x17, .int .i64 x18, .int .i64 x19, .int .i64 x20, .int .i64 x21, .int .i64 x22]
open Go.Proofs.Ytiomlbkakiienaa.E in
set_option maxHeartbeats 60000000 in
set_option maxRecDepth 100000 in
theorem body_Put.calls (k : Nat) (A0 : Option Addr) (aC : Nat) (l0 : List Int) (aa aF aG aH aI aJ aK aL ah aM ai aj ak al am an ao ap aq ar au av aw : Int) (r1 : List Int) (r2 : Bool) (w : World) (HR0 : Kd.C (Kd.int .u8) w A0 l0.length l0) (HC0 : l0.length ≤ aC) (h : body_Put.f k l0 aa aF aG aH aI aJ aK aL ah aM ai aj ak al am an ao ap aq ar au av aw = some (r1, r2)) :
    Calls Try.prog 20 #[.slice A0 l0.length aC, .agg #[.int .i64 aa, .int .i64 aF, .int .i64 aG, .int .i64 aH, .int .u64 aI, .int .i64 aJ, .int .i64 aK, .int .i64 aL, .int .i64 ah, .int .u64 aM, .int .i64 ai, .int .i64 aj, .int .i64 ak, .int .i64 al, .int .i64 am, .int .i64 an, .int .i64 ao, .int .u64 ap, .int .i64 aq, .int .i64 ar, .int .i64 au, .int .i64 av, .int .i64 aw]] w fun e w' => ∃ v0_ : Value, e = .returned (.tuple #[v0_, .bool r2]) ∧ IsC (Kd.int .u8) r1 v0_ w' ∧ Below w.heap.size w w' := by
 have H := h
 clear h
 unfold body_Put.f at H
 obtain ⟨t7, bw, H⟩ := Option.bind_eq_some_iff.mp H
 by_cases c1 : t7 = true
 rotate_left
 ·rw [if_neg c1] at H; exact absurd H (by simp)
 rw [if_pos c1] at H
 obtain ⟨aQ, bf, H⟩ := Option.bind_eq_some_iff.mp H
 by_cases c2 : aQ = true
 rotate_left
 ·rw [if_neg c2] at H; exact absurd H (by simp)
 rw [if_pos c2] at H
 obtain ⟨ac, bg, H⟩ := Option.bind_eq_some_iff.mp H
 obtain ⟨aR, bh, H⟩ := Option.bind_eq_some_iff.mp H
 by_cases c3 : aR = true
 ·rw [if_pos c3] at H; exact absurd H (by simp)
 rw [if_neg c3] at H
 by_cases c4 : aa = 2
 ·rw [if_pos c4] at H; exact absurd H (by simp)
 rw [if_neg c4] at H
 by_cases c5 : aa = 11
 ·rw [if_pos c5] at H; exact absurd H (by simp)
 rw [if_neg c5] at H
 by_cases c6 : aa = 13
 ·rw [if_pos c6] at H; exact absurd H (by simp)
 rw [if_neg c6] at H
 simp only [Option.some.injEq, Prod.mk.injEq] at H
 obtain ⟨rfl, rfl⟩ := H
 refine calls_of_wp (fn := Try.f20) (by kernel_rfl) rfl ?_
 have hS := St.enter #[.slice A0 l0.length aC, (body_Put.v0 aa aF aG aH aI aJ aK aL ah aM ai aj ak al am an ao ap aq ar au av aw)] 80 (by simp) [(0, .slice A0 l0.length aC), (1, (body_Put.v0 aa aF aG aH aI aJ aK aL ah aM ai aj ak al am an ao ap aq ar au av aw))] (by simp)
 have bx := Below.refl w.heap.size w
 refine wp_seq_k (fun K1 bz => ?_)
 refine reg_seq (I := I1_ w) (ps := [IsB (body_Put.c1 aa aF aG aH aI aJ aK aL ah aM ai aj ak al am an ao ap aq ar au av aw) 28 w.heap.size, IsV (.slice none 0 0), VB false]) (by kernel_rfl) ?_ ?_ rfl hS bx ?_ ?_
 ·exact bs1
 ·exact .cons (Stays.b _ _ _) (.v (.v (.nil)))
 ·refine .on rfl (fun a w hS hI hp => does_var (x_box rfl (congrArg Value.cells (hS.get 1 rfl))) (hI).size) ?_
  iterate 2 refine .on rfl (fun a w hS hI hp => does_val (x_assign rfl (rfl)) rfl) ?_
  exact .nil
 clear hS
 intro b3 w3 hS bC hp
 replace hS := (hS.nil).cons (hS.get 0 rfl)
 obtain ⟨g4, a2, bD, ab⟩ := (show IsB _ 28 _ (sl _ 3) _ from hp 0 (by decide))
 have hS := hS.cons a2
 clear hp a2
 refine bz _ _ ?_
 refine wp_seq_k (fun K5 bA => ?_)
 refine wp_seq_k (fun K6 bB => ?_)
 refine reg_seq (I := I2_ w w3) (ps := [IsV ((body_Put.v0 aa aF aG aH aI aJ aK aL ah aM ai aj ak al am an ao ap aq ar au av aw)), VB t7, VB (!t7)]) (by kernel_rfl) ?_ ?_ rfl hS ⟨bC, (bR w3)⟩ ?_ ?_
 ·exact bs2
 ·exact .v (.v (.v (.nil)))
 ·refine .on rfl (fun a w hS hI hp => does_loadrow rfl (hS.get 0 rfl) (((hI.2).block g4 (blk_lt ab)).trans ab) Try.underlying28 rfl (by kernel_rfl) rfl) ?_
  refine .on rfl (fun a w hS hI hp => does_call (by kernel_rfl) (ar1 (hp.V 0 rfl rfl)) ((body_Check.calls (w := _) (h := bw)).mono fun _ _ h => ⟨_, h.1, h.2, rfl⟩)) ?_
  refine .on rfl (fun a w hS hI hp => does_val (x_not rfl (hp.V 1 rfl rfl)) rfl) ?_
  exact .nil
 clear hS
 intro b4 w9 hS a7 hp
 have a6 : sl _ 9 = .bool (!t7) := hp 2 (by decide)
 have hS := hS.cons a6
 clear hp a6
 refine bB _ _ ?_
 refine wp_cond_false ((hS.get 0 rfl).trans (bF (congrArg (!·) c1))) ?_
 refine wp_skip ?_
 refine bA _ _ ?_
 refine wp_seq_k (fun bQ bi => ?_)
 refine reg_seq (I := I3_ w w3 w9) (ps := [IsV (.slice A0 l0.length aC), IsV (.slice A0 l0.length aC), VI (l0.length : Int), IsV (.slice A0 l0.length aC), VI (l0.length : Int), IsV (.slice A0 l0.length l0.length), IsV (.slice A0 l0.length l0.length)]) (by kernel_rfl) ?_ ?_ rfl hS ⟨a7.1, a7.2, (bR w9)⟩ ?_ ?_
 ·exact bs3
 ·exact .v (.v (.v (.v (.v (.v (.v (.nil)))))))
 ·refine .ms 2 rfl rfl rfl ?_
  refine .ms 2 rfl rfl rfl ?_
  refine .on rfl (fun a w hS hI hp => does_val (x_len (e := 5) rfl (by kernel_rfl) (hp.V 1 rfl rfl)) rfl) ?_
  refine .ms 2 rfl rfl rfl ?_
  refine .on rfl (fun a w hS hI hp => does_val (x_len (e := 5) rfl (by kernel_rfl) (hp.V 3 rfl rfl)) rfl) ?_
  refine .on rfl (fun a w hS hI hp => does_val (x_cutcap (e := 5) (n := l0.length) (c := aC) (j := (l0.length : Int)) (k := (l0.length : Int)) rfl (by kernel_rfl) (by kernel_rfl) (hp.V 0 rfl rfl) (hp.V 2 rfl rfl) (hp.V 4 rfl rfl) (Int.natCast_nonneg _) (Int.le_refl _) (Int.ofNat_le.2 HC0)) rfl) ?_
  refine .asg 5 rfl rfl rfl ?_
  exact .nil
 clear hS
 intro bE a8 hS aZ hp
 replace hS := (hS.nil).cons (hS.get 1 rfl)
 have a5 : sl _ 6 = .slice A0 l0.length l0.length := hp 6 (by decide)
 have hS := hS.cons a5
 clear hp a5
 refine bi _ _ ?_
 refine wp_seq_k (fun bS bj => ?_)
 refine wp_seq_k (fun bU bk => ?_)
 refine reg_seq (I := I3_ w w3 a8) (ps := [VP g4 0, VI aa, VB aQ]) (by kernel_rfl) ?_ ?_ rfl hS ⟨aZ.1, aZ.2.1, (bR a8)⟩ ?_ ?_
 ·exact bs3
 ·exact .v (.v (.v (.nil)))
 ·refine .on rfl (fun a w hS hI hp => does_val (x_fieldE (b := 0) rfl (hS.get 1 rfl) Try.underlying28 rfl rfl (by kernel_rfl)) rfl) ?_
  refine .on rfl (fun a w hS hI hp => does_val (x_load1 (d := .int .i64) rfl (hp.V 0 rfl rfl) (by kernel_rfl) rfl ((blk_cell (((hI.2.1).block g4 (blk_lt ab)).trans ab) 0).trans rfl)) rfl) ?_
  refine .on rfl (fun a w hS hI hp => does_call (by kernel_rfl) (ar1 (hp.V 1 rfl rfl)) ((body_stamped.calls aa aQ _  bf).mono fun _ _ h => ⟨_, h.1, h.2.below, rfl⟩)) ?_
  exact .nil
 clear hS
 intro bG ad hS a0 hp
 have aT : sl _ 19 = .bool aQ := hp 2 (by decide)
 have hS := hS.cons aT
 clear hp aT
 refine bk _ _ ?_
 refine wp_cond_true ((hS.get 0 rfl).trans (bT c2)) ?_
 refine reg_seq_tail 4 (I := I3_ w w3 ad) (ps := [IsV (.slice A0 l0.length l0.length), VP g4 8, VI ah, IsR (Kd.int .u8) 5 ad.heap.size ac]) (by kernel_rfl) ?_ ?_ rfl hS ⟨a0.1, a0.2.1, (bR ad)⟩ ?_ ?_
 ·exact bs3
 ·exact .v (.v (.v (.cons (Stays.r _ _ _ _) (.nil))))
 ·refine .ms 1 rfl rfl rfl ?_
  refine .on rfl (fun a w hS hI hp => does_val (x_fieldE (b := 0) rfl (hS.get 2 rfl) Try.underlying28 rfl rfl (by kernel_rfl)) rfl) ?_
  refine .on rfl (fun a w hS hI hp => does_val (x_load1 (d := .int .i64) rfl (hp.V 1 rfl rfl) (by kernel_rfl) rfl ((blk_cell (((hI.2.1).block g4 (blk_lt ab)).trans ab) 8).trans rfl)) rfl) ?_
  refine .on rfl (fun a w hS hI hp => does_call (by kernel_rfl) (ar2 (hp.V 0 rfl rfl) (hp.V 2 rfl rfl)) ((stamp_Put.calls _ _ l0 ah ac _ (Kd.C_below HR0 hI.1) (Nat.le_refl _) bg).mono fun _ _ h => h.elim fun v0 h => ⟨v0, h.1, h.2.2, Kd.R_lower h.2.1 hI.2.2.size⟩)) ?_
  exact .nil
 clear hS
 intro bH ag hS aP hp
 replace hS := ((hS.nil).cons (hS.get 2 rfl)).cons (hS.get 1 rfl)
 obtain ⟨ae, af, aO, bu, bt⟩ := Kd.R_reads (show Kd.R (Kd.int .u8) 5 ag ad.heap.size (fun _ => True) (sl _ 23) ac from hp 3 (by decide))
 have bP : Kd.R (Kd.int .u8) 5 ag ad.heap.size (fun _ => True) (.slice ae ac.length af) ac := aO ▸ (hp 3 (by decide))
 have hS := hS.cons aO
 clear hp aO
 show wpList _ _ _ [_] _ _
 refine list_step rfl (R := fun v w' => Below _ _ w' ∧ (IsV (.slice ae ac.length af)) v w') (does_val (x_assign rfl (hS.get 0 rfl)) rfl) ?_
 rintro bv a9 ⟨hb, he⟩
 have aS := below_step aP.1 hb
 have aN := below_step aP.2.1 hb
 have aD := below_step aP.2.2 hb
 have aE := below_step (bR ag) hb
 obtain rfl : bv = .slice ae ac.length af := he
 replace hS := ((hS.nil).cons (hS.get 2 rfl)).cons (hS.get 0 rfl)
 refine hS.next (v := .slice ae ac.length af) (d := 6) rfl (by decide) (by rfl) ?_
 clear hS
 intro bI hS
 refine wpList_nil ?_
 refine bj _ _ ?_
 refine wp_seq_k (fun bV bl => ?_)
 refine wp_seq_k (fun bW bm => ?_)
 refine reg_seq (I := I5_ w w3 ad ag a9) (ps := [VP g4 0, VI aa, VB aR]) (by kernel_rfl) ?_ ?_ rfl hS ⟨aS, aN, aD, aE, (bR a9)⟩ ?_ ?_
 ·exact bs5
 ·exact .v (.v (.v (.nil)))
 ·refine .on rfl (fun a w hS hI hp => does_val (x_fieldE (b := 0) rfl (hS.get 2 rfl) Try.underlying28 rfl rfl (by kernel_rfl)) rfl) ?_
  refine .on rfl (fun a w hS hI hp => does_val (x_load1 (d := .int .i64) rfl (hp.V 0 rfl rfl) (by kernel_rfl) rfl ((blk_cell (((hI.2.1).block g4 (blk_lt ab)).trans ab) 0).trans rfl)) rfl) ?_
  refine .on rfl (fun a w hS hI hp => does_call (by kernel_rfl) (ar1 (hp.V 1 rfl rfl)) ((body_targeted.calls aa aR _  bh).mono fun _ _ h => ⟨_, h.1, h.2.below, rfl⟩)) ?_
  exact .nil
 clear hS
 intro bJ ba hS ax hp
 replace hS := ((hS.nil).cons (hS.get 2 rfl)).cons (hS.get 0 rfl)
 have aU : sl _ 26 = .bool aR := hp 2 (by decide)
 have hS := hS.cons aU
 clear hp aU
 refine bm _ _ ?_
 refine wp_cond_false ((hS.get 0 rfl).trans (bF (Bool.eq_false_iff.2 c3))) ?_
 refine wp_skip ?_
 refine bl _ _ ?_
 refine wp_seq_k (fun bX bn => ?_)
 refine wp_seq_k (fun bY bo => ?_)
 refine reg_seq (I := I5_ w w3 ad ag ba) (ps := [VP g4 0, VI aa]) (by kernel_rfl) ?_ ?_ rfl hS ⟨ax.1, ax.2.1, ax.2.2.1, ax.2.2.2.1, (bR ba)⟩ ?_ ?_
 ·exact bs5
 ·exact .v (.v (.nil))
 ·refine .on rfl (fun a w hS hI hp => does_val (x_fieldE (b := 0) rfl (hS.get 2 rfl) Try.underlying28 rfl rfl (by kernel_rfl)) rfl) ?_
  refine .on rfl (fun a w hS hI hp => does_val (x_load1 (d := .int .i64) rfl (hp.V 0 rfl rfl) (by kernel_rfl) rfl ((blk_cell (((hI.2.1).block g4 (blk_lt ab)).trans ab) 0).trans rfl)) rfl) ?_
  exact .nil
 clear hS
 intro bK bb hS ay hp
 replace hS := ((hS.nil).cons (hS.get 2 rfl)).cons (hS.get 1 rfl)
 have aV : sl _ 32 = .int .i64 aa := hp 1 (by decide)
 have hS := hS.cons aV
 clear hp aV
 refine bo _ _ ?_
 refine wp_block ?_
 refine wp_seq_k (fun bZ bp => ?_)
 refine reg_seq (I := I5_ w w3 ad ag bb) (ps := [VB (decide (aa = 2)), VB (decide (aa = 2))]) (by kernel_rfl) ?_ ?_ rfl hS ⟨ay.1, ay.2.1, ay.2.2.1, ay.2.2.2.1, (bR bb)⟩ ?_ ?_
 ·exact bs5
 ·exact .v (.v (.nil))
 ·refine .on rfl (fun a w hS hI hp => does_val (x_bin rfl (hS.get 0 rfl) (rfl) (b_eql _ _ _ _ _ _)) rfl) ?_
  refine .asg 0 rfl rfl rfl ?_
  exact .nil
 clear hS
 intro bL bc hS az hp
 have aW : sl _ 33 = .bool (decide (aa = 2)) := hp 1 (by decide)
 have hS := hS.cons aW
 clear hp aW
 refine bp _ _ ?_
 refine wp_cond_false ((hS.get 0 rfl).trans (bF (decide_eq_false c4))) ?_
 refine wp_seq_k (fun b0 bq => ?_)
 refine reg_seq (I := I5_ w w3 ad ag bc) (ps := [VB (decide (aa = 11)), VB (decide (aa = 11))]) (by kernel_rfl) ?_ ?_ rfl hS ⟨az.1, az.2.1, az.2.2.1, az.2.2.2.1, (bR bc)⟩ ?_ ?_
 ·exact bs5
 ·exact .v (.v (.nil))
 ·refine .on rfl (fun a w hS hI hp => does_val (x_bin rfl (hS.get 1 rfl) (rfl) (b_eql _ _ _ _ _ _)) rfl) ?_
  refine .asg 0 rfl rfl rfl ?_
  exact .nil
 clear hS
 intro bM bd hS aA hp
 replace hS := (((hS.nil).cons (hS.get 3 rfl)).cons (hS.get 2 rfl)).cons (hS.get 1 rfl)
 have aX : sl _ 38 = .bool (decide (aa = 11)) := hp 1 (by decide)
 have hS := hS.cons aX
 clear hp aX
 refine bq _ _ ?_
 refine wp_cond_false ((hS.get 0 rfl).trans (bF (decide_eq_false c5))) ?_
 refine wp_seq_k (fun b1 br => ?_)
 refine reg_seq (I := I5_ w w3 ad ag bd) (ps := [VB (decide (aa = 13)), VB (decide (aa = 13))]) (by kernel_rfl) ?_ ?_ rfl hS ⟨aA.1, aA.2.1, aA.2.2.1, aA.2.2.2.1, (bR bd)⟩ ?_ ?_
 ·exact bs5
 ·exact .v (.v (.nil))
 ·refine .on rfl (fun a w hS hI hp => does_val (x_bin rfl (hS.get 1 rfl) (rfl) (b_eql _ _ _ _ _ _)) rfl) ?_
  refine .asg 0 rfl rfl rfl ?_
  exact .nil
 clear hS
 intro bN be hS aB hp
 replace hS := ((hS.nil).cons (hS.get 3 rfl)).cons (hS.get 2 rfl)
 have aY : sl _ 65 = .bool (decide (aa = 13)) := hp 1 (by decide)
 have hS := hS.cons aY
 clear hp aY
 refine br _ _ ?_
 refine wp_cond_false ((hS.get 0 rfl).trans (bF (decide_eq_false c6))) ?_
 refine wp_skip ?_
 refine bn _ _ ?_
 refine wp_seq_k (fun b2 bs => ?_)
 refine reg_seq (I := I5_ w w3 ad ag be) (ps := [IsV (.slice ae ac.length af), IsV (.slice ae ac.length af), VB true]) (by kernel_rfl) ?_ ?_ rfl hS ⟨aB.1, aB.2.1, aB.2.2.1, aB.2.2.2.1, (bR be)⟩ ?_ ?_
 ·exact bs5
 ·exact .v (.v (.v (.nil)))
 ·refine .ms 1 rfl rfl rfl ?_
  refine .asg 0 rfl rfl rfl ?_
  refine .on rfl (fun a w hS hI hp => does_val (x_assign rfl (rfl)) rfl) ?_
  exact .nil
 clear hS
 intro bO b5 hS a1 hp
 replace hS := hS.nil
 have a3 : sl _ 4 = .slice ae ac.length af := hp 1 (by decide)
 have a4 : sl _ 5 = .bool true := hp 2 (by decide)
 have hS := hS.cons a3
 have hS := hS.cons a4
 clear hp a3 a4
 refine bs _ _ ?_
 refine wp_ret ?_
 (try simp only [Exit.then, Exit.inBlock, Exit.jump, Exit.noGoto])
 exact bodyPost_ret (v := .tuple #[.slice ae ac.length af, .bool true]) (results_list (rs := [.tmp 4, .tmp 5]) rfl (by simp) (Vals.at (hS.get 1 rfl) (Vals.at (hS.get 0 rfl) .nil))) hS.nodef ⟨.slice ae ac.length af, rfl, ⟨_, _, rfl, bu, Kd.C_below bt a1.2.2.2.1⟩, a1.1⟩
def tlv_Put.l1 (k : Nat) : Nat → (List Int) → (List Int) → (List (S43)) → Int → Int → Option (List Int × Bool)
  | 0, _, _, _, _, _ => none
  | n1 + 1, y1_0, y1_6, y1_19, x1_20, x1_21 => if x1_21 < x1_20 then (none) else (some (y1_6, true))
def tlv_Put.f (k : Nat) (l0 : List Int) (l1 : List (S43)) : Option (List Int × Bool) := if (l1.length : Int) > 8 then (none) else (tlv_Put.l1 k k l0 l0 l1 (l1.length : Int) 0)
open Go.Proofs.Ytiomlbkakiienaa.E in
set_option maxHeartbeats 60000000 in
set_option maxRecDepth 100000 in
theorem tlv_Put.calls (k : Nat) (A0 : Option Addr) (aj : Nat) (l0 : List Int) (A1 : Option Addr) (am : Nat) (l1 : List (S43)) (r1 : List Int) (r2 : Bool) (w : World) (HR0 : Kd.C (Kd.int .u8) w A0 l0.length l0) (HC0 : l0.length ≤ aj) (HR1 : Kd.C k43 w A1 l1.length l1) (HC1 : l1.length ≤ am) (h : tlv_Put.f k l0 l1 = some (r1, r2)) :
    Calls Try.prog 21 #[.slice A0 l0.length aj, .slice A1 l1.length am] w fun e w' => ∃ v0_ : Value, e = .returned (.tuple #[v0_, .bool r2]) ∧ IsC (Kd.int .u8) r1 v0_ w' ∧ Below w.heap.size w w' := by
 have H := h
 clear h
 unfold tlv_Put.f at H
 by_cases c1 : (l1.length : Int) > 8
 ·rw [if_pos c1] at H; exact absurd H (by simp)
 rw [if_neg c1] at H
 refine calls_of_wp (fn := Try.f21) (by kernel_rfl) rfl ?_
 have hS := St.enter #[.slice A0 l0.length aj, .slice A1 l1.length am] 42 (by simp) [(0, .slice A0 l0.length aj), (1, .slice A1 l1.length am)] (by simp)
 have aM := Below.refl w.heap.size w
 refine wp_seq_k (fun K1 aP => ?_)
 refine reg_seq (I := I1_ w) (ps := [IsV (.slice none 0 0), VB false]) (by kernel_rfl) ?_ ?_ rfl hS aM ?_ ?_
 ·exact bs1
 ·exact .v (.v (.nil))
 ·refine .on rfl (fun a w hS hI hp => does_val (x_assign rfl (rfl)) rfl) ?_
  refine .on rfl (fun a w hS hI hp => does_val (x_assign rfl (rfl)) rfl) ?_
  exact .nil
 clear hS
 intro a7 w3 hS aW hp
 clear hp
 refine aP _ _ ?_
 refine wp_seq_k (fun K4 aR => ?_)
 refine wp_seq_k (fun K5 aS => ?_)
 refine reg_seq (I := I2_ w w3) (ps := [IsV (.slice A1 l1.length am), VI (l1.length : Int), VB (decide ((l1.length : Int) > 8))]) (by kernel_rfl) ?_ ?_ rfl hS ⟨aW, (bR w3)⟩ ?_ ?_
 ·exact bs2
 ·exact .v (.v (.v (.nil)))
 ·refine .ms 1 rfl rfl rfl ?_
  refine .on rfl (fun a w hS hI hp => does_val (x_len (e := 43) rfl (by kernel_rfl) (hp.V 0 rfl rfl)) rfl) ?_
  refine .on rfl (fun a w hS hI hp => does_val (x_bin rfl (hp.V 1 rfl rfl) (rfl) (b_gtr _ _ _ _ _ _)) rfl) ?_
  exact .nil
 clear hS
 intro a8 w7 hS aX hp
 have aw : sl _ 11 = .bool (decide ((l1.length : Int) > 8)) := hp 2 (by decide)
 have hS := hS.cons aw
 clear hp aw
 refine aS _ _ ?_
 refine wp_cond_false ((hS.get 0 rfl).trans (bF (decide_eq_false c1))) ?_
 refine wp_skip ?_
 refine aR _ _ ?_
 refine wp_seq_k (fun K8 aT => ?_)
 refine reg_seq (I := I2_ w w7) (ps := [IsV (.slice A0 l0.length aj), IsV (.slice A0 l0.length aj), VI (l0.length : Int), IsV (.slice A0 l0.length aj), VI (l0.length : Int), IsV (.slice A0 l0.length l0.length), IsV (.slice A0 l0.length l0.length)]) (by kernel_rfl) ?_ ?_ rfl hS ⟨aX.1, (bR w7)⟩ ?_ ?_
 ·exact bs2
 ·exact .v (.v (.v (.v (.v (.v (.v (.nil)))))))
 ·refine .ms 1 rfl rfl rfl ?_
  refine .ms 1 rfl rfl rfl ?_
  refine .on rfl (fun a w hS hI hp => does_val (x_len (e := 5) rfl (by kernel_rfl) (hp.V 1 rfl rfl)) rfl) ?_
  refine .ms 1 rfl rfl rfl ?_
  refine .on rfl (fun a w hS hI hp => does_val (x_len (e := 5) rfl (by kernel_rfl) (hp.V 3 rfl rfl)) rfl) ?_
  refine .on rfl (fun a w hS hI hp => does_val (x_cutcap (e := 5) (n := l0.length) (c := aj) (j := (l0.length : Int)) (k := (l0.length : Int)) rfl (by kernel_rfl) (by kernel_rfl) (hp.V 0 rfl rfl) (hp.V 2 rfl rfl) (hp.V 4 rfl rfl) (Int.natCast_nonneg _) (Int.le_refl _) (Int.ofNat_le.2 HC0)) rfl) ?_
  refine .asg 5 rfl rfl rfl ?_
  exact .nil
 clear hS
 intro a9 aG hS aJ hp
 replace hS := ((hS.nil).cons (hS.get 2 rfl)).cons (hS.get 1 rfl)
 have aF : sl _ 6 = .slice A0 l0.length l0.length := hp 6 (by decide)
 have hS := hS.cons aF
 clear hp aF
 refine aT _ _ ?_
 refine wp_seq_k (fun a4 aH => ?_)
 refine wp_seq_k (fun a5 aI => ?_)
 refine reg_seq (I := I2_ w aG) (ps := [IsV (.slice A1 l1.length am), VI (l1.length : Int), VI 0]) (by kernel_rfl) ?_ ?_ rfl hS ⟨aJ.1, (bR aG)⟩ ?_ ?_
 ·exact bs2
 ·exact .v (.v (.v (.nil)))
 ·refine .ms 2 rfl rfl rfl ?_
  refine .on rfl (fun a w hS hI hp => does_val (x_len (e := 43) rfl (by kernel_rfl) (hp.V 0 rfl rfl)) rfl) ?_
  refine .on rfl (fun a w hS hI hp => does_val (x_move rfl (rfl)) rfl) ?_
  exact .nil
 clear hS
 intro a3 ba hS aK hp
 replace hS := ((hS.nil).cons (hS.get 1 rfl)).cons (hS.get 0 rfl)
 have ax : sl _ 19 = .slice A1 l1.length am := hp 0 (by decide)
 have ay : sl _ 20 = .int .i64 (l1.length : Int) := hp 1 (by decide)
 have az : sl _ 21 = .int .i64 0 := hp 2 (by decide)
 have hS := hS.cons ax
 have hS := hS.cons ay
 have hS := hS.cons az
 clear hp ax ay az
 refine aI _ _ ?_
 refine wp_block ?_
 replace hS := (((((hS.nil).cons (hS.get 0 rfl)).cons (hS.get 1 rfl)).cons (hS.get 2 rfl)).cons (hS.get 3 rfl)).cons (hS.get 4 rfl)
 refine wp_loop_ghost (fun n_ a_ ap => ∃ (ag : List Int) (ak : Option Addr) (al : Nat) (aa : List Int) (ab : Option Addr) (ac : Nat) (af : List (S43)) (ah : Option Addr) (ai : Nat) (ad ae : Int), tlv_Put.l1 k n_ ag aa af ad ae = some (r1, r2) ∧ St 42 [(0, .slice ak ag.length al), (6, .slice ab aa.length ac), (19, .slice ah af.length ai), (20, .int .i64 ad), (21, .int .i64 ae)] a_ ∧ Below w.heap.size w ap ∧ ag.length ≤ al ∧ Kd.C (Kd.int .u8) w ak ag.length ag ∧ aa.length ≤ ac ∧ Kd.C (Kd.int .u8) w ab aa.length aa ∧ af.length ≤ ai ∧ Kd.C k43 w ah af.length af) k ⟨l0, A0, aj, l0, A0, l0.length, l1, A1, am, (l1.length : Int), 0, H, hS, aK.1, HC0, (HR0), (Nat.le_refl _), (HR0), HC1, (HR1)⟩ ?_
 clear H hS
 rintro n1 a6 ap ⟨ag, ak, al, aa, ab, ac, af, ah, ai, ad, ae, H, hS, aq, a1, aU, aC, av, aV, aL⟩
 rcases n1 with _ | n1
 ·exact absurd H (by simp [tlv_Put.l1])
 rw [tlv_Put.l1] at H
 (try dsimp only at H)
 by_cases c2 : ae < ad
 ·rw [if_pos c2] at H; exact absurd H (by simp)
 rw [if_neg c2] at H
 simp only [Option.some.injEq, Prod.mk.injEq] at H
 obtain ⟨rfl, rfl⟩ := H
 refine wp_seq_k (fun aY ar => ?_)
 refine reg_seq (I := I2_ w ap) (ps := [VB (decide (ae < ad))]) (by kernel_rfl) ?_ ?_ rfl hS ⟨aq, (bR ap)⟩ ?_ ?_
 ·exact bs2
 ·exact .v (.nil)
 ·refine .on rfl (fun a w hS hI hp => does_val (x_bin rfl (hS.get 4 rfl) (hS.get 3 rfl) (b_lss _ _ _ _ _ _)) rfl) ?_
  exact .nil
 clear hS
 intro aN ao hS aB hp
 have aA : sl _ 22 = .bool (decide (ae < ad)) := hp 0 (by decide)
 have hS := hS.cons aA
 clear hp aA
 refine ar _ _ ?_
 refine wp_seq_k (fun aZ aQ => ?_)
 refine wp_cond_false ((hS.get 0 rfl).trans (bF (decide_eq_false c2))) ?_
 refine wp_exit ?_
 (try simp only [Exit.then, Exit.inBlock, reduceIte])
 refine aH _ _ ?_
 refine wp_seq_k (fun a0 au => ?_)
 refine reg_seq (I := I2_ w ao) (ps := [IsV (.slice ab aa.length ac), IsV (.slice ab aa.length ac), VB true]) (by kernel_rfl) ?_ ?_ rfl hS ⟨aB.1, (bR ao)⟩ ?_ ?_
 ·exact bs2
 ·exact .v (.v (.v (.nil)))
 ·refine .ms 2 rfl rfl rfl ?_
  refine .asg 0 rfl rfl rfl ?_
  refine .on rfl (fun a w hS hI hp => does_val (x_assign rfl (rfl)) rfl) ?_
  exact .nil
 clear hS
 intro aO a2 hS an hp
 replace hS := hS.nil
 have aD : sl _ 4 = .slice ab aa.length ac := hp 1 (by decide)
 have aE : sl _ 5 = .bool true := hp 2 (by decide)
 have hS := hS.cons aD
 have hS := hS.cons aE
 clear hp aD aE
 refine au _ _ ?_
 refine wp_ret ?_
 (try simp only [Exit.then, Exit.inBlock, Exit.jump, Exit.noGoto])
 exact bodyPost_ret (v := .tuple #[.slice ab aa.length ac, .bool true]) (results_list (rs := [.tmp 4, .tmp 5]) rfl (by simp) (Vals.at (hS.get 1 rfl) (Vals.at (hS.get 0 rfl) .nil))) hS.nodef ⟨.slice ab aa.length ac, rfl, ⟨_, _, rfl, aC, Kd.C_below av an.1⟩, an.1⟩
def header_control.f (a0 : Int) : Option (Int) := if a0 = 0 then (some 0) else (if a0 = 1 then (some 1) else (if a0 = 8 then (some 2) else (if a0 = 9 then (some 3) else (if a0 = 13 then (some 4) else (some 5)))))
set_option maxHeartbeats 8000000 in
set_option maxRecDepth 100000 in
theorem header_control.calls (a0 : Int) (r : Int) (w : World) (h : header_control.f a0 = some r) :
    Calls Try.prog 45 #[.int .i64 a0] w fun e w' => e = .returned (.int .i64 r) ∧ Drawn0 w w' := by
  have H : (if a0 = 0 then (some 0) else (if a0 = 1 then (some 1) else (if a0 = 8 then (some 2) else (if a0 = 9 then (some 3) else (if a0 = 13 then (some 4) else (some 5)))))) = some r := h
  clear h
  by_cases c2 : a0 = 0
  · rw [if_pos c2] at H
    have c2b0 : (a0 == 0) = true := beq_iff_eq.mpr c2
    have c2b1 : (a0 != 0) = false := bne_eq_false_iff_eq.mpr c2
    clear c2
    obtain rfl := Option.some.inj H
    go_enter Try.func45, Try.ntmps45
    go_wp2
    all_goals
      go_ret
      exact ⟨by first | rfl | (simp; done) | (simp [*]; done), by repeat (first | exact Drawn0.refl _ | apply Drawn0.step)⟩
  · rw [if_neg c2] at H
    have c2b0 : (a0 == 0) = false := beq_eq_false_iff_ne.mpr c2
    have c2b1 : (a0 != 0) = true := bne_iff_ne.mpr c2
    by_cases c3 : a0 = 1
    · rw [if_pos c3] at H
      have c3b0 : (a0 == 1) = true := beq_iff_eq.mpr c3
      have c3b1 : (a0 != 1) = false := bne_eq_false_iff_eq.mpr c3
      clear c3
      obtain rfl := Option.some.inj H
      go_enter Try.func45, Try.ntmps45
      go_wp2
      all_goals
        go_ret
        exact ⟨by first | rfl | (simp; done) | (simp [*]; done), by repeat (first | exact Drawn0.refl _ | apply Drawn0.step)⟩
    · rw [if_neg c3] at H
      have c3b0 : (a0 == 1) = false := beq_eq_false_iff_ne.mpr c3
      have c3b1 : (a0 != 1) = true := bne_iff_ne.mpr c3
      by_cases c4 : a0 = 8
      · rw [if_pos c4] at H
        have c4b0 : (a0 == 8) = true := beq_iff_eq.mpr c4
        have c4b1 : (a0 != 8) = false := bne_eq_false_iff_eq.mpr c4
        clear c4
        obtain rfl := Option.some.inj H
        go_enter Try.func45, Try.ntmps45
        go_wp2
        all_goals
          go_ret
          exact ⟨by first | rfl | (simp; done) | (simp [*]; done), by repeat (first | exact Drawn0.refl _ | apply Drawn0.step)⟩
      · rw [if_neg c4] at H
        have c4b0 : (a0 == 8) = false := beq_eq_false_iff_ne.mpr c4
        have c4b1 : (a0 != 8) = true := bne_iff_ne.mpr c4
        by_cases c5 : a0 = 9
        · rw [if_pos c5] at H
          have c5b0 : (a0 == 9) = true := beq_iff_eq.mpr c5
          have c5b1 : (a0 != 9) = false := bne_eq_false_iff_eq.mpr c5
          clear c5
          obtain rfl := Option.some.inj H
          go_enter Try.func45, Try.ntmps45
          go_wp2
          all_goals
            go_ret
            exact ⟨by first | rfl | (simp; done) | (simp [*]; done), by repeat (first | exact Drawn0.refl _ | apply Drawn0.step)⟩
        · rw [if_neg c5] at H
          have c5b0 : (a0 == 9) = false := beq_eq_false_iff_ne.mpr c5
          have c5b1 : (a0 != 9) = true := bne_iff_ne.mpr c5
          by_cases c6 : a0 = 13
          · rw [if_pos c6] at H
            have c6b0 : (a0 == 13) = true := beq_iff_eq.mpr c6
            have c6b1 : (a0 != 13) = false := bne_eq_false_iff_eq.mpr c6
            clear c6
            obtain rfl := Option.some.inj H
            go_enter Try.func45, Try.ntmps45
            go_wp2
            all_goals
              go_ret
              exact ⟨by first | rfl | (simp; done) | (simp [*]; done), by repeat (first | exact Drawn0.refl _ | apply Drawn0.step)⟩
          · rw [if_neg c6] at H
            have c6b0 : (a0 == 13) = false := beq_eq_false_iff_ne.mpr c6
            have c6b1 : (a0 != 13) = true := bne_iff_ne.mpr c6
            obtain rfl := Option.some.inj H
            go_enter Try.func45, Try.ntmps45
            go_wp2
            all_goals
              go_ret
              exact ⟨by first | rfl | (simp; done) | (simp [*]; done), by repeat (first | exact Drawn0.refl _ | apply Drawn0.step)⟩
def header_Put.f (k : Nat) (a0_0 a0_1 a0_2 a0_3 a0_4 a0_5 a0_6 a0_7 a0_8 a0_9 a0_10 a0_11 a0_12 a0_13 a0_14 a0_15 a0_16 a0_17 a0_18 a0_19 a0_20 a0_21 a0_22 a1 : Int) : Option (List Int × Bool) := (header_Check.f k a0_0 a0_1 a0_2 a0_3 a0_4 a0_5 a0_6 a0_7 a0_8 a0_9 a0_10 a0_11 a0_12 a0_13 a0_14 a0_15 a0_16 a0_17 a0_18 a0_19 a0_20 a0_21 a0_22).bind fun t7 => (if t7 = true then ((header_in.f a1 34 400).bind fun t8 => (if t8 = true then ((octets_Put.f [IntKind.u8.wrap a0_0, 18] a1 2).bind fun t12 => ((octets_Put.f t12 a0_1 1).bind fun t17 => ((octets_Put.f t17 0 1).bind fun t18 => ((octets_Put.f t18 a0_2 2).bind fun t25 => ((octets_Put.f t25 a0_3 8).bind fun t26 => ((octets_Put.f t26 0 4).bind fun t33 => ((ident_Put.f t33 a0_4 a0_5).bind fun t34 => ((octets_Put.f t34 a0_6 2).bind fun t41 => ((header_control.f a0_0).bind fun t42 => ((octets_Put.f t41 t42 1).bind fun t43 => ((octets_Put.f t43 a0_7 1).bind fun t44 => (some (t44, true))))))))))))) else (none))) else (none))
abbrev header_Put.v0 (x0 x1 x2 x3 x4 x5 x6 x7 x8 x9 x10 x11 x12 x13 x14 x15 x16 x17 x18 x19 x20 x21 x22 : Int) : Value := .agg #[.int .i64 x0, .int .i64 x1, .int .i64 x2, .int .i64 x3, .int .u64 x4, .int .i64 x5, .int .i64 x6, .int .i64 x7, .int .i64 x8, .int .u64 x9, .int .i64 x10, .int .i64 x11, .int .i64 x12, .int .i64 x13, .int .i64 x14, .int .i64 x15, .int .i64 x16, .int .u64 x17, .int .i64 x18, .int .i64 x19, .int .i64 x20, .int .i64 x21, .int .i64 x22]
abbrev header_Put.c1 (x0 x1 x2 x3 x4 x5 x6 x7 x8 x9 x10 x11 x12 x13 x14 x15 x16 x17 x18 x19 x20 x21 x22 : Int) : Array Value := #[.int .i64 x0, .int .i64 x1, .int .i64 x2, .int .i64 x3, .int .u64 x4, .int .i64 x5, .int .i64 x6, .int .i64 x7, .int .i64 x8, .int .u64 x9, .int .i64 x10, .int .i64 x11, .int .i64 x12, .int .i64 x13, .int .i64 x14, .int .i64 x15, .int .i64 x16, .int .u64 x17, .int .i64 x18, .int .i64 x19, .int .i64 x20, .int .i64 x21, .int .i64 x22]
open Go.Proofs.Ytiomlbkakiienaa.E in
set_option maxHeartbeats 60000000 in
set_option maxRecDepth 100000 in
theorem header_Put.calls (k : Nat) (ab am an ao ah ai ap aq aY aZ ay az aA aB aC aD aE aF aG aH aI aJ aK a1 : Int) (r1 : List Int) (r2 : Bool) (w : World) (h : header_Put.f k ab am an ao ah ai ap aq aY aZ ay az aA aB aC aD aE aF aG aH aI aJ aK a1 = some (r1, r2)) :
    Calls Try.prog 22 #[.agg #[.int .i64 ab, .int .i64 am, .int .i64 an, .int .i64 ao, .int .u64 ah, .int .i64 ai, .int .i64 ap, .int .i64 aq, .int .i64 aY, .int .u64 aZ, .int .i64 ay, .int .i64 az, .int .i64 aA, .int .i64 aB, .int .i64 aC, .int .i64 aD, .int .i64 aE, .int .u64 aF, .int .i64 aG, .int .i64 aH, .int .i64 aI, .int .i64 aJ, .int .i64 aK], .int .i64 a1] w fun e w' => ∃ v0_ : Value, e = .returned (.tuple #[v0_, .bool r2]) ∧ Kd.R (Kd.int .u8) 5 w' w.heap.size (fun _ => True) v0_ r1 ∧ Below w.heap.size w w' := by
 have H := h
 clear h
 unfold header_Put.f at H
 obtain ⟨t7, b5, H⟩ := Option.bind_eq_some_iff.mp H
 by_cases c1 : t7 = true
 rotate_left
 ·rw [if_neg c1] at H; exact absurd H (by simp)
 rw [if_pos c1] at H
 obtain ⟨t8, b6, H⟩ := Option.bind_eq_some_iff.mp H
 by_cases c2 : t8 = true
 rotate_left
 ·rw [if_neg c2] at H; exact absurd H (by simp)
 rw [if_pos c2] at H
 obtain ⟨aj, bA, H⟩ := Option.bind_eq_some_iff.mp H
 obtain ⟨bj, bB, H⟩ := Option.bind_eq_some_iff.mp H
 obtain ⟨ac, bC, H⟩ := Option.bind_eq_some_iff.mp H
 obtain ⟨bk, bD, H⟩ := Option.bind_eq_some_iff.mp H
 obtain ⟨ad, bE, H⟩ := Option.bind_eq_some_iff.mp H
 obtain ⟨bl, bG, H⟩ := Option.bind_eq_some_iff.mp H
 obtain ⟨ae, bH, H⟩ := Option.bind_eq_some_iff.mp H
 obtain ⟨bm, bI, H⟩ := Option.bind_eq_some_iff.mp H
 obtain ⟨bn, bJ, H⟩ := Option.bind_eq_some_iff.mp H
 obtain ⟨bo, bK, H⟩ := Option.bind_eq_some_iff.mp H
 obtain ⟨ak, bL, H⟩ := Option.bind_eq_some_iff.mp H
 simp only [Option.some.injEq, Prod.mk.injEq] at H
 obtain ⟨rfl, rfl⟩ := H
 refine calls_of_wp (fn := Try.f22) (by kernel_rfl) rfl ?_
 have hS := St.enter #[(header_Put.v0 ab am an ao ah ai ap aq aY aZ ay az aA aB aC aD aE aF aG aH aI aJ aK), .int .i64 a1] 49 (by simp) [(0, (header_Put.v0 ab am an ao ah ai ap aq aY aZ ay az aA aB aC aD aE aF aG aH aI aJ aK)), (1, .int .i64 a1)] (by simp)
 have b7 := Below.refl w.heap.size w
 refine wp_seq_k (fun K1 b8 => ?_)
 refine reg_seq (I := I1_ w) (ps := [IsB (header_Put.c1 ab am an ao ah ai ap aq aY aZ ay az aA aB aC aD aE aF aG aH aI aJ aK) 28 w.heap.size, IsV (.slice none 0 0), VB false]) (by kernel_rfl) ?_ ?_ rfl hS b7 ?_ ?_
 ·exact bs1
 ·exact .cons (Stays.b _ _ _) (.v (.v (.nil)))
 ·refine .on rfl (fun a w hS hI hp => does_var (x_box rfl (congrArg Value.cells (hS.get 0 rfl))) (hI).size) ?_
  iterate 2 refine .on rfl (fun a w hS hI hp => does_val (x_assign rfl (rfl)) rfl) ?_
  exact .nil
 clear hS
 intro cx w3 hS cb hp
 replace hS := (hS.nil).cons (hS.get 1 rfl)
 obtain ⟨g4, bx, cc, aa⟩ := (show IsB _ 28 _ (sl _ 2) _ from hp 0 (by decide))
 have hS := hS.cons bx
 clear hp bx
 refine b8 _ _ ?_
 refine wp_seq_k (fun K5 b9 => ?_)
 refine wp_seq_k (fun K6 ca => ?_)
 refine reg_seq (I := I2_ w w3) (ps := [IsV ((header_Put.v0 ab am an ao ah ai ap aq aY aZ ay az aA aB aC aD aE aF aG aH aI aJ aK)), VB t7, VB (!t7), VB (!t7), VI a1, VB t8, VB (!t8), VB (!t8)]) (by kernel_rfl) ?_ ?_ rfl hS ⟨cb, (bR w3)⟩ ?_ ?_
 ·exact bs2
 ·exact .v (.v (.v (.v (.v (.v (.v (.v (.nil))))))))
 ·refine .on rfl (fun a w hS hI hp => does_loadrow rfl (hS.get 0 rfl) (((hI.2).block g4 (blk_lt aa)).trans aa) Try.underlying28 rfl (by kernel_rfl) rfl) ?_
  refine .on rfl (fun a w hS hI hp => does_call (by kernel_rfl) (ar1 (hp.V 0 rfl rfl)) ((header_Check.calls (w := _) (h := b5)).mono fun _ _ h => ⟨_, h.1, h.2, rfl⟩)) ?_
  refine .on rfl (fun a w hS hI hp => does_val (x_not rfl (hp.V 1 rfl rfl)) rfl) ?_
  refine .mv 2 rfl rfl rfl ?_
  refine .oy 3 10 rfl rfl ((congrArg (!·) c1)) (fun a w hS hI hp => does_val (x_move rfl (hS.get 1 rfl)) rfl) ?_
  refine .oy 3 10 rfl rfl ((congrArg (!·) c1)) (fun a w hS hI hp => does_call (by kernel_rfl) (ar3 (hp.V 4 rfl rfl) (rfl) (rfl)) ((header_in.calls a1 34 400 t8 _  b6).mono fun _ _ h => ⟨_, h.1, h.2.below, rfl⟩)) ?_
  refine .oy 3 10 rfl rfl ((congrArg (!·) c1)) (fun a w hS hI hp => does_val (x_not rfl (hp.V 5 rfl rfl)) rfl) ?_
  refine .on rfl (fun a w hS hI hp => does_val (x_pickF rfl ((hp.V 3 rfl rfl).trans (bF (congrArg (!·) c1))) (hp.V 6 rfl rfl)) rfl) ?_
  exact .nil
 clear hS
 intro cy af hS bi hp
 have bf : sl _ 14 = .bool (!t8) := hp 7 (by decide)
 have hS := hS.cons bf
 clear hp bf
 refine ca _ _ ?_
 refine wp_cond_false ((hS.get 0 rfl).trans (bF (congrArg (!·) c2))) ?_
 refine wp_skip ?_
 refine b9 _ _ ?_
 refine wp_seq_k (fun cr bM => ?_)
 refine reg_seq (I := I3_ w w3 af) (ps := [VP g4 0, VI ab, IsV (.int .u8 (IntKind.u8.wrap ab)), IsR (Kd.int .u8) 5 af.heap.size [IntKind.u8.wrap ab, 18], VI a1, IsR (Kd.int .u8) 5 af.heap.size aj, IsR (Kd.int .u8) 5 af.heap.size aj]) (by kernel_rfl) ?_ ?_ rfl hS ⟨bi.1, bi.2, (bR af)⟩ ?_ ?_
 ·exact bs3
 ·exact .v (.v (.v (.cons (Stays.r _ _ _ _) (.v (.cons (Stays.r _ _ _ _) (.cons (Stays.r _ _ _ _) (.nil)))))))
 ·refine .on rfl (fun a w hS hI hp => does_val (x_fieldE (b := 0) rfl (hS.get 1 rfl) Try.underlying28 rfl rfl (by kernel_rfl)) rfl) ?_
  refine .on rfl (fun a w hS hI hp => does_val (x_load1 (d := .int .i64) rfl (hp.V 0 rfl rfl) (by kernel_rfl) rfl ((blk_cell (((hI.2.1).block g4 (blk_lt aa)).trans aa) 0).trans rfl)) rfl) ?_
  refine .on rfl (fun a w hS hI hp => does_val (x_convI rfl (by kernel_rfl) (by kernel_rfl) (hp.V 1 rfl rfl)) rfl) ?_
  refine .on rfl (fun a w hS hI hp => does_lit af.heap.size 36 5 2 _ [(0, .int .u8 (IntKind.u8.wrap ab)), (1, .int .u8 18)] [IntKind.u8.wrap ab, 18] rfl (by kernel_rfl) (by rw [Array.toList_map]; exact (show [(0, a.eval (.tmp 17)), (1, a.eval (.const (.int .u8 18)))] = _ from (li_cons (hp.V 2 rfl rfl) (li_cons (rfl) rfl)))) (by kernel_rfl) rfl (hI.2.2).size (Nat.le_of_ble_eq_true rfl)) ?_
  refine .ms 2 rfl rfl rfl ?_
  refine .on rfl (fun a w hS hI hp => (IsC.of_r (hp.V 3 rfl rfl)).elim fun A_ h_ => h_.elim fun c_ h_ => h_.elim fun hv_ h_ => h_.elim fun hl_ hc_ => does_call (by kernel_rfl) (ar3 (hv_) (hp.V 4 rfl rfl) (rfl)) ((octets_Put.calls _ _ [IntKind.u8.wrap ab, 18] a1 2 aj _ hc_ hl_ bA).mono fun _ _ h => h.elim fun v0 h => ⟨v0, h.1, h.2.2, Kd.R_lower h.2.1 hI.2.2.size⟩)) ?_
  refine .on rfl (fun a w hS hI hp => does_val (x_assign rfl rfl) (hp.V 5 rfl rfl)) ?_
  exact .nil
 clear hS
 intro cd ag hS a7 hp
 replace hS := (hS.nil).cons (hS.get 1 rfl)
 obtain ⟨bq, br, bh, bW, bS⟩ := Kd.R_reads (show Kd.R (Kd.int .u8) 5 ag af.heap.size (fun _ => True) (sl _ 6) aj from hp 6 (by decide))
 have cn : Kd.R (Kd.int .u8) 5 ag af.heap.size (fun _ => True) (.slice bq aj.length br) aj := bh ▸ (hp 6 (by decide))
 have hS := hS.cons bh
 clear hp bh
 refine bM _ _ ?_
 refine wp_seq_k (fun ct bN => ?_)
 refine reg_seq_tail 5 (I := I4_ w w3 af ag) (ps := [IsV (.slice bq aj.length br), VP g4 1, VI am, IsR (Kd.int .u8) 5 ag.heap.size bj, IsR (Kd.int .u8) 5 ag.heap.size ac]) (by kernel_rfl) ?_ ?_ rfl hS ⟨a7.1, a7.2.1, a7.2.2, (bR ag)⟩ ?_ ?_
 ·exact bs4
 ·exact .v (.v (.v (.cons (Stays.r _ _ _ _) (.cons (Stays.r _ _ _ _) (.nil)))))
 ·refine .ms 0 rfl rfl rfl ?_
  refine .on rfl (fun a w hS hI hp => does_val (x_fieldE (b := 0) rfl (hS.get 1 rfl) Try.underlying28 rfl rfl (by kernel_rfl)) rfl) ?_
  refine .on rfl (fun a w hS hI hp => does_val (x_load1 (d := .int .i64) rfl (hp.V 1 rfl rfl) (by kernel_rfl) rfl ((blk_cell (((hI.2.1).block g4 (blk_lt aa)).trans aa) 1).trans rfl)) rfl) ?_
  refine .on rfl (fun a w hS hI hp => does_call (by kernel_rfl) (ar3 (hp.V 0 rfl rfl) (hp.V 2 rfl rfl) (rfl)) ((octets_Put.calls _ _ aj am 1 bj _ (Kd.C_below bS hI.2.2.2) bW bB).mono fun _ _ h => h.elim fun v0 h => ⟨v0, h.1, h.2.2, Kd.R_lower h.2.1 hI.2.2.2.size⟩)) ?_
  refine .on rfl (fun a w hS hI hp => (IsC.of_r (hp.V 3 rfl rfl)).elim fun A_ h_ => h_.elim fun c_ h_ => h_.elim fun hv_ h_ => h_.elim fun hl_ hc_ => does_call (by kernel_rfl) (ar3 (hv_) (rfl) (rfl)) ((octets_Put.calls _ _ bj 0 1 ac _ hc_ hl_ bC).mono fun _ _ h => h.elim fun v0 h => ⟨v0, h.1, h.2.2, Kd.R_lower h.2.1 hI.2.2.2.size⟩)) ?_
  exact .nil
 clear hS
 intro ce a8 hS aL hp
 obtain ⟨aM, aP, a4, bX, bT⟩ := Kd.R_reads (show Kd.R (Kd.int .u8) 5 a8 ag.heap.size (fun _ => True) (sl _ 25) ac from hp 4 (by decide))
 have co : Kd.R (Kd.int .u8) 5 a8 ag.heap.size (fun _ => True) (.slice aM ac.length aP) ac := a4 ▸ (hp 4 (by decide))
 have hS := hS.cons a4
 clear hp a4
 show wpList _ _ _ [_] _ _
 refine list_step rfl (R := fun v w' => Below _ _ w' ∧ (IsV (.slice aM ac.length aP)) v w') (does_val (x_assign rfl (hS.get 0 rfl)) rfl) ?_
 rintro b2 av ⟨hb, he⟩
 have bb := below_step aL.1 hb
 have a0 := below_step aL.2.1 hb
 have bs := below_step aL.2.2.1 hb
 have aS := below_step aL.2.2.2 hb
 have aT := below_step (bR a8) hb
 obtain rfl : b2 = .slice aM ac.length aP := he
 replace hS := ((hS.nil).cons (hS.get 2 rfl)).cons (hS.get 0 rfl)
 refine hS.next (v := .slice aM ac.length aP) (d := 6) rfl (by decide) (by rfl) ?_
 clear hS
 intro cf hS
 refine wpList_nil ?_
 refine bN _ _ ?_
 refine wp_seq_k (fun cu bO => ?_)
 refine reg_any_tail 7 [0, 0, 2, 7, 0, 16, 63, 127] (I := I5_ w w3 ag a8 av) (ps := [IsV (.slice aM ac.length aP), VP g4 2, VI an, IsR (Kd.int .u8) 5 av.heap.size bk, VP g4 3, VI ao, IsR (Kd.int .u8) 5 av.heap.size ad]) (by kernel_rfl) (by kernel_rfl) (by kernel_rfl) (by decide) ?_ ?_ rfl hS ⟨bb, a0, aS, aT, (bR av)⟩ ?_ ?_
 ·exact bs5
 ·exact .v (.v (.v (.cons (Stays.r _ _ _ _) (.v (.v (.cons (Stays.r _ _ _ _) (.nil)))))))
 ·refine .ms 0 rfl rfl rfl ?_
  refine .on rfl (fun a w hS hI hp => does_val (x_fieldE (b := 0) rfl (hS.get 2 rfl) Try.underlying28 rfl rfl (by kernel_rfl)) rfl) ?_
  refine .on rfl (fun a w hS hI hp => does_val (x_load1 (d := .int .i64) rfl (hp.V 1 rfl rfl) (by kernel_rfl) rfl ((blk_cell (((hI.2.1).block g4 (blk_lt aa)).trans aa) 2).trans rfl)) rfl) ?_
  refine .on rfl (fun a w hS hI hp => does_call (by kernel_rfl) (ar3 (hp.V 0 rfl rfl) (hp.V 2 rfl rfl) (rfl)) ((octets_Put.calls _ _ ac an 2 bk _ (Kd.C_below bT hI.2.2.2.1) bX bD).mono fun _ _ h => h.elim fun v0 h => ⟨v0, h.1, h.2.2, Kd.R_lower h.2.1 hI.2.2.2.2.size⟩)) ?_
  refine .on rfl (fun a w hS hI hp => does_val (x_fieldE (b := 0) rfl (hS.get 2 rfl) Try.underlying28 rfl rfl (by kernel_rfl)) rfl) ?_
  refine .on rfl (fun a w hS hI hp => does_val (x_load1 (d := .int .i64) rfl (hp.V 4 rfl rfl) (by kernel_rfl) rfl ((blk_cell (((hI.2.1).block g4 (blk_lt aa)).trans aa) 3).trans rfl)) rfl) ?_
  refine .on rfl (fun a w hS hI hp => (IsC.of_r (hp.V 3 rfl rfl)).elim fun A_ h_ => h_.elim fun c_ h_ => h_.elim fun hv_ h_ => h_.elim fun hl_ hc_ => does_call (by kernel_rfl) (ar3 (hv_) (hp.V 5 rfl rfl) (rfl)) ((octets_Put.calls _ _ bk ao 8 ad _ hc_ hl_ bE).mono fun _ _ h => h.elim fun v0 h => ⟨v0, h.1, h.2.2, Kd.R_lower h.2.1 hI.2.2.2.2.size⟩)) ?_
  exact .nil
 clear hS
 intro cg a9 hS ar hp
 replace hS := ((hS.nil).cons (hS.get 2 rfl)).cons (hS.get 0 rfl)
 obtain ⟨aN, aQ, a5, bY, bU⟩ := Kd.R_reads (show Kd.R (Kd.int .u8) 5 a9 av.heap.size (fun _ => True) (sl _ 32) ad from hp 6 (by decide))
 have cp : Kd.R (Kd.int .u8) 5 a9 av.heap.size (fun _ => True) (.slice aN ad.length aQ) ad := a5 ▸ (hp 6 (by decide))
 have hS := hS.cons a5
 clear hp a5
 show wpList _ _ _ [_] _ _
 refine list_step rfl (R := fun v w' => Below _ _ w' ∧ (IsV (.slice aN ad.length aQ)) v w') (does_val (x_assign rfl (hS.get 0 rfl)) rfl) ?_
 rintro b3 aw ⟨hb, he⟩
 have bc := below_step ar.1 hb
 have a2 := below_step ar.2.1 hb
 have bt := below_step ar.2.2.1 hb
 have bu := below_step ar.2.2.2.1 hb
 have aU := below_step ar.2.2.2.2 hb
 have aV := below_step (bR a9) hb
 obtain rfl : b3 = .slice aN ad.length aQ := he
 replace hS := ((hS.nil).cons (hS.get 2 rfl)).cons (hS.get 0 rfl)
 refine hS.next (v := .slice aN ad.length aQ) (d := 6) rfl (by decide) (by rfl) ?_
 clear hS
 intro ch hS
 refine wpList_nil ?_
 refine bO _ _ ?_
 refine wp_seq_k (fun cv bP => ?_)
 refine reg_any_tail 5 [0, 1, 0, 4, 15, 31] (I := I5_ w w3 av a9 aw) (ps := [IsV (.slice aN ad.length aQ), IsR (Kd.int .u8) 5 aw.heap.size bl, VP g4 4, IsV (.agg #[.int .u64 ah, .int .i64 ai]), IsR (Kd.int .u8) 5 aw.heap.size ae]) (by kernel_rfl) (by kernel_rfl) (by kernel_rfl) (by decide) ?_ ?_ rfl hS ⟨bc, a2, aU, aV, (bR aw)⟩ ?_ ?_
 ·exact bs5
 ·exact .v (.cons (Stays.r _ _ _ _) (.v (.v (.cons (Stays.r _ _ _ _) (.nil)))))
 ·refine .ms 0 rfl rfl rfl ?_
  refine .on rfl (fun a w hS hI hp => does_call (by kernel_rfl) (ar3 (hp.V 0 rfl rfl) (rfl) (rfl)) ((octets_Put.calls _ _ ad 0 4 bl _ (Kd.C_below bU hI.2.2.2.1) bY bG).mono fun _ _ h => h.elim fun v0 h => ⟨v0, h.1, h.2.2, Kd.R_lower h.2.1 hI.2.2.2.2.size⟩)) ?_
  refine .on rfl (fun a w hS hI hp => does_val (x_fieldE (b := 0) rfl (hS.get 2 rfl) Try.underlying28 rfl rfl (by kernel_rfl)) rfl) ?_
  refine .on rfl (fun a w hS hI hp => does_loadmid (cs := [.int .u64 ah, .int .i64 ai]) rfl (hp.V 2 rfl rfl) (((hI.2.1).block g4 (blk_lt aa)).trans aa) (by kernel_rfl) Try.underlying24 rfl (by kernel_rfl) rfl) ?_
  refine .on rfl (fun a w hS hI hp => (IsC.of_r (hp.V 1 rfl rfl)).elim fun A_ h_ => h_.elim fun c_ h_ => h_.elim fun hv_ h_ => h_.elim fun hl_ hc_ => does_call (by kernel_rfl) (ar2 (hv_) (hp.V 3 rfl rfl)) ((ident_Put.calls _ _ bl ah ai ae _ hc_ hl_ bH).mono fun _ _ h => h.elim fun v0 h => ⟨v0, h.1, h.2.2, Kd.R_lower h.2.1 hI.2.2.2.2.size⟩)) ?_
  exact .nil
 clear hS
 intro ci ba hS au hp
 replace hS := ((hS.nil).cons (hS.get 2 rfl)).cons (hS.get 0 rfl)
 obtain ⟨aO, aR, a6, bZ, bV⟩ := Kd.R_reads (show Kd.R (Kd.int .u8) 5 ba aw.heap.size (fun _ => True) (sl _ 37) ae from hp 4 (by decide))
 have cq : Kd.R (Kd.int .u8) 5 ba aw.heap.size (fun _ => True) (.slice aO ae.length aR) ae := a6 ▸ (hp 4 (by decide))
 have hS := hS.cons a6
 clear hp a6
 show wpList _ _ _ [_] _ _
 refine list_step rfl (R := fun v w' => Below _ _ w' ∧ (IsV (.slice aO ae.length aR)) v w') (does_val (x_assign rfl (hS.get 0 rfl)) rfl) ?_
 rintro b4 al ⟨hb, he⟩
 have ax := below_step au.1 hb
 have a3 := below_step au.2.1 hb
 have bv := below_step au.2.2.1 hb
 have bw := below_step au.2.2.2.1 hb
 have aW := below_step au.2.2.2.2 hb
 have aX := below_step (bR ba) hb
 obtain rfl : b4 = .slice aO ae.length aR := he
 replace hS := ((hS.nil).cons (hS.get 2 rfl)).cons (hS.get 0 rfl)
 refine hS.next (v := .slice aO ae.length aR) (d := 6) rfl (by decide) (by rfl) ?_
 clear hS
 intro cj hS
 refine wpList_nil ?_
 refine bP _ _ ?_
 refine wp_seq_k (fun cw bQ => ?_)
 refine reg_any (I := I5_ w w3 aw ba al) (ps := [IsV (.slice aO ae.length aR), VP g4 6, VI ap, IsR (Kd.int .u8) 5 al.heap.size bm, VP g4 0, VI ab, VI bn, IsR (Kd.int .u8) 5 al.heap.size bo, VP g4 7, VI aq, IsR (Kd.int .u8) 5 al.heap.size ak, IsR (Kd.int .u8) 5 al.heap.size ak, VB true]) (by kernel_rfl) (by kernel_rfl) ?_ ?_ rfl hS ⟨ax, a3, aW, aX, (bR al)⟩ ?_ ?_
 ·exact bs5
 ·exact .v (.v (.v (.cons (Stays.r _ _ _ _) (.v (.v (.v (.cons (Stays.r _ _ _ _) (.v (.v (.cons (Stays.r _ _ _ _) (.cons (Stays.r _ _ _ _) (.v (.nil)))))))))))))
 ·refine .ms 0 rfl rfl rfl ?_
  refine .on rfl (fun a w hS hI hp => does_val (x_fieldE (b := 0) rfl (hS.get 2 rfl) Try.underlying28 rfl rfl (by kernel_rfl)) rfl) ?_
  refine .on rfl (fun a w hS hI hp => does_val (x_load1 (d := .int .i64) rfl (hp.V 1 rfl rfl) (by kernel_rfl) rfl ((blk_cell (((hI.2.1).block g4 (blk_lt aa)).trans aa) 6).trans rfl)) rfl) ?_
  refine .on rfl (fun a w hS hI hp => does_call (by kernel_rfl) (ar3 (hp.V 0 rfl rfl) (hp.V 2 rfl rfl) (rfl)) ((octets_Put.calls _ _ ae ap 2 bm _ (Kd.C_below bV hI.2.2.2.1) bZ bI).mono fun _ _ h => h.elim fun v0 h => ⟨v0, h.1, h.2.2, Kd.R_lower h.2.1 hI.2.2.2.2.size⟩)) ?_
  refine .on rfl (fun a w hS hI hp => does_val (x_fieldE (b := 0) rfl (hS.get 2 rfl) Try.underlying28 rfl rfl (by kernel_rfl)) rfl) ?_
  refine .on rfl (fun a w hS hI hp => does_val (x_load1 (d := .int .i64) rfl (hp.V 4 rfl rfl) (by kernel_rfl) rfl ((blk_cell (((hI.2.1).block g4 (blk_lt aa)).trans aa) 0).trans rfl)) rfl) ?_
  refine .on rfl (fun a w hS hI hp => does_call (by kernel_rfl) (ar1 (hp.V 5 rfl rfl)) ((header_control.calls ab bn _  bJ).mono fun _ _ h => ⟨_, h.1, h.2.below, rfl⟩)) ?_
  refine .on rfl (fun a w hS hI hp => (IsC.of_r (hp.V 3 rfl rfl)).elim fun A_ h_ => h_.elim fun c_ h_ => h_.elim fun hv_ h_ => h_.elim fun hl_ hc_ => does_call (by kernel_rfl) (ar3 (hv_) (hp.V 6 rfl rfl) (rfl)) ((octets_Put.calls _ _ bm bn 1 bo _ hc_ hl_ bK).mono fun _ _ h => h.elim fun v0 h => ⟨v0, h.1, h.2.2, Kd.R_lower h.2.1 hI.2.2.2.2.size⟩)) ?_
  refine .on rfl (fun a w hS hI hp => does_val (x_fieldE (b := 0) rfl (hS.get 2 rfl) Try.underlying28 rfl rfl (by kernel_rfl)) rfl) ?_
  refine .on rfl (fun a w hS hI hp => does_val (x_load1 (d := .int .i64) rfl (hp.V 8 rfl rfl) (by kernel_rfl) rfl ((blk_cell (((hI.2.1).block g4 (blk_lt aa)).trans aa) 7).trans rfl)) rfl) ?_
  refine .on rfl (fun a w hS hI hp => (IsC.of_r (hp.V 7 rfl rfl)).elim fun A_ h_ => h_.elim fun c_ h_ => h_.elim fun hv_ h_ => h_.elim fun hl_ hc_ => does_call (by kernel_rfl) (ar3 (hv_) (hp.V 9 rfl rfl) (rfl)) ((octets_Put.calls _ _ bo aq 1 ak _ hc_ hl_ bL).mono fun _ _ h => h.elim fun v0 h => ⟨v0, h.1, h.2.2, Kd.R_lower h.2.1 hI.2.2.2.2.size⟩)) ?_
  refine .on rfl (fun a w hS hI hp => does_val (x_assign rfl rfl) (hp.V 10 rfl rfl)) ?_
  refine .on rfl (fun a w hS hI hp => does_val (x_assign rfl (rfl)) rfl) ?_
  exact .nil
 clear hS
 intro ck bp hS b1 hp
 replace hS := hS.nil
 obtain ⟨bd, be, bg, cm, cl⟩ := Kd.R_reads (show Kd.R (Kd.int .u8) 5 bp al.heap.size (fun _ => True) (sl _ 4) ak from hp 11 (by decide))
 have b0 : Kd.R (Kd.int .u8) 5 bp al.heap.size (fun _ => True) (.slice bd ak.length be) ak := bg ▸ (hp 11 (by decide))
 have bz : sl _ 5 = .bool true := hp 12 (by decide)
 have hS := hS.cons bg
 have hS := hS.cons bz
 clear hp bg bz
 refine bQ _ _ ?_
 refine wp_ret ?_
 (try simp only [Exit.then, Exit.inBlock, Exit.jump, Exit.noGoto])
 exact bodyPost_ret (v := .tuple #[.slice bd ak.length be, .bool true]) (results_list (rs := [.tmp 4, .tmp 5]) rfl (by simp) (Vals.at (hS.get 1 rfl) (Vals.at (hS.get 0 rfl) .nil))) hS.nodef ⟨.slice bd ak.length be, rfl, Kd.R_lower (Kd.R_below b0 (bR bp)) (ax).size, b1.1⟩
def frame_Put.f (k : Nat) (a0_0 a0_1 a0_2 a0_3 a0_4 a0_5 a0_6 a0_7 a0_8 a0_9 a0_10 a0_11 a0_12 a0_13 a0_14 a0_15 a0_16 a0_17 a0_18 a0_19 a0_20 a0_21 a0_22 : Int) (l1 : List (S43)) : Option (ByteArray × Bool) := (body_Put.f k [] a0_0 a0_1 a0_2 a0_3 a0_4 a0_5 a0_6 a0_7 a0_8 a0_9 a0_10 a0_11 a0_12 a0_13 a0_14 a0_15 a0_16 a0_17 a0_18 a0_19 a0_20 a0_21 a0_22).bind fun t9 => (if t9.2 = true then ((tlv_Put.f k t9.1 l1).bind fun t19 => (if t19.2 = true then ((header_Put.f k a0_0 a0_1 a0_2 a0_3 a0_4 a0_5 a0_6 a0_7 a0_8 a0_9 a0_10 a0_11 a0_12 a0_13 a0_14 a0_15 a0_16 a0_17 a0_18 a0_19 a0_20 a0_21 a0_22 (wrap64 (34 + (t19.1.length : Int)))).bind fun t32 => (if t32.2 = true then (if (strOfNums t32.1).size + (strOfNums t19.1).size ≤ 9223372036854775807 then (some ((strOfNums t32.1) ++ (strOfNums t19.1), true)) else (none)) else (none))) else (none))) else (none))
abbrev frame_Put.v0 (x0 x1 x2 x3 x4 x5 x6 x7 x8 x9 x10 x11 x12 x13 x14 x15 x16 x17 x18 x19 x20 x21 x22 : Int) : Value := .agg #[.int .i64 x0, .int .i64 x1, .int .i64 x2, .int .i64 x3, .int .u64 x4, .int .i64 x5, .int .i64 x6, .int .i64 x7, .int .i64 x8, .int .u64 x9, .int .i64 x10, .int .i64 x11, .int .i64 x12, .int .i64 x13, .int .i64 x14, .int .i64 x15, .int .i64 x16, .int .u64 x17, .int .i64 x18, .int .i64 x19, .int .i64 x20, .int .i64 x21, .int .i64 x22]
abbrev frame_Put.c1 (x0 x1 x2 x3 x4 x5 x6 x7 x8 x9 x10 x11 x12 x13 x14 x15 x16 x17 x18 x19 x20 x21 x22 : Int) : Array Value := #[.int .i64 x0, .int .i64 x1, .int .i64 x2, .int .i64 x3, .int .u64 x4, .int .i64 x5, .int .i64 x6, .int .i64 x7, .int .i64 x8, .int .u64 x9, .int .i64 x10, .int .i64 x11, .int .i64 x12, .int .i64 x13, .int .i64 x14, .int .i64 x15, .int .i64 x16, .int .u64 x17, .int .i64 x18, .int .i64 x19, .int .i64 x20, .int .i64 x21, .int .i64 x22]
open Go.Proofs.Ytiomlbkakiienaa.E in
set_option maxHeartbeats 60000000 in
set_option maxRecDepth 100000 in
theorem frame_Put.calls (k : Nat) (ax ay az aA aB aC aD aE aF aG ah ai aj ak al am an ao ap aq ar au av : Int) (A1 : Option Addr) (a7 : Nat) (l1 : List (S43)) (r1 : ByteArray) (r2 : Bool) (w : World) (HR1 : Kd.C k43 w A1 l1.length l1) (HC1 : l1.length ≤ a7) (h : frame_Put.f k ax ay az aA aB aC aD aE aF aG ah ai aj ak al am an ao ap aq ar au av l1 = some (r1, r2)) :
    Calls Try.prog 11 #[.agg #[.int .i64 ax, .int .i64 ay, .int .i64 az, .int .i64 aA, .int .u64 aB, .int .i64 aC, .int .i64 aD, .int .i64 aE, .int .i64 aF, .int .u64 aG, .int .i64 ah, .int .i64 ai, .int .i64 aj, .int .i64 ak, .int .i64 al, .int .i64 am, .int .i64 an, .int .u64 ao, .int .i64 ap, .int .i64 aq, .int .i64 ar, .int .i64 au, .int .i64 av], .slice A1 l1.length a7] w fun e w' => e = .returned (.tuple #[.string r1, .bool r2]) ∧ Below w.heap.size w w' := by
 have H := h
 clear h
 unfold frame_Put.f at H
 refine calls_of_wp (fn := Try.f11) (by kernel_rfl) rfl ?_
 have hS := St.enter #[(frame_Put.v0 ax ay az aA aB aC aD aE aF aG ah ai aj ak al am an ao ap aq ar au av), .slice A1 l1.length a7] 39 (by simp) [(0, (frame_Put.v0 ax ay az aA aB aC aD aE aF aG ah ai aj ak al am an ao ap aq ar au av)), (1, .slice A1 l1.length a7)] (by simp)
 have bE := Below.refl w.heap.size w
 refine wp_seq_k (fun K1 bG => ?_)
 refine reg_seq (I := I1_ w) (ps := [IsB (frame_Put.c1 ax ay az aA aB aC aD aE aF aG ah ai aj ak al am an ao ap aq ar au av) 28 w.heap.size, IsV (.string (⟨#[]⟩ : ByteArray)), VB false]) (by kernel_rfl) ?_ ?_ rfl hS bE ?_ ?_
 ·exact bs1
 ·exact .cons (Stays.b _ _ _) (.v (.v (.nil)))
 ·refine .on rfl (fun a w hS hI hp => does_var (x_box rfl (congrArg Value.cells (hS.get 0 rfl))) (hI).size) ?_
  iterate 2 refine .on rfl (fun a w hS hI hp => does_val (x_assign rfl (rfl)) rfl) ?_
  exact .nil
 clear hS
 intro cc w3 hS bJ hp
 replace hS := (hS.nil).cons (hS.get 1 rfl)
 obtain ⟨g4, ba, bN, aw⟩ := (show IsB _ 28 _ (sl _ 2) _ from hp 0 (by decide))
 have hS := hS.cons ba
 clear hp ba
 refine bG _ _ ?_
 refine wp_scope_fwd 0 (fun _ _ => False) rfl ?_ (fun _ => ?_)
 ·exact fun _ _ h => h.elim
 obtain ⟨t9, bC, H⟩ := Option.bind_eq_some_iff.mp H
 obtain ⟨af, ae⟩ := t9
 (try dsimp only at H)
 by_cases c1 : ae = true
 rotate_left
 ·rw [if_neg c1] at H; exact absurd H (by simp)
 rw [if_pos c1] at H
 obtain ⟨bK, bi, H⟩ := Option.bind_eq_some_iff.mp H
 obtain ⟨aa, ac⟩ := bK
 (try dsimp only at H)
 by_cases c2 : ac = true
 rotate_left
 ·rw [if_neg c2] at H; exact absurd H (by simp)
 rw [if_pos c2] at H
 obtain ⟨bL, bj, H⟩ := Option.bind_eq_some_iff.mp H
 obtain ⟨ab, ad⟩ := bL
 (try dsimp only at H)
 by_cases c3 : ad = true
 rotate_left
 ·rw [if_neg c3] at H; exact absurd H (by simp)
 rw [if_pos c3] at H
 by_cases c4 : (strOfNums ab).size + (strOfNums aa).size ≤ 9223372036854775807
 rotate_left
 ·rw [if_neg c4] at H; exact absurd H (by simp)
 rw [if_pos c4] at H
 simp only [Option.some.injEq, Prod.mk.injEq] at H
 obtain ⟨rfl, rfl⟩ := H
 refine wp_seq_k (fun K5 bH => ?_)
 refine reg_seq (I := I2_ w w3) (ps := [IsV (.slice none 0 0)]) (by kernel_rfl) ?_ ?_ rfl hS ⟨bJ, (bR w3)⟩ ?_ ?_
 ·exact bs2
 ·exact .v (.nil)
 ·refine .on rfl (fun a w hS hI hp => does_val (x_assign rfl (rfl)) rfl) ?_
  exact .nil
 clear hS
 intro cd w7 hS be hp
 clear hp
 refine bH _ _ ?_
 refine wp_seq_k (fun K8 bI => ?_)
 refine reg_seq (I := I3_ w w3 w7) (ps := [IsV ((frame_Put.v0 ax ay az aA aB aC aD aE aF aG ah ai aj ak al am an ao ap aq ar au av)), IsT (fun v0_ => #[v0_, .bool ae]) (IsC (Kd.int .u8) af), IsT (fun v0_ => #[v0_, .bool ae]) (IsC (Kd.int .u8) af), IsC (Kd.int .u8) af, VB ae, IsC (Kd.int .u8) af, VB ae]) (by kernel_rfl) ?_ ?_ rfl hS ⟨be.1, be.2, (bR w7)⟩ ?_ ?_
 ·exact bs3
 ·exact .v (.cons (Stays.t _ (Stays.c _ _)) (.cons (Stays.t _ (Stays.c _ _)) (.cons (Stays.c _ _) (.v (.cons (Stays.c _ _) (.v (.nil)))))))
 ·refine .on rfl (fun a w hS hI hp => does_loadrow rfl (hS.get 0 rfl) (((hI.2.1).block g4 (blk_lt aw)).trans aw) Try.underlying28 rfl (by kernel_rfl) rfl) ?_
  refine .on rfl (fun a w hS hI hp => does_call (by kernel_rfl) (ar2 (rfl) (hp.V 0 rfl rfl)) ((body_Put.calls k _ _ [] ax ay az aA aB aC aD aE aF aG ah ai aj ak al am an ao ap aq ar au av af ae _ (Kd.C_nil _ _) (Nat.le_refl _) bC).mono fun _ _ h => h.elim fun v0 h => ⟨_, h.1, h.2.2, v0, rfl, h.2.1⟩)) ?_
  refine .on rfl (fun a w hS hI hp => does_val (x_move rfl rfl) (hp.V 1 rfl rfl)) ?_
  refine .on rfl (fun a w hS hI hp => (hp.V 2 rfl rfl).elim fun v0 h0 => does_val (x_extract rfl h0.1 rfl) h0.2) ?_
  refine .on rfl (fun a w hS hI hp => (hp.V 2 rfl rfl).elim fun v0 h0 => does_val (x_extract rfl h0.1 rfl) rfl) ?_
  refine .on rfl (fun a w hS hI hp => does_val (x_assign rfl rfl) (hp.V 3 rfl rfl)) ?_
  refine .asg 4 rfl rfl rfl ?_
  exact .nil
 clear hS
 intro bO aV hS a4 hp
 obtain ⟨bB, bD, bd, bw, bt⟩ := (show IsC (Kd.int .u8) af (sl _ 7) aV from hp 5 (by decide))
 have aO : sl _ 8 = .bool ae := hp 6 (by decide)
 have hS := hS.cons bd
 have hS := hS.cons aO
 clear hp bd aO
 refine bI _ _ ?_
 refine wp_seq_k (fun b2 bk => ?_)
 refine wp_seq_k (fun b3 bl => ?_)
 refine reg_seq (I := I3_ w w3 aV) (ps := [VB ae, VB (!ae)]) (by kernel_rfl) ?_ ?_ rfl hS ⟨a4.1, a4.2.1, (bR aV)⟩ ?_ ?_
 ·exact bs3
 ·exact .v (.v (.nil))
 ·refine .ms 0 rfl rfl rfl ?_
  refine .on rfl (fun a w hS hI hp => does_val (x_not rfl (hp.V 0 rfl rfl)) rfl) ?_
  exact .nil
 clear hS
 intro bP bf hS aS hp
 replace hS := (((hS.nil).cons (hS.get 3 rfl)).cons (hS.get 2 rfl)).cons (hS.get 1 rfl)
 have aY : sl _ 15 = .bool (!ae) := hp 1 (by decide)
 have hS := hS.cons aY
 clear hp aY
 refine bl _ _ ?_
 refine wp_cond_false ((hS.get 0 rfl).trans (bF (congrArg (!·) c1))) ?_
 refine wp_skip ?_
 refine bk _ _ ?_
 refine wp_seq_k (fun b4 bm => ?_)
 refine wp_seq_k (fun b5 bn => ?_)
 refine reg_seq_tail 6 (I := I4_ w w3 aV bf) (ps := [IsV (.slice bB af.length bD), IsV (.slice A1 l1.length a7), IsT (fun v0_ => #[v0_, .bool ac]) (IsC (Kd.int .u8) aa), IsT (fun v0_ => #[v0_, .bool ac]) (IsC (Kd.int .u8) aa), IsC (Kd.int .u8) aa, VB ac]) (by kernel_rfl) ?_ ?_ rfl hS ⟨aS.1, aS.2.1, aS.2.2, (bR bf)⟩ ?_ ?_
 ·exact bs4
 ·exact .v (.v (.cons (Stays.t _ (Stays.c _ _)) (.cons (Stays.t _ (Stays.c _ _)) (.cons (Stays.c _ _) (.v (.nil))))))
 ·refine .ms 1 rfl rfl rfl ?_
  refine .ms 3 rfl rfl rfl ?_
  refine .on rfl (fun a w hS hI hp => does_call (by kernel_rfl) (ar2 (hp.V 0 rfl rfl) (hp.V 1 rfl rfl)) ((tlv_Put.calls k _ _ af _ _ l1 aa ac _ (Kd.C_below bt hI.2.2.1) bw (Kd.C_below HR1 hI.1) HC1 bi).mono fun _ _ h => h.elim fun v0 h => ⟨_, h.1, h.2.2, v0, rfl, h.2.1⟩)) ?_
  refine .on rfl (fun a w hS hI hp => does_val (x_move rfl rfl) (hp.V 2 rfl rfl)) ?_
  refine .on rfl (fun a w hS hI hp => (hp.V 3 rfl rfl).elim fun v0 h0 => does_val (x_extract rfl h0.1 rfl) h0.2) ?_
  refine .on rfl (fun a w hS hI hp => (hp.V 3 rfl rfl).elim fun v0 h0 => does_val (x_extract rfl h0.1 rfl) rfl) ?_
  exact .nil
 clear hS
 intro bQ aI hS aT hp
 replace hS := ((hS.nil).cons (hS.get 2 rfl)).cons (hS.get 1 rfl)
 obtain ⟨aK, aL, aZ, bZ, bu⟩ := (show IsC (Kd.int .u8) aa (sl _ 20) aI from hp 4 (by decide))
 have a0 : sl _ 21 = .bool ac := hp 5 (by decide)
 have hS := hS.cons aZ
 have hS := hS.cons a0
 clear hp aZ a0
 show wpList _ _ _ [_, _] _ _
 refine list_step rfl (R := fun v w' => Below _ _ w' ∧ (IsV (.slice aK aa.length aL)) v w') (does_val (x_assign rfl (hS.get 1 rfl)) rfl) ?_
 rintro bz bM ⟨hb, he⟩
 have aW := below_step aT.1 hb
 have aQ := below_step aT.2.1 hb
 have a8 := below_step aT.2.2.1 hb
 have aM := below_step (bR aI) hb
 obtain rfl : bz = .slice aK aa.length aL := he
 replace hS := (((hS.nil).cons (hS.get 3 rfl)).cons (hS.get 1 rfl)).cons (hS.get 0 rfl)
 refine hS.next (v := .slice aK aa.length aL) (d := 7) rfl (by decide) (by rfl) ?_
 clear hS
 intro bS hS
 refine list_step rfl (R := fun v w' => Below _ _ w' ∧ (VB ac) v w') (does_val (x_assign rfl (hS.get 1 rfl)) rfl) ?_
 rintro bA bg ⟨hb, he⟩
 have aX := below_step aW hb
 have aR := below_step aQ hb
 have aN := below_step aM hb
 have a9 := below_step (bR bM) hb
 obtain rfl : bA = .bool ac := he
 refine hS.next (v := .bool ac) (d := 8) rfl (by decide) (by rfl) ?_
 clear hS
 intro bT hS
 refine wpList_nil ?_
 refine bn _ _ ?_
 refine wp_seq_k (fun b6 bo => ?_)
 refine reg_seq (I := I4_ w w3 aI bg) (ps := [VB ac, VB (!ac)]) (by kernel_rfl) ?_ ?_ rfl hS ⟨aX, aR, aN, (bR bg)⟩ ?_ ?_
 ·exact bs4
 ·exact .v (.v (.nil))
 ·refine .ms 0 rfl rfl rfl ?_
  refine .on rfl (fun a w hS hI hp => does_val (x_not rfl (hp.V 0 rfl rfl)) rfl) ?_
  exact .nil
 clear hS
 intro bU ag hS aU hp
 replace hS := ((hS.nil).cons (hS.get 4 rfl)).cons (hS.get 1 rfl)
 have a1 : sl _ 23 = .bool (!ac) := hp 1 (by decide)
 have hS := hS.cons a1
 clear hp a1
 refine bo _ _ ?_
 refine wp_cond_false ((hS.get 0 rfl).trans (bF (congrArg (!·) c2))) ?_
 refine wp_skip ?_
 refine bm _ _ ?_
 refine wp_seq_k (fun b7 bp => ?_)
 refine wp_seq_k (fun b8 bq => ?_)
 refine reg_seq (I := I4_ w w3 aI ag) (ps := [IsV ((frame_Put.v0 ax ay az aA aB aC aD aE aF aG ah ai aj ak al am an ao ap aq ar au av)), IsV (.slice aK aa.length aL), VI (aa.length : Int), VI (wrap64 (34 + (aa.length : Int))), IsT (fun v0_ => #[v0_, .bool ad]) (IsR (Kd.int .u8) 5 ag.heap.size ab), IsT (fun v0_ => #[v0_, .bool ad]) (IsR (Kd.int .u8) 5 ag.heap.size ab), IsR (Kd.int .u8) 5 ag.heap.size ab, VB ad, IsR (Kd.int .u8) 5 ag.heap.size ab, VB ad]) (by kernel_rfl) ?_ ?_ rfl hS ⟨aU.1, aU.2.1, aU.2.2.1, (bR ag)⟩ ?_ ?_
 ·exact bs4
 ·exact .v (.v (.v (.v (.cons (Stays.t _ (Stays.r _ _ _ _)) (.cons (Stays.t _ (Stays.r _ _ _ _)) (.cons (Stays.r _ _ _ _) (.v (.cons (Stays.r _ _ _ _) (.v (.nil))))))))))
 ·refine .on rfl (fun a w hS hI hp => does_loadrow rfl (hS.get 2 rfl) (((hI.2.1).block g4 (blk_lt aw)).trans aw) Try.underlying28 rfl (by kernel_rfl) rfl) ?_
  refine .ms 1 rfl rfl rfl ?_
  refine .on rfl (fun a w hS hI hp => does_val (x_len (e := 5) rfl (by kernel_rfl) (hp.V 1 rfl rfl)) rfl) ?_
  refine .on rfl (fun a w hS hI hp => does_val (x_bin rfl (rfl) (hp.V 2 rfl rfl) (b_add _ _ _ _ _)) rfl) ?_
  refine .on rfl (fun a w hS hI hp => does_call (by kernel_rfl) (ar2 (hp.V 0 rfl rfl) (hp.V 3 rfl rfl)) ((header_Put.calls (w := _) (h := bj)).mono fun _ _ h => h.elim fun v0 h => ⟨_, h.1, h.2.2, v0, rfl, Kd.R_lower h.2.1 hI.2.2.2.size⟩)) ?_
  refine .on rfl (fun a w hS hI hp => does_val (x_move rfl rfl) (hp.V 4 rfl rfl)) ?_
  refine .on rfl (fun a w hS hI hp => (hp.V 5 rfl rfl).elim fun v0 h0 => does_val (x_extract rfl h0.1 rfl) h0.2) ?_
  refine .on rfl (fun a w hS hI hp => (hp.V 5 rfl rfl).elim fun v0 h0 => does_val (x_extract rfl h0.1 rfl) rfl) ?_
  refine .on rfl (fun a w hS hI hp => does_val (x_assign rfl rfl) (hp.V 6 rfl rfl)) ?_
  refine .asg 7 rfl rfl rfl ?_
  exact .nil
 clear hS
 intro bV aP hS aJ hp
 replace hS := (hS.nil).cons (hS.get 1 rfl)
 obtain ⟨a5, a6, a3, b0, bv⟩ := Kd.R_reads (show Kd.R (Kd.int .u8) 5 aP ag.heap.size (fun _ => True) (sl _ 6) ab from hp 8 (by decide))
 have b1 : Kd.R (Kd.int .u8) 5 aP ag.heap.size (fun _ => True) (.slice a5 ab.length a6) ab := a3 ▸ (hp 8 (by decide))
 have aO : sl _ 8 = .bool ad := hp 9 (by decide)
 have hS := hS.cons a3
 have hS := hS.cons aO
 clear hp a3 aO
 refine bq _ _ ?_
 refine wp_seq_k (fun b9 br => ?_)
 refine reg_seq (I := I5_ w w3 aI ag aP) (ps := [VB ad, VB (!ad)]) (by kernel_rfl) ?_ ?_ rfl hS ⟨aJ.1, aJ.2.1, aJ.2.2.1, aJ.2.2.2, (bR aP)⟩ ?_ ?_
 ·exact bs5
 ·exact .v (.v (.nil))
 ·refine .ms 0 rfl rfl rfl ?_
  refine .on rfl (fun a w hS hI hp => does_val (x_not rfl (hp.V 0 rfl rfl)) rfl) ?_
  exact .nil
 clear hS
 intro bW bh hS aH hp
 replace hS := ((hS.nil).cons (hS.get 2 rfl)).cons (hS.get 1 rfl)
 have a2 : sl _ 33 = .bool (!ad) := hp 1 (by decide)
 have hS := hS.cons a2
 clear hp a2
 refine br _ _ ?_
 refine wp_cond_false ((hS.get 0 rfl).trans (bF (congrArg (!·) c3))) ?_
 refine wp_skip ?_
 refine bp _ _ ?_
 refine wp_seq_k (fun ca bY => ?_)
 refine wp_seq_k (fun cb bs => ?_)
 refine reg_seq (I := I6_ w w3 aI ag aP bh) (ps := [IsV (.slice a5 ab.length a6), IsV (.string (strOfNums ab)), IsV (.slice aK aa.length aL), IsV (.string (strOfNums aa)), IsV (.string ((strOfNums ab) ++ (strOfNums aa))), IsV (.string ((strOfNums ab) ++ (strOfNums aa))), VB true]) (by kernel_rfl) ?_ ?_ rfl hS ⟨aH.1, aH.2.1, aH.2.2.1, aH.2.2.2.1, aH.2.2.2.2, (bR bh)⟩ ?_ ?_
 ·exact bs6
 ·exact .v (.v (.v (.v (.v (.v (.v (.nil)))))))
 ·refine .ms 1 rfl rfl rfl ?_
  refine .on rfl (fun a w hS hI hp => does_val (x_conv rfl (hp.V 0 rfl rfl) (Kd.C_string (by kernel_rfl) (e := 5) (by kernel_rfl) (by kernel_rfl) (Kd.C_below bv hI.2.2.2.2.1))) rfl) ?_
  refine .ms 2 rfl rfl rfl ?_
  refine .on rfl (fun a w hS hI hp => does_val (x_conv rfl (hp.V 2 rfl rfl) (Kd.C_string (by kernel_rfl) (e := 5) (by kernel_rfl) (by kernel_rfl) (Kd.C_below bu hI.2.2.1))) rfl) ?_
  refine .on rfl (fun a w hS hI hp => does_val (x_bin rfl (hp.V 1 rfl rfl) (hp.V 3 rfl rfl) (b_adds _ _ _ _ _ c4)) rfl) ?_
  refine .asg 4 rfl rfl rfl ?_
  refine .on rfl (fun a w hS hI hp => does_val (x_assign rfl (rfl)) rfl) ?_
  exact .nil
 clear hS
 intro bX ce hS bx hp
 replace hS := hS.nil
 have bb : sl _ 4 = .string ((strOfNums ab) ++ (strOfNums aa)) := hp 5 (by decide)
 have bc : sl _ 5 = .bool true := hp 6 (by decide)
 have hS := hS.cons bb
 have hS := hS.cons bc
 clear hp bb bc
 refine bs _ _ ?_
 refine wp_ret ?_
 (try simp only [Exit.then, Exit.inBlock, Exit.jump, Exit.noGoto])
 exact bodyPost_ret (v := .tuple #[.string ((strOfNums ab) ++ (strOfNums aa)), .bool true]) (results_list (rs := [.tmp 4, .tmp 5]) rfl (by simp) (Vals.at (hS.get 1 rfl) (Vals.at (hS.get 0 rfl) .nil))) hS.nodef ⟨rfl, bx.1⟩
def octets_none.f (l0 : List Int) (a1 : Int) (a2 : Int) : Option (Bool) := if a2 < 0 then (some true) else (if a1 < 0 then (some true) else (if a1 > (l0.length : Int) then (some true) else (some (decide (a2 > (wrap64 ((l0.length : Int) - a1)))))))
set_option maxHeartbeats 8000000 in
set_option maxRecDepth 100000 in
theorem octets_none.calls (A0 : Option Addr) (c0 : Nat) (l0 : List Int) (a1 : Int) (a2 : Int) (r : Bool) (w : World) (hr0 : Kd.C (Kd.int .u8) w A0 l0.length l0) (hc0 : l0.length ≤ c0) (h : octets_none.f l0 a1 a2 = some r) :
    Calls Try.prog 80 #[.slice A0 l0.length c0, .int .i64 a1, .int .i64 a2] w fun e w' => e = .returned (.bool r) ∧ Drawn0 w w' := by
  have HR0 := Aside0.mk hr0
  have HC0 := Aside0.mk hc0
  clear hr0 hc0
  have H : (if a2 < 0 then (some true) else (if a1 < 0 then (some true) else (if a1 > (l0.length : Int) then (some true) else (some (decide (a2 > (wrap64 ((l0.length : Int) - a1)))))))) = some r := h
  clear h
  by_cases c4 : a2 < 0
  · rw [if_pos c4] at H
    have c4b0 : decide (a2 < 0) = true := decide_eq_true c4
    clear c4
    obtain rfl := Option.some.inj H
    go_enter Try.func80, Try.ntmps80
    go_wp2
    all_goals
      go_ret
      exact ⟨by first | rfl | (simp; done) | (simp [*]; done), by repeat (first | exact Drawn0.refl _ | apply Drawn0.step)⟩
  · rw [if_neg c4] at H
    have c4b0 : decide (a2 < 0) = false := decide_eq_false c4
    clear c4
    by_cases c5 : a1 < 0
    · rw [if_pos c5] at H
      have c5b0 : decide (a1 < 0) = true := decide_eq_true c5
      clear c5
      obtain rfl := Option.some.inj H
      go_enter Try.func80, Try.ntmps80
      go_wp2
      all_goals
        go_ret
        exact ⟨by first | rfl | (simp; done) | (simp [*]; done), by repeat (first | exact Drawn0.refl _ | apply Drawn0.step)⟩
    · rw [if_neg c5] at H
      have c5b0 : decide (a1 < 0) = false := decide_eq_false c5
      clear c5
      by_cases c6 : a1 > (l0.length : Int)
      · rw [if_pos c6] at H
        have c6b0 : decide ((l0.length : Int) < a1) = true := decide_eq_true c6
        clear c6
        obtain rfl := Option.some.inj H
        go_enter Try.func80, Try.ntmps80
        go_wp2
        all_goals
          go_ret
          exact ⟨by first | rfl | (simp; done) | (simp [*]; done), by repeat (first | exact Drawn0.refl _ | apply Drawn0.step)⟩
      · rw [if_neg c6] at H
        have c6b0 : decide ((l0.length : Int) < a1) = false := decide_eq_false c6
        clear c6
        obtain rfl := Option.some.inj H
        go_enter Try.func80, Try.ntmps80
        go_wp2
        all_goals
          go_ret
          exact ⟨by first | rfl | (simp; done) | (simp [*]; done), by repeat (first | exact Drawn0.refl _ | apply Drawn0.step)⟩
def octets_read.l0 : Nat → Int → List Int → Int → Int → Option (Int)
  | 0, _, _, _, _ => none
  | k + 1, x3, x6, x7, x8 => if x8 < x7 then (if 0 ≤ x8 then (if x8 < (x6.length : Int) then (octets_read.l0 k (Go.bits .or .u64 (IntKind.u64.wrap (x3 * 256)) (IntKind.u64.wrap (rd x6 x8))) x6 x7 (wrap64 (x8 + 1))) else (none)) else (none)) else (some x3)
def octets_read.f (k : Nat) (l0 : List Int) : Option (Int) := octets_read.l0 k 0 l0 (l0.length : Int) 0
set_option maxHeartbeats 8000000 in
set_option maxRecDepth 100000 in
theorem octets_read.calls (k : Nat) (A0 : Option Addr) (c0 : Nat) (l0 : List Int) (r : Int) (w : World) (hr0 : Kd.C (Kd.int .u8) w A0 l0.length l0) (hc0 : l0.length ≤ c0) (h : octets_read.f k l0 = some r) :
    Calls Try.prog 81 #[.slice A0 l0.length c0] w fun e w' => e = .returned (.int .u64 r) ∧ Drawn0 w w' := by
  have HR0 := Aside0.mk hr0
  have HC0 := Aside0.mk hc0
  clear hr0 hc0
  have H : (octets_read.l0 k 0 l0 (l0.length : Int) 0) = some r := h
  clear h
  have H' := Aside0.mk H
  clear H
  go_enter Try.func81, Try.ntmps81
  go_wp2
  go_loopg [3, 8] k (fun kq v3 v8 w' => ∃ (x3_1 : Int) (x8_1 : Int), v3 = .int .u64 x3_1 ∧ v8 = .int .i64 x8_1 ∧ Aside0 (octets_read.l0 kq x3_1 l0 (l0.length : Int) x8_1 = some r) ∧ Aside0 (kq ≤ k) ∧ Drawn0 w w')
  case atStart => exact ⟨(0), (0), (by first | rfl | (simp; done) | (simp [*]; done)), (by first | rfl | (simp; done) | (simp [*]; done)), H', ⟨Nat.le_refl _⟩, by repeat (first | exact Drawn0.refl _ | apply Drawn0.step)⟩
  case round =>
    clear H'
    obtain ⟨x3_1, x8_1, rfl, rfl, HA, HK1, ⟨m1, rfl⟩⟩ := hrel
    cases gk with
    | zero => exact absurd HA.out (by simp [octets_read.l0])
    | succ k1 =>
      have H := HA.out
      clear HA
      simp only [octets_read.l0] at H
      by_cases c2 : x8_1 < (l0.length : Int)
      · rw [if_pos c2] at H
        have c2b0 : decide (x8_1 < (l0.length : Int)) = true := decide_eq_true c2
        clear c2
        by_cases c3 : 0 ≤ x8_1
        · rw [if_pos c3] at H
          have c3b0 : decide (0 ≤ x8_1) = true := decide_eq_true c3
          clear c3
          by_cases c4 : x8_1 < (l0.length : Int)
          · rw [if_pos c4] at H
            have c4b0 : decide (x8_1 < (l0.length : Int)) = true := decide_eq_true c4
            clear c4
            have H' := Aside0.mk H
            clear H
            have p138 : 0 ≤ (x8_1 : Int) := of_decide_eq_true (by first | (with_reducible assumption) | assumption)
            have q138 : x8_1 < (l0.length : Int) := of_decide_eq_true (by first | (with_reducible assumption) | assumption)
            obtain ⟨ad138, e138, hx138_0⟩ := Kd.at_int HR0.out x8_1 p138 q138
            cases e138
            replace p138 := eq_true p138
            replace q138 := eq_true q138
            go_wp2
            go_roundg k1
            case measure => have := HK1.out; omega
            case rel => exact ⟨(Go.bits .or .u64 (IntKind.u64.wrap (x3_1 * 256)) (IntKind.u64.wrap (rd l0 x8_1))), (wrap64 (x8_1 + 1)), (by first | rfl | (simp; done) | (simp [*]; done)), (by first | rfl | (simp; done) | (simp [*]; done)), H', ⟨by have := HK1.out; omega⟩, by repeat (first | exact Drawn0.refl _ | apply Drawn0.step)⟩
          · rw [if_neg c4] at H
            exact absurd H (by simp)
        · rw [if_neg c3] at H
          exact absurd H (by simp)
      · rw [if_neg c2] at H
        have c2b0 : decide (x8_1 < (l0.length : Int)) = false := decide_eq_false c2
        clear c2
        obtain rfl := Option.some.inj H
        go_wp2
        all_goals
          go_ret
          exact ⟨by first | rfl | (simp; done) | (simp [*]; done), by repeat (first | exact Drawn0.refl _ | apply Drawn0.step)⟩
def octets_Get.f (k : Nat) (l0 : List Int) (a1 : Int) (a2 : Int) : Option (Int × Bool) := if a2 < 1 then (some (0, false)) else (if a2 > 7 then (some (0, false)) else ((octets_none.f l0 a1 a2).bind fun t139 => (if t139 = true then (some (0, false)) else (if 0 ≤ a1 then (if a1 ≤ (wrap64 (a1 + a2)) then (if (wrap64 (a1 + a2)) ≤ (l0.length : Int) then ((octets_read.f k ((l0.take ((wrap64 (a1 + a2)) : Int).toNat).drop (a1 : Int).toNat)).bind fun t141 => (some (wrap64 (t141), true))) else (none)) else (none)) else (none)))))
set_option maxHeartbeats 8000000 in
set_option maxRecDepth 100000 in
theorem octets_Get.calls (k : Nat) (A0 : Option Addr) (c0 : Nat) (l0 : List Int) (a1 : Int) (a2 : Int) (r1 : Int) (r2 : Bool) (w : World) (hr0 : Kd.C (Kd.int .u8) w A0 l0.length l0) (hc0 : l0.length ≤ c0) (h : octets_Get.f k l0 a1 a2 = some (r1, r2)) :
    Calls Try.prog 59 #[.slice A0 l0.length c0, .int .i64 a1, .int .i64 a2] w fun e w' => e = .returned (.tuple #[.int .i64 r1, .bool r2]) ∧ Drawn0 w w' := by
  have HR0 := Aside0.mk hr0
  have HC0 := Aside0.mk hc0
  clear hr0 hc0
  have H : (if a2 < 1 then (some (0, false)) else (if a2 > 7 then (some (0, false)) else ((octets_none.f l0 a1 a2).bind fun t139 => (if t139 = true then (some (0, false)) else (if 0 ≤ a1 then (if a1 ≤ (wrap64 (a1 + a2)) then (if (wrap64 (a1 + a2)) ≤ (l0.length : Int) then ((octets_read.f k ((l0.take ((wrap64 (a1 + a2)) : Int).toNat).drop (a1 : Int).toNat)).bind fun t141 => (some (wrap64 (t141), true))) else (none)) else (none)) else (none)))))) = some (r1, r2) := h
  clear h
  by_cases c4 : a2 < 1
  · rw [if_pos c4] at H
    have c4b0 : decide (a2 < 1) = true := decide_eq_true c4
    clear c4
    simp only [Option.some.injEq, Prod.mk.injEq] at H
    obtain ⟨rfl, rfl⟩ := H
    go_enter Try.func59, Try.ntmps59
    go_wp2
    go_ret2
    exact ⟨by first | rfl | (simp; done) | (simp [*]; done), by repeat (first | exact Drawn0.refl _ | apply Drawn0.step)⟩
  · rw [if_neg c4] at H
    have c4b0 : decide (a2 < 1) = false := decide_eq_false c4
    clear c4
    by_cases c5 : a2 > 7
    · rw [if_pos c5] at H
      have c5b0 : decide (7 < a2) = true := decide_eq_true c5
      clear c5
      simp only [Option.some.injEq, Prod.mk.injEq] at H
      obtain ⟨rfl, rfl⟩ := H
      go_enter Try.func59, Try.ntmps59
      go_wp2
      go_ret2
      exact ⟨by first | rfl | (simp; done) | (simp [*]; done), by repeat (first | exact Drawn0.refl _ | apply Drawn0.step)⟩
    · rw [if_neg c5] at H
      have c5b0 : decide (7 < a2) = false := decide_eq_false c5
      clear c5
      replace H := Option.bind_eq_some_iff.mp H
      obtain ⟨t139, A60, H⟩ := H
      replace H : (if t139 = true then (some (0, false)) else (if 0 ≤ a1 then (if a1 ≤ (wrap64 (a1 + a2)) then (if (wrap64 (a1 + a2)) ≤ (l0.length : Int) then ((octets_read.f k ((l0.take ((wrap64 (a1 + a2)) : Int).toNat).drop (a1 : Int).toNat)).bind fun t141 => (some (wrap64 (t141), true))) else (none)) else (none)) else (none))) = some (r1, r2) := H
      have A6 := Aside0.mk A60
      clear A60
      by_cases c7 : t139 = true
      · subst c7
        have H1 : (some (0, false)) = some (r1, r2) := by rw [if_pos rfl] at H; exact H
        clear H
        have H := H1
        clear H1
        simp only [Option.some.injEq, Prod.mk.injEq] at H
        obtain ⟨rfl, rfl⟩ := H
        go_enter Try.func59, Try.ntmps59
        go_wp2_with (first | (go_at_call 80; (with_reducible refine (octets_none.calls _ _ l0 a1 a2 true _ ?side1 ?side2 A6.out).mono ?_); (case side1 => repeat (first | exact HR0.out | (with_reducible refine Kd.C_alloc ?_ _) | (with_reducible refine Kd.C_drewN ?_ _) | (with_reducible refine Kd.C_drew ?_))); (case side2 => exact HC0.out); rintro e w' ⟨rfl, ⟨nd, rfl⟩⟩))
        go_ret2
        exact ⟨by first | rfl | (simp; done) | (simp [*]; done), by repeat (first | exact Drawn0.refl _ | apply Drawn0.step)⟩
      · replace c7 := Bool.eq_false_iff.mpr c7
        subst c7
        have H1 : (if 0 ≤ a1 then (if a1 ≤ (wrap64 (a1 + a2)) then (if (wrap64 (a1 + a2)) ≤ (l0.length : Int) then ((octets_read.f k ((l0.take ((wrap64 (a1 + a2)) : Int).toNat).drop (a1 : Int).toNat)).bind fun t141 => (some (wrap64 (t141), true))) else (none)) else (none)) else (none)) = some (r1, r2) := by rw [if_neg (show ¬ (false = true) by decide)] at H; exact H
        clear H
        have H := H1
        clear H1
        by_cases c8 : 0 ≤ a1
        · rw [if_pos c8] at H
          have c8b0 := eq_true c8
          have c8b1 : decide (0 ≤ a1) = true := decide_eq_true c8
          clear c8
          by_cases c9 : a1 ≤ (wrap64 (a1 + a2))
          · rw [if_pos c9] at H
            have c9b0 := eq_true c9
            have c9b1 : decide (a1 ≤ (wrap64 (a1 + a2))) = true := decide_eq_true c9
            by_cases c10 : (wrap64 (a1 + a2)) ≤ (l0.length : Int)
            · rw [if_pos c10] at H
              have c10b0 := eq_true c10
              have c10b1 : decide ((wrap64 (a1 + a2)) ≤ (l0.length : Int)) = true := decide_eq_true c10
              replace H := Option.bind_eq_some_iff.mp H
              obtain ⟨t141, A110, H⟩ := H
              replace H : (some (wrap64 (t141), true)) = some (r1, r2) := H
              have A11 := Aside0.mk A110
              clear A110
              simp only [Option.some.injEq, Prod.mk.injEq] at H
              obtain ⟨rfl, rfl⟩ := H
              go_enter Try.func59, Try.ntmps59
              go_wp2_with (first | (go_at_call 80; (with_reducible refine (octets_none.calls _ _ l0 a1 a2 false _ ?side1 ?side2 A6.out).mono ?_); (case side1 => repeat (first | exact HR0.out | (with_reducible refine Kd.C_alloc ?_ _) | (with_reducible refine Kd.C_drewN ?_ _) | (with_reducible refine Kd.C_drew ?_))); (case side2 => exact HC0.out); rintro e w' ⟨rfl, ⟨nd, rfl⟩⟩; obtain ⟨i012, hi012, _, hsz12, _⟩ := info_parts info5; obtain ⟨A12, hcut12, hA12, hC12⟩ := print_mid_of (P := Try.prog) (Value.int .u8) 0 36 5 .i64 .i64 Try.underlying36 hi012 hsz12 A0 c0 l0 a1 (wrap64 (a1 + a2)) (of_decide_eq_true (by first | (with_reducible assumption) | assumption)) (by first | omega | exact of_decide_eq_true (by first | (with_reducible assumption) | assumption)) (of_decide_eq_true (by first | (with_reducible assumption) | assumption)) HC0.out; have HR140 := Aside0.mk (Kd.C_of_reads (h1 := fun _ => rfl) (hA12 _ (Kd.reads_of_C HR0.out))); have HC140 := Aside0.mk hC12; clear hA12 hC12 hi012 hsz12) | ((with_reducible refine gate_callee (f := 81) rfl ?_); refine goesL_ (some 26) rfl rfl Try.func81 (by kernel_rfl) rfl #[.slice A12 ((l0.take ((wrap64 (a1 + a2)) : Int).toNat).drop (a1 : Int).toNat).length (c0 - a1.toNat)] rfl (by (try simp only [List.map_toArray, List.map_cons, List.map_nil]); first | done | (rw [show ((l0.take ((wrap64 (a1 + a2)) : Int).toNat).drop (a1 : Int).toNat).length = ((wrap64 (a1 + a2)).toNat - a1.toNat) from (by rw [List.length_drop, List.length_take]; have h_ : ((wrap64 (a1 + a2)) : Int) ≤ (l0.length : Int) := of_decide_eq_true (by first | (with_reducible assumption) | assumption); omega)] <;> rfl) | rfl | (simp only [List.length_drop, List.length_take]; rfl)) ?_; (with_reducible refine (octets_read.calls k _ _ ((l0.take ((wrap64 (a1 + a2)) : Int).toNat).drop (a1 : Int).toNat) t141 _ ?side1 ?side2 A11.out).mono ?_); (case side1 => repeat (first | exact HR140.out | (with_reducible refine Kd.C_alloc ?_ _) | (with_reducible refine Kd.C_drewN ?_ _) | (with_reducible refine Kd.C_drew ?_))); (case side2 => exact HC140.out); rintro e w' ⟨rfl, ⟨nd, rfl⟩⟩; refine ⟨_, rfl, ?_⟩))
              go_ret2
              exact ⟨by first | rfl | (simp; done) | (simp [*]; done), by repeat (first | exact Drawn0.refl _ | apply Drawn0.step)⟩
            · rw [if_neg c10] at H
              exact absurd H (by simp)
          · rw [if_neg c9] at H
            exact absurd H (by simp)
        · rw [if_neg c8] at H
          exact absurd H (by simp)
end Go.Proofs.Ytiomlbkakiienaa.P
