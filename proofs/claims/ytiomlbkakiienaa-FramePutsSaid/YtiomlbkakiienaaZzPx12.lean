/- Functions and loops of the given program as Lean functions, and that the code comes to what they say: written by this session's own program; Lean checks it. -/
import Derived.Test.YtiomlbkakiienaaZzPx0
import Derived.Test.YtiomlbkakiienaaZzPx1
import Derived.Test.YtiomlbkakiienaaZzPx4
import Derived.Test.YtiomlbkakiienaaZzPx6
import Derived.Test.YtiomlbkakiienaaZzPx7
import Derived.Test.YtiomlbkakiienaaZzPx8
import Derived.Test.YtiomlbkakiienaaZzPx9
import Derived.Test.YtiomlbkakiienaaZzPx10
import Derived.Test.YtiomlbkakiienaaZzPx11
namespace Go.Proofs.Ytiomlbkakiienaa.P
open Go.RowKit Go.Proofs.YtiomlbkakiienaaW.PrintWords Go.Proofs.YtiomlbkakiienaaW.PrintLast Go.Proofs.YtiomlbkakiienaaW.PrintMore
attribute [local go_sem] max2_int min2_int max_two min_two max_three min_three max_four min_four   -- for this text's walks alone
set_option linter.unusedVariables false
set_option linter.unusedSimpArgs false
def carillonref09_Put.f (k : Nat) (a0_0 a0_1 a0_2 a0_3 a0_4 a0_5 a0_6 a0_7 a0_8 a0_9 a0_10 a0_11 a0_12 a0_13 a0_14 a0_15 a0_16 a0_17 a0_18 a0_19 a0_20 a0_21 a0_22 : Int) (l1 : List (S43)) : Option (ByteArray × Bool) := (carillonref08_Put.f k l1).bind fun t6 => (if t6.2 = true then ((carillonref07_Check.f k a0_0 a0_1 a0_2 a0_3 a0_4 a0_5 a0_6 a0_7 a0_8 a0_9 a0_10 a0_11 a0_12 a0_13 a0_14 a0_15 a0_16 a0_17 a0_18 a0_19 a0_20 a0_21 a0_22).bind fun t12 => (if t12 = true then ((carillonref07_Len.f k a0_0).bind fun t16 => (if (wrap64 ((wrap64 (34 + t16)) + (t6.1.length : Int))) > 400 then (some ((⟨#[]⟩ : ByteArray), false)) else ((carillonref06_Put.f k a0_0 a0_1 a0_2 a0_3 a0_4 a0_5 a0_6 a0_7 a0_8 a0_9 a0_10 a0_11 a0_12 a0_13 a0_14 a0_15 a0_16 a0_17 a0_18 a0_19 a0_20 a0_21 a0_22 (wrap64 ((wrap64 (34 + t16)) + (t6.1.length : Int)))).bind fun t24 => ((carillonref07_Put.f k a0_0 a0_1 a0_2 a0_3 a0_4 a0_5 a0_6 a0_7 a0_8 a0_9 a0_10 a0_11 a0_12 a0_13 a0_14 a0_15 a0_16 a0_17 a0_18 a0_19 a0_20 a0_21 a0_22).bind fun t29 => (if (strOfNums t24).size + (strOfNums t29).size ≤ 9223372036854775807 then (if ((strOfNums t24) ++ (strOfNums t29)).size + (strOfNums t6.1).size ≤ 9223372036854775807 then (some (((strOfNums t24) ++ (strOfNums t29)) ++ (strOfNums t6.1), true)) else (none)) else (none)))))) else (some ((⟨#[]⟩ : ByteArray), false)))) else (some ((⟨#[]⟩ : ByteArray), false)))
abbrev carillonref09_Put.v0 (x0 x1 x2 x3 x4 x5 x6 x7 x8 x9 x10 x11 x12 x13 x14 x15 x16 x17 x18 x19 x20 x21 x22 : Int) : Value := .agg #[.int .i64 x0, .int .i64 x1, .int .i64 x2, .int .i64 x3, .int .u64 x4, .int .i64 x5, .int .i64 x6, .int .i64 x7, .int .i64 x8, .int .u64 x9, .int .i64 x10, .int .i64 x11, .int .i64 x12, .int .i64 x13, .int .i64 x14, .int .i64 x15, .int .i64 x16, .int .u64 x17, .int .i64 x18, .int .i64 x19, .int .i64 x20, .int .i64 x21, .int .i64 x22]
abbrev carillonref09_Put.c1 (x0 x1 x2 x3 x4 x5 x6 x7 x8 x9 x10 x11 x12 x13 x14 x15 x16 x17 x18 x19 x20 x21 x22 : Int) : Array Value := #[.int .i64 x0, .int .i64 x1, .int .i64 x2, .int .i64 x3, .int .u64 x4, .int .i64 x5, .int .i64 x6, .int .i64 x7, .int .i64 x8, .int .u64 x9, .int .i64 x10, .int .i64 x11, .int .i64 x12, .int .i64 x13, .int .i64 x14, .int .i64 x15, .int .i64 x16, .int .u64 x17, .int .i64 x18, .int .i64 x19, .int .i64 x20, .int .i64 x21, .int .i64 x22]
open Go.Proofs.Ytiomlbkakiienaa.E in
set_option maxHeartbeats 60000000 in
set_option maxRecDepth 100000 in
theorem carillonref09_Put.calls (k : Nat) (aq ar au av aw ax ay az aA aB ad ae af ag ah ai aj ak al am an ao ap : Int) (A1 : Option Addr) (aI : Nat) (l1 : List (S43)) (r1 : ByteArray) (r2 : Bool) (w : World) (HR1 : Kd.C k43 w A1 l1.length l1) (HC1 : l1.length ≤ aI) (h : carillonref09_Put.f k aq ar au av aw ax ay az aA aB ad ae af ag ah ai aj ak al am an ao ap l1 = some (r1, r2)) :
    Calls Try.prog 13 #[.agg #[.int .i64 aq, .int .i64 ar, .int .i64 au, .int .i64 av, .int .u64 aw, .int .i64 ax, .int .i64 ay, .int .i64 az, .int .i64 aA, .int .u64 aB, .int .i64 ad, .int .i64 ae, .int .i64 af, .int .i64 ag, .int .i64 ah, .int .i64 ai, .int .i64 aj, .int .u64 ak, .int .i64 al, .int .i64 am, .int .i64 an, .int .i64 ao, .int .i64 ap], .slice A1 l1.length aI] w fun e w' => e = .returned (.tuple #[.string r1, .bool r2]) ∧ Below w.heap.size w w' := by
 have H := h
 clear h
 unfold carillonref09_Put.f at H
 obtain ⟨t6, ba, H⟩ := Option.bind_eq_some_iff.mp H
 obtain ⟨aa, ab⟩ := t6
 (try dsimp only at H)
 by_cases c1 : ab = true
 rotate_left
 ·rw [if_neg c1] at H
  simp only [Option.some.injEq, Prod.mk.injEq] at H
  obtain ⟨rfl, rfl⟩ := H
  refine calls_of_wp (fn := Try.f13) (by kernel_rfl) rfl ?_
  have hS := St.enter #[(carillonref09_Put.v0 aq ar au av aw ax ay az aA aB ad ae af ag ah ai aj ak al am an ao ap), .slice A1 l1.length aI] 43 (by simp) [(0, (carillonref09_Put.v0 aq ar au av aw ax ay az aA aB ad ae af ag ah ai aj ak al am an ao ap)), (1, .slice A1 l1.length aI)] (by simp)
  have aU := Below.refl w.heap.size w
  refine wp_seq_k (fun K1 aV => ?_)
  refine reg_seq (I := I1_ w) (ps := [IsB (carillonref09_Put.c1 aq ar au av aw ax ay az aA aB ad ae af ag ah ai aj ak al am an ao ap) 28 w.heap.size, IsV (.string (⟨#[]⟩ : ByteArray)), VB false]) (by kernel_rfl) ?_ ?_ rfl hS aU ?_ ?_
  ·exact bs1
  ·exact .cons (Stays.b _ _ _) (.v (.v (.nil)))
  ·refine .on rfl (fun a w hS hI hp => does_var (x_box rfl (congrArg Value.cells (hS.get 0 rfl))) (hI).size) ?_
   iterate 2 refine .on rfl (fun a w hS hI hp => does_val (x_assign rfl (rfl)) rfl) ?_
   exact .nil
  clear hS
  intro bg w3 hS a0 hp
  replace hS := (hS.nil).cons (hS.get 1 rfl)
  obtain ⟨g4, aJ, a1, ac⟩ := (show IsB _ 28 _ (sl _ 2) _ from hp 0 (by decide))
  have hS := hS.cons aJ
  clear hp aJ
  refine aV _ _ ?_
  refine wp_seq_k (fun K5 aY => ?_)
  refine reg_seq (I := I2_ w w3) (ps := [IsV (.slice A1 l1.length aI), IsT (fun v0_ => #[v0_, .bool ab]) (IsR (Kd.int .u8) 5 w3.heap.size aa), IsT (fun v0_ => #[v0_, .bool ab]) (IsR (Kd.int .u8) 5 w3.heap.size aa), IsR (Kd.int .u8) 5 w3.heap.size aa, VB ab, IsR (Kd.int .u8) 5 w3.heap.size aa, VB ab]) (by kernel_rfl) ?_ ?_ rfl hS ⟨a0, (bR w3)⟩ ?_ ?_
  ·exact bs2
  ·exact .v (.cons (Stays.t _ (Stays.r _ _ _ _)) (.cons (Stays.t _ (Stays.r _ _ _ _)) (.cons (Stays.r _ _ _ _) (.v (.cons (Stays.r _ _ _ _) (.v (.nil)))))))
  ·refine .ms 1 rfl rfl rfl ?_
   refine .on rfl (fun a w hS hI hp => does_call (by kernel_rfl) (ar1 (hp.V 0 rfl rfl)) ((carillonref08_Put.calls k _ _ l1 aa ab _ (Kd.C_below HR1 hI.1) HC1 ba).mono fun _ _ h => h.elim fun v0 h => ⟨_, h.1, h.2.2, v0, rfl, Kd.R_lower h.2.1 hI.2.size⟩)) ?_
   refine .on rfl (fun a w hS hI hp => does_val (x_move rfl rfl) (hp.V 1 rfl rfl)) ?_
   refine .on rfl (fun a w hS hI hp => (hp.V 2 rfl rfl).elim fun v0 h0 => does_val (x_extract rfl h0.1 rfl) h0.2) ?_
   refine .on rfl (fun a w hS hI hp => (hp.V 2 rfl rfl).elim fun v0 h0 => does_val (x_extract rfl h0.1 rfl) rfl) ?_
   refine .on rfl (fun a w hS hI hp => does_val (x_assign rfl rfl) (hp.V 3 rfl rfl)) ?_
   refine .asg 4 rfl rfl rfl ?_
   exact .nil
  clear hS
  intro bh w8 hS aN hp
  replace hS := (hS.nil).cons (hS.get 0 rfl)
  obtain ⟨A9, C9, aE, bj, bb⟩ := Kd.R_reads (show Kd.R (Kd.int .u8) 5 w8 w3.heap.size (fun _ => True) (sl _ 6) aa from hp 5 (by decide))
  have bk : Kd.R (Kd.int .u8) 5 w8 w3.heap.size (fun _ => True) (.slice A9 aa.length C9) aa := aE ▸ (hp 5 (by decide))
  have aM : sl _ 7 = .bool ab := hp 6 (by decide)
  have hS := hS.cons aE
  have hS := hS.cons aM
  clear hp aE aM
  refine aY _ _ ?_
  refine wp_seq_k (fun bd aW => ?_)
  refine wp_seq_k (fun be aP => ?_)
  refine reg_seq (I := I3_ w w3 w8) (ps := [VB ab, VB (!ab), VB (!ab), VU, VU, VU, VB true]) (by kernel_rfl) ?_ ?_ rfl hS ⟨aN.1, aN.2, (bR w8)⟩ ?_ ?_
  ·exact bs3
  ·exact .v (.v (.v (.v (.v (.v (.v (.nil)))))))
  ·refine .ms 0 rfl rfl rfl ?_
   refine .on rfl (fun a w hS hI hp => does_val (x_not rfl (hp.V 0 rfl rfl)) rfl) ?_
   refine .mv 1 rfl rfl rfl ?_
   iterate 3 refine .sn 2 17 rfl rfl ((congrArg (!·) (Bool.eq_false_iff.2 c1))) ?_
   refine .on rfl (fun a w hS hI hp => does_val (x_pickT rfl ((hp.V 2 rfl rfl).trans (bT (congrArg (!·) (Bool.eq_false_iff.2 c1)))) (rfl)) rfl) ?_
   exact .nil
  clear hS
  intro bG bp hS a9 hp
  replace hS := ((hS.nil).cons (hS.get 2 rfl)).cons (hS.get 1 rfl)
  have aD : sl _ 21 = .bool true := hp 6 (by decide)
  have hS := hS.cons aD
  clear hp aD
  refine aP _ _ ?_
  refine wp_cond_true ((hS.get 0 rfl).trans (bT rfl)) ?_
  refine wp_seq_k (fun bO bu => ?_)
  refine reg_seq (I := I4_ w w3 w8 bp) (ps := [IsV (.string (⟨#[]⟩ : ByteArray)), VB false]) (by kernel_rfl) ?_ ?_ rfl hS ⟨a9.1, a9.2.1, a9.2.2, (bR bp)⟩ ?_ ?_
  ·exact bs4
  ·exact .v (.v (.nil))
  ·refine .on rfl (fun a w hS hI hp => does_val (x_assign rfl (rfl)) rfl) ?_
   refine .on rfl (fun a w hS hI hp => does_val (x_assign rfl (rfl)) rfl) ?_
   exact .nil
  clear hS
  intro bH bQ hS bx hp
  replace hS := hS.nil
  have aK : sl _ 4 = .string (⟨#[]⟩ : ByteArray) := hp 0 (by decide)
  have aL : sl _ 5 = .bool false := hp 1 (by decide)
  have hS := hS.cons aK
  have hS := hS.cons aL
  clear hp aK aL
  refine bu _ _ ?_
  refine wp_ret ?_
  (try simp only [Exit.then, Exit.inBlock, Exit.jump, Exit.noGoto])
  exact bodyPost_ret (v := .tuple #[.string (⟨#[]⟩ : ByteArray), .bool false]) (results_list (rs := [.tmp 4, .tmp 5]) rfl (by simp) (Vals.at (hS.get 1 rfl) (Vals.at (hS.get 0 rfl) .nil))) hS.nodef ⟨rfl, bx.1⟩
 rw [if_pos c1] at H
 obtain ⟨aH, a6, H⟩ := Option.bind_eq_some_iff.mp H
 by_cases c2 : aH = true
 rotate_left
 ·rw [if_neg c2] at H
  simp only [Option.some.injEq, Prod.mk.injEq] at H
  obtain ⟨rfl, rfl⟩ := H
  refine calls_of_wp (fn := Try.f13) (by kernel_rfl) rfl ?_
  have hS := St.enter #[(carillonref09_Put.v0 aq ar au av aw ax ay az aA aB ad ae af ag ah ai aj ak al am an ao ap), .slice A1 l1.length aI] 43 (by simp) [(0, (carillonref09_Put.v0 aq ar au av aw ax ay az aA aB ad ae af ag ah ai aj ak al am an ao ap)), (1, .slice A1 l1.length aI)] (by simp)
  have aU := Below.refl w.heap.size w
  refine wp_seq_k (fun K1 aV => ?_)
  refine reg_seq (I := I1_ w) (ps := [IsB (carillonref09_Put.c1 aq ar au av aw ax ay az aA aB ad ae af ag ah ai aj ak al am an ao ap) 28 w.heap.size, IsV (.string (⟨#[]⟩ : ByteArray)), VB false]) (by kernel_rfl) ?_ ?_ rfl hS aU ?_ ?_
  ·exact bs1
  ·exact .cons (Stays.b _ _ _) (.v (.v (.nil)))
  ·refine .on rfl (fun a w hS hI hp => does_var (x_box rfl (congrArg Value.cells (hS.get 0 rfl))) (hI).size) ?_
   iterate 2 refine .on rfl (fun a w hS hI hp => does_val (x_assign rfl (rfl)) rfl) ?_
   exact .nil
  clear hS
  intro bg w3 hS a0 hp
  replace hS := (hS.nil).cons (hS.get 1 rfl)
  obtain ⟨g4, aJ, a1, ac⟩ := (show IsB _ 28 _ (sl _ 2) _ from hp 0 (by decide))
  have hS := hS.cons aJ
  clear hp aJ
  refine aV _ _ ?_
  refine wp_seq_k (fun K5 aY => ?_)
  refine reg_seq (I := I2_ w w3) (ps := [IsV (.slice A1 l1.length aI), IsT (fun v0_ => #[v0_, .bool ab]) (IsR (Kd.int .u8) 5 w3.heap.size aa), IsT (fun v0_ => #[v0_, .bool ab]) (IsR (Kd.int .u8) 5 w3.heap.size aa), IsR (Kd.int .u8) 5 w3.heap.size aa, VB ab, IsR (Kd.int .u8) 5 w3.heap.size aa, VB ab]) (by kernel_rfl) ?_ ?_ rfl hS ⟨a0, (bR w3)⟩ ?_ ?_
  ·exact bs2
  ·exact .v (.cons (Stays.t _ (Stays.r _ _ _ _)) (.cons (Stays.t _ (Stays.r _ _ _ _)) (.cons (Stays.r _ _ _ _) (.v (.cons (Stays.r _ _ _ _) (.v (.nil)))))))
  ·refine .ms 1 rfl rfl rfl ?_
   refine .on rfl (fun a w hS hI hp => does_call (by kernel_rfl) (ar1 (hp.V 0 rfl rfl)) ((carillonref08_Put.calls k _ _ l1 aa ab _ (Kd.C_below HR1 hI.1) HC1 ba).mono fun _ _ h => h.elim fun v0 h => ⟨_, h.1, h.2.2, v0, rfl, Kd.R_lower h.2.1 hI.2.size⟩)) ?_
   refine .on rfl (fun a w hS hI hp => does_val (x_move rfl rfl) (hp.V 1 rfl rfl)) ?_
   refine .on rfl (fun a w hS hI hp => (hp.V 2 rfl rfl).elim fun v0 h0 => does_val (x_extract rfl h0.1 rfl) h0.2) ?_
   refine .on rfl (fun a w hS hI hp => (hp.V 2 rfl rfl).elim fun v0 h0 => does_val (x_extract rfl h0.1 rfl) rfl) ?_
   refine .on rfl (fun a w hS hI hp => does_val (x_assign rfl rfl) (hp.V 3 rfl rfl)) ?_
   refine .asg 4 rfl rfl rfl ?_
   exact .nil
  clear hS
  intro bh w8 hS aN hp
  replace hS := (hS.nil).cons (hS.get 0 rfl)
  obtain ⟨A9, C9, aE, bj, bb⟩ := Kd.R_reads (show Kd.R (Kd.int .u8) 5 w8 w3.heap.size (fun _ => True) (sl _ 6) aa from hp 5 (by decide))
  have bk : Kd.R (Kd.int .u8) 5 w8 w3.heap.size (fun _ => True) (.slice A9 aa.length C9) aa := aE ▸ (hp 5 (by decide))
  have aM : sl _ 7 = .bool ab := hp 6 (by decide)
  have hS := hS.cons aE
  have hS := hS.cons aM
  clear hp aE aM
  refine aY _ _ ?_
  refine wp_seq_k (fun bd aW => ?_)
  refine wp_seq_k (fun be aP => ?_)
  refine reg_seq (I := I3_ w w3 w8) (ps := [VB ab, VB (!ab), VB (!ab), IsV ((carillonref09_Put.v0 aq ar au av aw ax ay az aA aB ad ae af ag ah ai aj ak al am an ao ap)), VB aH, VB (!aH), VB (!aH)]) (by kernel_rfl) ?_ ?_ rfl hS ⟨aN.1, aN.2, (bR w8)⟩ ?_ ?_
  ·exact bs3
  ·exact .v (.v (.v (.v (.v (.v (.v (.nil)))))))
  ·refine .ms 0 rfl rfl rfl ?_
   refine .on rfl (fun a w hS hI hp => does_val (x_not rfl (hp.V 0 rfl rfl)) rfl) ?_
   refine .mv 1 rfl rfl rfl ?_
   refine .oy 2 17 rfl rfl ((congrArg (!·) c1)) (fun a w hS hI hp => does_loadrow rfl (hS.get 2 rfl) (((hI.2.1).block g4 (blk_lt ac)).trans ac) Try.underlying28 rfl (by kernel_rfl) rfl) ?_
   refine .oy 2 17 rfl rfl ((congrArg (!·) c1)) (fun a w hS hI hp => does_call (by kernel_rfl) (ar1 (hp.V 3 rfl rfl)) ((carillonref07_Check.calls (w := _) (h := a6)).mono fun _ _ h => ⟨_, h.1, h.2, rfl⟩)) ?_
   refine .oy 2 17 rfl rfl ((congrArg (!·) c1)) (fun a w hS hI hp => does_val (x_not rfl (hp.V 4 rfl rfl)) rfl) ?_
   refine .on rfl (fun a w hS hI hp => does_val (x_pickF rfl ((hp.V 2 rfl rfl).trans (bF (congrArg (!·) c1))) (hp.V 5 rfl rfl)) rfl) ?_
   exact .nil
  clear hS
  intro bf aT hS aF hp
  replace hS := ((hS.nil).cons (hS.get 2 rfl)).cons (hS.get 1 rfl)
  have aD : sl _ 21 = .bool (!aH) := hp 6 (by decide)
  have hS := hS.cons aD
  clear hp aD
  refine aP _ _ ?_
  refine wp_cond_true ((hS.get 0 rfl).trans (bT (congrArg (!·) (Bool.eq_false_iff.2 c2)))) ?_
  refine wp_seq_k (fun bo aX => ?_)
  refine reg_seq (I := I4_ w w3 w8 aT) (ps := [IsV (.string (⟨#[]⟩ : ByteArray)), VB false]) (by kernel_rfl) ?_ ?_ rfl hS ⟨aF.1, aF.2.1, aF.2.2, (bR aT)⟩ ?_ ?_
  ·exact bs4
  ·exact .v (.v (.nil))
  ·refine .on rfl (fun a w hS hI hp => does_val (x_assign rfl (rfl)) rfl) ?_
   refine .on rfl (fun a w hS hI hp => does_val (x_assign rfl (rfl)) rfl) ?_
   exact .nil
  clear hS
  intro bI bS hS bz hp
  replace hS := hS.nil
  have aK : sl _ 4 = .string (⟨#[]⟩ : ByteArray) := hp 0 (by decide)
  have aL : sl _ 5 = .bool false := hp 1 (by decide)
  have hS := hS.cons aK
  have hS := hS.cons aL
  clear hp aK aL
  refine aX _ _ ?_
  refine wp_ret ?_
  (try simp only [Exit.then, Exit.inBlock, Exit.jump, Exit.noGoto])
  exact bodyPost_ret (v := .tuple #[.string (⟨#[]⟩ : ByteArray), .bool false]) (results_list (rs := [.tmp 4, .tmp 5]) rfl (by simp) (Vals.at (hS.get 1 rfl) (Vals.at (hS.get 0 rfl) .nil))) hS.nodef ⟨rfl, bz.1⟩
 rw [if_pos c2] at H
 obtain ⟨aC, bc, H⟩ := Option.bind_eq_some_iff.mp H
 by_cases c3 : (wrap64 ((wrap64 (34 + aC)) + (aa.length : Int))) > 400
 ·rw [if_pos c3] at H
  simp only [Option.some.injEq, Prod.mk.injEq] at H
  obtain ⟨rfl, rfl⟩ := H
  refine calls_of_wp (fn := Try.f13) (by kernel_rfl) rfl ?_
  have hS := St.enter #[(carillonref09_Put.v0 aq ar au av aw ax ay az aA aB ad ae af ag ah ai aj ak al am an ao ap), .slice A1 l1.length aI] 43 (by simp) [(0, (carillonref09_Put.v0 aq ar au av aw ax ay az aA aB ad ae af ag ah ai aj ak al am an ao ap)), (1, .slice A1 l1.length aI)] (by simp)
  have aU := Below.refl w.heap.size w
  refine wp_seq_k (fun K1 aV => ?_)
  refine reg_seq (I := I1_ w) (ps := [IsB (carillonref09_Put.c1 aq ar au av aw ax ay az aA aB ad ae af ag ah ai aj ak al am an ao ap) 28 w.heap.size, IsV (.string (⟨#[]⟩ : ByteArray)), VB false]) (by kernel_rfl) ?_ ?_ rfl hS aU ?_ ?_
  ·exact bs1
  ·exact .cons (Stays.b _ _ _) (.v (.v (.nil)))
  ·refine .on rfl (fun a w hS hI hp => does_var (x_box rfl (congrArg Value.cells (hS.get 0 rfl))) (hI).size) ?_
   iterate 2 refine .on rfl (fun a w hS hI hp => does_val (x_assign rfl (rfl)) rfl) ?_
   exact .nil
  clear hS
  intro bg w3 hS a0 hp
  replace hS := (hS.nil).cons (hS.get 1 rfl)
  obtain ⟨g4, aJ, a1, ac⟩ := (show IsB _ 28 _ (sl _ 2) _ from hp 0 (by decide))
  have hS := hS.cons aJ
  clear hp aJ
  refine aV _ _ ?_
  refine wp_seq_k (fun K5 aY => ?_)
  refine reg_seq (I := I2_ w w3) (ps := [IsV (.slice A1 l1.length aI), IsT (fun v0_ => #[v0_, .bool ab]) (IsR (Kd.int .u8) 5 w3.heap.size aa), IsT (fun v0_ => #[v0_, .bool ab]) (IsR (Kd.int .u8) 5 w3.heap.size aa), IsR (Kd.int .u8) 5 w3.heap.size aa, VB ab, IsR (Kd.int .u8) 5 w3.heap.size aa, VB ab]) (by kernel_rfl) ?_ ?_ rfl hS ⟨a0, (bR w3)⟩ ?_ ?_
  ·exact bs2
  ·exact .v (.cons (Stays.t _ (Stays.r _ _ _ _)) (.cons (Stays.t _ (Stays.r _ _ _ _)) (.cons (Stays.r _ _ _ _) (.v (.cons (Stays.r _ _ _ _) (.v (.nil)))))))
  ·refine .ms 1 rfl rfl rfl ?_
   refine .on rfl (fun a w hS hI hp => does_call (by kernel_rfl) (ar1 (hp.V 0 rfl rfl)) ((carillonref08_Put.calls k _ _ l1 aa ab _ (Kd.C_below HR1 hI.1) HC1 ba).mono fun _ _ h => h.elim fun v0 h => ⟨_, h.1, h.2.2, v0, rfl, Kd.R_lower h.2.1 hI.2.size⟩)) ?_
   refine .on rfl (fun a w hS hI hp => does_val (x_move rfl rfl) (hp.V 1 rfl rfl)) ?_
   refine .on rfl (fun a w hS hI hp => (hp.V 2 rfl rfl).elim fun v0 h0 => does_val (x_extract rfl h0.1 rfl) h0.2) ?_
   refine .on rfl (fun a w hS hI hp => (hp.V 2 rfl rfl).elim fun v0 h0 => does_val (x_extract rfl h0.1 rfl) rfl) ?_
   refine .on rfl (fun a w hS hI hp => does_val (x_assign rfl rfl) (hp.V 3 rfl rfl)) ?_
   refine .asg 4 rfl rfl rfl ?_
   exact .nil
  clear hS
  intro bh w8 hS aN hp
  replace hS := (hS.nil).cons (hS.get 0 rfl)
  obtain ⟨A9, C9, aE, bj, bb⟩ := Kd.R_reads (show Kd.R (Kd.int .u8) 5 w8 w3.heap.size (fun _ => True) (sl _ 6) aa from hp 5 (by decide))
  have bk : Kd.R (Kd.int .u8) 5 w8 w3.heap.size (fun _ => True) (.slice A9 aa.length C9) aa := aE ▸ (hp 5 (by decide))
  have aM : sl _ 7 = .bool ab := hp 6 (by decide)
  have hS := hS.cons aE
  have hS := hS.cons aM
  clear hp aE aM
  refine aY _ _ ?_
  refine wp_seq_k (fun bd aW => ?_)
  refine wp_seq_k (fun be aP => ?_)
  refine reg_seq (I := I3_ w w3 w8) (ps := [VB ab, VB (!ab), VB (!ab), IsV ((carillonref09_Put.v0 aq ar au av aw ax ay az aA aB ad ae af ag ah ai aj ak al am an ao ap)), VB aH, VB (!aH), VB (!aH)]) (by kernel_rfl) ?_ ?_ rfl hS ⟨aN.1, aN.2, (bR w8)⟩ ?_ ?_
  ·exact bs3
  ·exact .v (.v (.v (.v (.v (.v (.v (.nil)))))))
  ·refine .ms 0 rfl rfl rfl ?_
   refine .on rfl (fun a w hS hI hp => does_val (x_not rfl (hp.V 0 rfl rfl)) rfl) ?_
   refine .mv 1 rfl rfl rfl ?_
   refine .oy 2 17 rfl rfl ((congrArg (!·) c1)) (fun a w hS hI hp => does_loadrow rfl (hS.get 2 rfl) (((hI.2.1).block g4 (blk_lt ac)).trans ac) Try.underlying28 rfl (by kernel_rfl) rfl) ?_
   refine .oy 2 17 rfl rfl ((congrArg (!·) c1)) (fun a w hS hI hp => does_call (by kernel_rfl) (ar1 (hp.V 3 rfl rfl)) ((carillonref07_Check.calls (w := _) (h := a6)).mono fun _ _ h => ⟨_, h.1, h.2, rfl⟩)) ?_
   refine .oy 2 17 rfl rfl ((congrArg (!·) c1)) (fun a w hS hI hp => does_val (x_not rfl (hp.V 4 rfl rfl)) rfl) ?_
   refine .on rfl (fun a w hS hI hp => does_val (x_pickF rfl ((hp.V 2 rfl rfl).trans (bF (congrArg (!·) c1))) (hp.V 5 rfl rfl)) rfl) ?_
   exact .nil
  clear hS
  intro bf aT hS aF hp
  replace hS := ((hS.nil).cons (hS.get 2 rfl)).cons (hS.get 1 rfl)
  have aD : sl _ 21 = .bool (!aH) := hp 6 (by decide)
  have hS := hS.cons aD
  clear hp aD
  refine aP _ _ ?_
  refine wp_cond_false ((hS.get 0 rfl).trans (bF (congrArg (!·) c2))) ?_
  refine wp_skip ?_
  refine aW _ _ ?_
  refine wp_seq_k (fun bo aX => ?_)
  refine reg_seq (I := I4_ w w3 w8 aT) (ps := [VP g4 0, VI aq, VI aC, VI (wrap64 (34 + aC)), IsV (.slice A9 aa.length C9), VI (aa.length : Int), VI (wrap64 ((wrap64 (34 + aC)) + (aa.length : Int))), VI (wrap64 ((wrap64 (34 + aC)) + (aa.length : Int)))]) (by kernel_rfl) ?_ ?_ rfl hS ⟨aF.1, aF.2.1, aF.2.2, (bR aT)⟩ ?_ ?_
  ·exact bs4
  ·exact .v (.v (.v (.v (.v (.v (.v (.v (.nil))))))))
  ·refine .on rfl (fun a w hS hI hp => does_val (x_fieldE (b := 0) rfl (hS.get 2 rfl) Try.underlying28 rfl rfl (by kernel_rfl)) rfl) ?_
   refine .on rfl (fun a w hS hI hp => does_val (x_load1 (d := .int .i64) rfl (hp.V 0 rfl rfl) (by kernel_rfl) rfl ((blk_cell (((hI.2.1).block g4 (blk_lt ac)).trans ac) 0).trans rfl)) rfl) ?_
   refine .on rfl (fun a w hS hI hp => does_call (by kernel_rfl) (ar1 (hp.V 1 rfl rfl)) ((carillonref07_Len.calls k aq aC _  bc).mono fun _ _ h => ⟨_, h.1, h.2.below, rfl⟩)) ?_
   refine .on rfl (fun a w hS hI hp => does_val (x_bin rfl (rfl) (hp.V 2 rfl rfl) (b_add _ _ _ _ _)) rfl) ?_
   refine .ms 1 rfl rfl rfl ?_
   refine .on rfl (fun a w hS hI hp => does_val (x_len (e := 5) rfl (by kernel_rfl) (hp.V 4 rfl rfl)) rfl) ?_
   refine .on rfl (fun a w hS hI hp => does_val (x_bin rfl (hp.V 3 rfl rfl) (hp.V 5 rfl rfl) (b_add _ _ _ _ _)) rfl) ?_
   refine .asg 6 rfl rfl rfl ?_
   exact .nil
  clear hS
  intro bs a4 hS aQ hp
  replace hS := ((hS.nil).cons (hS.get 2 rfl)).cons (hS.get 1 rfl)
  have a3 : sl _ 8 = .int .i64 (wrap64 ((wrap64 (34 + aC)) + (aa.length : Int))) := hp 7 (by decide)
  have hS := hS.cons a3
  clear hp a3
  refine aX _ _ ?_
  refine wp_seq_k (fun bC bi => ?_)
  refine wp_seq_k (fun bD a7 => ?_)
  refine reg_seq (I := I4_ w w3 w8 a4) (ps := [VI (wrap64 ((wrap64 (34 + aC)) + (aa.length : Int))), VB (decide ((wrap64 ((wrap64 (34 + aC)) + (aa.length : Int))) > 400))]) (by kernel_rfl) ?_ ?_ rfl hS ⟨aQ.1, aQ.2.1, aQ.2.2.1, (bR a4)⟩ ?_ ?_
  ·exact bs4
  ·exact .v (.v (.nil))
  ·refine .ms 0 rfl rfl rfl ?_
   refine .on rfl (fun a w hS hI hp => does_val (x_bin rfl (hp.V 0 rfl rfl) (rfl) (b_gtr _ _ _ _ _ _)) rfl) ?_
   exact .nil
  clear hS
  intro bt aO hS aR hp
  have aZ : sl _ 30 = .bool (decide ((wrap64 ((wrap64 (34 + aC)) + (aa.length : Int))) > 400)) := hp 1 (by decide)
  have hS := hS.cons aZ
  clear hp aZ
  refine a7 _ _ ?_
  refine wp_cond_true ((hS.get 0 rfl).trans (bT (decide_eq_true c3))) ?_
  refine wp_seq_k (fun bE a8 => ?_)
  refine reg_seq (I := I4_ w w3 w8 aO) (ps := [IsV (.string (⟨#[]⟩ : ByteArray)), VB false]) (by kernel_rfl) ?_ ?_ rfl hS ⟨aR.1, aR.2.1, aR.2.2.1, (bR aO)⟩ ?_ ?_
  ·exact bs4
  ·exact .v (.v (.nil))
  ·refine .on rfl (fun a w hS hI hp => does_val (x_assign rfl (rfl)) rfl) ?_
   refine .on rfl (fun a w hS hI hp => does_val (x_assign rfl (rfl)) rfl) ?_
   exact .nil
  clear hS
  intro bJ bU hS bA hp
  replace hS := hS.nil
  have aK : sl _ 4 = .string (⟨#[]⟩ : ByteArray) := hp 0 (by decide)
  have aL : sl _ 5 = .bool false := hp 1 (by decide)
  have hS := hS.cons aK
  have hS := hS.cons aL
  clear hp aK aL
  refine a8 _ _ ?_
  refine wp_ret ?_
  (try simp only [Exit.then, Exit.inBlock, Exit.jump, Exit.noGoto])
  exact bodyPost_ret (v := .tuple #[.string (⟨#[]⟩ : ByteArray), .bool false]) (results_list (rs := [.tmp 4, .tmp 5]) rfl (by simp) (Vals.at (hS.get 1 rfl) (Vals.at (hS.get 0 rfl) .nil))) hS.nodef ⟨rfl, bA.1⟩
 rw [if_neg c3] at H
 obtain ⟨aG, bq, H⟩ := Option.bind_eq_some_iff.mp H
 obtain ⟨aS, br, H⟩ := Option.bind_eq_some_iff.mp H
 by_cases c4 : (strOfNums aG).size + (strOfNums aS).size ≤ 9223372036854775807
 rotate_left
 ·rw [if_neg c4] at H
  exact absurd H (by simp)
 rw [if_pos c4] at H
 by_cases c5 : ((strOfNums aG) ++ (strOfNums aS)).size + (strOfNums aa).size ≤ 9223372036854775807
 rotate_left
 ·rw [if_neg c5] at H
  exact absurd H (by simp)
 rw [if_pos c5] at H
 simp only [Option.some.injEq, Prod.mk.injEq] at H
 obtain ⟨rfl, rfl⟩ := H
 refine calls_of_wp (fn := Try.f13) (by kernel_rfl) rfl ?_
 have hS := St.enter #[(carillonref09_Put.v0 aq ar au av aw ax ay az aA aB ad ae af ag ah ai aj ak al am an ao ap), .slice A1 l1.length aI] 43 (by simp) [(0, (carillonref09_Put.v0 aq ar au av aw ax ay az aA aB ad ae af ag ah ai aj ak al am an ao ap)), (1, .slice A1 l1.length aI)] (by simp)
 have aU := Below.refl w.heap.size w
 refine wp_seq_k (fun K1 aV => ?_)
 refine reg_seq (I := I1_ w) (ps := [IsB (carillonref09_Put.c1 aq ar au av aw ax ay az aA aB ad ae af ag ah ai aj ak al am an ao ap) 28 w.heap.size, IsV (.string (⟨#[]⟩ : ByteArray)), VB false]) (by kernel_rfl) ?_ ?_ rfl hS aU ?_ ?_
 ·exact bs1
 ·exact .cons (Stays.b _ _ _) (.v (.v (.nil)))
 ·refine .on rfl (fun a w hS hI hp => does_var (x_box rfl (congrArg Value.cells (hS.get 0 rfl))) (hI).size) ?_
  iterate 2 refine .on rfl (fun a w hS hI hp => does_val (x_assign rfl (rfl)) rfl) ?_
  exact .nil
 clear hS
 intro bg w3 hS a0 hp
 replace hS := (hS.nil).cons (hS.get 1 rfl)
 obtain ⟨g4, aJ, a1, ac⟩ := (show IsB _ 28 _ (sl _ 2) _ from hp 0 (by decide))
 have hS := hS.cons aJ
 clear hp aJ
 refine aV _ _ ?_
 refine wp_seq_k (fun K5 aY => ?_)
 refine reg_seq (I := I2_ w w3) (ps := [IsV (.slice A1 l1.length aI), IsT (fun v0_ => #[v0_, .bool ab]) (IsR (Kd.int .u8) 5 w3.heap.size aa), IsT (fun v0_ => #[v0_, .bool ab]) (IsR (Kd.int .u8) 5 w3.heap.size aa), IsR (Kd.int .u8) 5 w3.heap.size aa, VB ab, IsR (Kd.int .u8) 5 w3.heap.size aa, VB ab]) (by kernel_rfl) ?_ ?_ rfl hS ⟨a0, (bR w3)⟩ ?_ ?_
 ·exact bs2
 ·exact .v (.cons (Stays.t _ (Stays.r _ _ _ _)) (.cons (Stays.t _ (Stays.r _ _ _ _)) (.cons (Stays.r _ _ _ _) (.v (.cons (Stays.r _ _ _ _) (.v (.nil)))))))
 ·refine .ms 1 rfl rfl rfl ?_
  refine .on rfl (fun a w hS hI hp => does_call (by kernel_rfl) (ar1 (hp.V 0 rfl rfl)) ((carillonref08_Put.calls k _ _ l1 aa ab _ (Kd.C_below HR1 hI.1) HC1 ba).mono fun _ _ h => h.elim fun v0 h => ⟨_, h.1, h.2.2, v0, rfl, Kd.R_lower h.2.1 hI.2.size⟩)) ?_
  refine .on rfl (fun a w hS hI hp => does_val (x_move rfl rfl) (hp.V 1 rfl rfl)) ?_
  refine .on rfl (fun a w hS hI hp => (hp.V 2 rfl rfl).elim fun v0 h0 => does_val (x_extract rfl h0.1 rfl) h0.2) ?_
  refine .on rfl (fun a w hS hI hp => (hp.V 2 rfl rfl).elim fun v0 h0 => does_val (x_extract rfl h0.1 rfl) rfl) ?_
  refine .on rfl (fun a w hS hI hp => does_val (x_assign rfl rfl) (hp.V 3 rfl rfl)) ?_
  refine .asg 4 rfl rfl rfl ?_
  exact .nil
 clear hS
 intro bh w8 hS aN hp
 replace hS := (hS.nil).cons (hS.get 0 rfl)
 obtain ⟨A9, C9, aE, bj, bb⟩ := Kd.R_reads (show Kd.R (Kd.int .u8) 5 w8 w3.heap.size (fun _ => True) (sl _ 6) aa from hp 5 (by decide))
 have bk : Kd.R (Kd.int .u8) 5 w8 w3.heap.size (fun _ => True) (.slice A9 aa.length C9) aa := aE ▸ (hp 5 (by decide))
 have aM : sl _ 7 = .bool ab := hp 6 (by decide)
 have hS := hS.cons aE
 have hS := hS.cons aM
 clear hp aE aM
 refine aY _ _ ?_
 refine wp_seq_k (fun bd aW => ?_)
 refine wp_seq_k (fun be aP => ?_)
 refine reg_seq (I := I3_ w w3 w8) (ps := [VB ab, VB (!ab), VB (!ab), IsV ((carillonref09_Put.v0 aq ar au av aw ax ay az aA aB ad ae af ag ah ai aj ak al am an ao ap)), VB aH, VB (!aH), VB (!aH)]) (by kernel_rfl) ?_ ?_ rfl hS ⟨aN.1, aN.2, (bR w8)⟩ ?_ ?_
 ·exact bs3
 ·exact .v (.v (.v (.v (.v (.v (.v (.nil)))))))
 ·refine .ms 0 rfl rfl rfl ?_
  refine .on rfl (fun a w hS hI hp => does_val (x_not rfl (hp.V 0 rfl rfl)) rfl) ?_
  refine .mv 1 rfl rfl rfl ?_
  refine .oy 2 17 rfl rfl ((congrArg (!·) c1)) (fun a w hS hI hp => does_loadrow rfl (hS.get 2 rfl) (((hI.2.1).block g4 (blk_lt ac)).trans ac) Try.underlying28 rfl (by kernel_rfl) rfl) ?_
  refine .oy 2 17 rfl rfl ((congrArg (!·) c1)) (fun a w hS hI hp => does_call (by kernel_rfl) (ar1 (hp.V 3 rfl rfl)) ((carillonref07_Check.calls (w := _) (h := a6)).mono fun _ _ h => ⟨_, h.1, h.2, rfl⟩)) ?_
  refine .oy 2 17 rfl rfl ((congrArg (!·) c1)) (fun a w hS hI hp => does_val (x_not rfl (hp.V 4 rfl rfl)) rfl) ?_
  refine .on rfl (fun a w hS hI hp => does_val (x_pickF rfl ((hp.V 2 rfl rfl).trans (bF (congrArg (!·) c1))) (hp.V 5 rfl rfl)) rfl) ?_
  exact .nil
 clear hS
 intro bf aT hS aF hp
 replace hS := ((hS.nil).cons (hS.get 2 rfl)).cons (hS.get 1 rfl)
 have aD : sl _ 21 = .bool (!aH) := hp 6 (by decide)
 have hS := hS.cons aD
 clear hp aD
 refine aP _ _ ?_
 refine wp_cond_false ((hS.get 0 rfl).trans (bF (congrArg (!·) c2))) ?_
 refine wp_skip ?_
 refine aW _ _ ?_
 refine wp_seq_k (fun bo aX => ?_)
 refine reg_seq (I := I4_ w w3 w8 aT) (ps := [VP g4 0, VI aq, VI aC, VI (wrap64 (34 + aC)), IsV (.slice A9 aa.length C9), VI (aa.length : Int), VI (wrap64 ((wrap64 (34 + aC)) + (aa.length : Int))), VI (wrap64 ((wrap64 (34 + aC)) + (aa.length : Int)))]) (by kernel_rfl) ?_ ?_ rfl hS ⟨aF.1, aF.2.1, aF.2.2, (bR aT)⟩ ?_ ?_
 ·exact bs4
 ·exact .v (.v (.v (.v (.v (.v (.v (.v (.nil))))))))
 ·refine .on rfl (fun a w hS hI hp => does_val (x_fieldE (b := 0) rfl (hS.get 2 rfl) Try.underlying28 rfl rfl (by kernel_rfl)) rfl) ?_
  refine .on rfl (fun a w hS hI hp => does_val (x_load1 (d := .int .i64) rfl (hp.V 0 rfl rfl) (by kernel_rfl) rfl ((blk_cell (((hI.2.1).block g4 (blk_lt ac)).trans ac) 0).trans rfl)) rfl) ?_
  refine .on rfl (fun a w hS hI hp => does_call (by kernel_rfl) (ar1 (hp.V 1 rfl rfl)) ((carillonref07_Len.calls k aq aC _  bc).mono fun _ _ h => ⟨_, h.1, h.2.below, rfl⟩)) ?_
  refine .on rfl (fun a w hS hI hp => does_val (x_bin rfl (rfl) (hp.V 2 rfl rfl) (b_add _ _ _ _ _)) rfl) ?_
  refine .ms 1 rfl rfl rfl ?_
  refine .on rfl (fun a w hS hI hp => does_val (x_len (e := 5) rfl (by kernel_rfl) (hp.V 4 rfl rfl)) rfl) ?_
  refine .on rfl (fun a w hS hI hp => does_val (x_bin rfl (hp.V 3 rfl rfl) (hp.V 5 rfl rfl) (b_add _ _ _ _ _)) rfl) ?_
  refine .asg 6 rfl rfl rfl ?_
  exact .nil
 clear hS
 intro bs a4 hS aQ hp
 replace hS := ((hS.nil).cons (hS.get 2 rfl)).cons (hS.get 1 rfl)
 have a3 : sl _ 8 = .int .i64 (wrap64 ((wrap64 (34 + aC)) + (aa.length : Int))) := hp 7 (by decide)
 have hS := hS.cons a3
 clear hp a3
 refine aX _ _ ?_
 refine wp_seq_k (fun bC bi => ?_)
 refine wp_seq_k (fun bD a7 => ?_)
 refine reg_seq (I := I4_ w w3 w8 a4) (ps := [VI (wrap64 ((wrap64 (34 + aC)) + (aa.length : Int))), VB (decide ((wrap64 ((wrap64 (34 + aC)) + (aa.length : Int))) > 400))]) (by kernel_rfl) ?_ ?_ rfl hS ⟨aQ.1, aQ.2.1, aQ.2.2.1, (bR a4)⟩ ?_ ?_
 ·exact bs4
 ·exact .v (.v (.nil))
 ·refine .ms 0 rfl rfl rfl ?_
  refine .on rfl (fun a w hS hI hp => does_val (x_bin rfl (hp.V 0 rfl rfl) (rfl) (b_gtr _ _ _ _ _ _)) rfl) ?_
  exact .nil
 clear hS
 intro bt aO hS aR hp
 have aZ : sl _ 30 = .bool (decide ((wrap64 ((wrap64 (34 + aC)) + (aa.length : Int))) > 400)) := hp 1 (by decide)
 have hS := hS.cons aZ
 clear hp aZ
 refine a7 _ _ ?_
 refine wp_cond_false ((hS.get 0 rfl).trans (bF (decide_eq_false c3))) ?_
 refine wp_skip ?_
 refine bi _ _ ?_
 refine wp_seq_k (fun bE a8 => ?_)
 refine reg_seq (I := I4_ w w3 w8 aO) (ps := [IsV ((carillonref09_Put.v0 aq ar au av aw ax ay az aA aB ad ae af ag ah ai aj ak al am an ao ap)), VI (wrap64 ((wrap64 (34 + aC)) + (aa.length : Int))), IsR (Kd.int .u8) 5 aO.heap.size aG, IsR (Kd.int .u8) 5 aO.heap.size aG]) (by kernel_rfl) ?_ ?_ rfl hS ⟨aR.1, aR.2.1, aR.2.2.1, (bR aO)⟩ ?_ ?_
 ·exact bs4
 ·exact .v (.v (.cons (Stays.r _ _ _ _) (.cons (Stays.r _ _ _ _) (.nil))))
 ·refine .on rfl (fun a w hS hI hp => does_loadrow rfl (hS.get 3 rfl) (((hI.2.1).block g4 (blk_lt ac)).trans ac) Try.underlying28 rfl (by kernel_rfl) rfl) ?_
  refine .ms 1 rfl rfl rfl ?_
  refine .on rfl (fun a w hS hI hp => does_call (by kernel_rfl) (ar2 (hp.V 0 rfl rfl) (hp.V 1 rfl rfl)) ((carillonref06_Put.calls (w := _) (h := bq)).mono fun _ _ h => h.elim fun v0 h => ⟨v0, h.1, h.2.2, Kd.R_lower h.2.1 hI.2.2.2.size⟩)) ?_
  refine .on rfl (fun a w hS hI hp => does_val (x_assign rfl rfl) (hp.V 2 rfl rfl)) ?_
  exact .nil
 clear hS
 intro bK a5 hS a2 hp
 replace hS := ((hS.nil).cons (hS.get 3 rfl)).cons (hS.get 2 rfl)
 obtain ⟨bm, bn, bl, bM, bw⟩ := Kd.R_reads (show Kd.R (Kd.int .u8) 5 a5 aO.heap.size (fun _ => True) (sl _ 9) aG from hp 3 (by decide))
 have bN : Kd.R (Kd.int .u8) 5 a5 aO.heap.size (fun _ => True) (.slice bm aG.length bn) aG := bl ▸ (hp 3 (by decide))
 have hS := hS.cons bl
 clear hp bl
 refine a8 _ _ ?_
 refine wp_seq_k (fun bP bv => ?_)
 refine reg_any (I := I5_ w w3 w8 aO a5) (ps := [IsV (.slice bm aG.length bn), IsV (.string (strOfNums aG)), IsV ((carillonref09_Put.v0 aq ar au av aw ax ay az aA aB ad ae af ag ah ai aj ak al am an ao ap)), IsR (Kd.int .u8) 5 a5.heap.size aS, IsV (.string (strOfNums aS)), IsV (.string ((strOfNums aG) ++ (strOfNums aS))), IsV (.slice A9 aa.length C9), IsV (.string (strOfNums aa)), IsV (.string (((strOfNums aG) ++ (strOfNums aS)) ++ (strOfNums aa))), IsV (.string (((strOfNums aG) ++ (strOfNums aS)) ++ (strOfNums aa))), VB true]) (by kernel_rfl) (by kernel_rfl) ?_ ?_ rfl hS ⟨a2.1, a2.2.1, a2.2.2.1, a2.2.2.2, (bR a5)⟩ ?_ ?_
 ·exact bs5
 ·exact .v (.v (.v (.cons (Stays.r _ _ _ _) (.v (.v (.v (.v (.v (.v (.v (.nil)))))))))))
 ·refine .ms 0 rfl rfl rfl ?_
  refine .on rfl (fun a w hS hI hp => does_val (x_conv rfl (hp.V 0 rfl rfl) (Kd.C_string (by kernel_rfl) (e := 5) (by kernel_rfl) (by kernel_rfl) (Kd.C_below bw hI.2.2.2.2))) rfl) ?_
  refine .on rfl (fun a w hS hI hp => does_loadrow rfl (hS.get 2 rfl) (((hI.2.1).block g4 (blk_lt ac)).trans ac) Try.underlying28 rfl (by kernel_rfl) rfl) ?_
  refine .on rfl (fun a w hS hI hp => does_call (by kernel_rfl) (ar1 (hp.V 2 rfl rfl)) ((carillonref07_Put.calls (w := _) (h := br)).mono fun _ _ h => h.elim fun v0 h => ⟨v0, h.1, h.2.2, Kd.R_lower h.2.1 hI.2.2.2.2.size⟩)) ?_
  refine .on rfl (fun a w hS hI hp => (IsC.of_r (hp.V 3 rfl rfl)).elim fun A_ h_ => h_.elim fun c_ h_ => h_.elim fun hv_ h_ => h_.elim fun hl_ hc_ => does_val (x_conv rfl hv_ (Kd.C_string (by kernel_rfl) (e := 5) (by kernel_rfl) (by kernel_rfl) hc_)) rfl) ?_
  refine .on rfl (fun a w hS hI hp => does_val (x_bin rfl (hp.V 1 rfl rfl) (hp.V 4 rfl rfl) (b_adds _ _ _ _ _ c4)) rfl) ?_
  refine .ms 1 rfl rfl rfl ?_
  refine .on rfl (fun a w hS hI hp => does_val (x_conv rfl (hp.V 6 rfl rfl) (Kd.C_string (by kernel_rfl) (e := 5) (by kernel_rfl) (by kernel_rfl) (Kd.C_below bb hI.2.2.1))) rfl) ?_
  refine .on rfl (fun a w hS hI hp => does_val (x_bin rfl (hp.V 5 rfl rfl) (hp.V 7 rfl rfl) (b_adds _ _ _ _ _ c5)) rfl) ?_
  refine .asg 8 rfl rfl rfl ?_
  refine .on rfl (fun a w hS hI hp => does_val (x_assign rfl (rfl)) rfl) ?_
  exact .nil
 clear hS
 intro bL bV hS bB hp
 replace hS := hS.nil
 have aK : sl _ 4 = .string (((strOfNums aG) ++ (strOfNums aS)) ++ (strOfNums aa)) := hp 9 (by decide)
 have aL : sl _ 5 = .bool true := hp 10 (by decide)
 have hS := hS.cons aK
 have hS := hS.cons aL
 clear hp aK aL
 refine bv _ _ ?_
 refine wp_ret ?_
 (try simp only [Exit.then, Exit.inBlock, Exit.jump, Exit.noGoto])
 exact bodyPost_ret (v := .tuple #[.string (((strOfNums aG) ++ (strOfNums aS)) ++ (strOfNums aa)), .bool true]) (results_list (rs := [.tmp 4, .tmp 5]) rfl (by simp) (Vals.at (hS.get 1 rfl) (Vals.at (hS.get 0 rfl) .nil))) hS.nodef ⟨rfl, bB.1⟩
def carillonlaw09_FramePuts.f (k : Nat) (a0_0 a0_1 a0_2 a0_3 a0_4 a0_5 a0_6 a0_7 a0_8 a0_9 a0_10 a0_11 a0_12 a0_13 a0_14 a0_15 a0_16 a0_17 a0_18 a0_19 a0_20 a0_21 a0_22 : Int) (l1 : List (S43)) : Option (Bool) := (carillonlaw09_few.f k l1).bind fun t7 => (if t7 = true then ((carillonlaw00_Tlvs.f l1).bind fun t11 => ((frame_Put.f k a0_0 a0_1 a0_2 a0_3 a0_4 a0_5 a0_6 a0_7 a0_8 a0_9 a0_10 a0_11 a0_12 a0_13 a0_14 a0_15 a0_16 a0_17 a0_18 a0_19 a0_20 a0_21 a0_22 t11).bind fun t12 => ((carillonref09_Put.f k a0_0 a0_1 a0_2 a0_3 a0_4 a0_5 a0_6 a0_7 a0_8 a0_9 a0_10 a0_11 a0_12 a0_13 a0_14 a0_15 a0_16 a0_17 a0_18 a0_19 a0_20 a0_21 a0_22 l1).bind fun t16 => (if (t12.1.toList == t16.1.toList) = true then (if (t12.2 == t16.2) = true then ((carillonlaw09_awake.f k ).bind fun t20 => (some t20)) else (some false)) else (some false))))) else ((carillonlaw09_awake.f k ).bind fun t11 => (some t11)))
abbrev carillonlaw09_FramePuts.v0 (x0 x1 x2 x3 x4 x5 x6 x7 x8 x9 x10 x11 x12 x13 x14 x15 x16 x17 x18 x19 x20 x21 x22 : Int) : Value := .agg #[.int .i64 x0, .int .i64 x1, .int .i64 x2, .int .i64 x3, .int .u64 x4, .int .i64 x5, .int .i64 x6, .int .i64 x7, .int .i64 x8, .int .u64 x9, .int .i64 x10, .int .i64 x11, .int .i64 x12, .int .i64 x13, .int .i64 x14, .int .i64 x15, .int .i64 x16, .int .u64 x17, .int .i64 x18, .int .i64 x19, .int .i64 x20, .int .i64 x21, .int .i64 x22]
abbrev carillonlaw09_FramePuts.c1 (x0 x1 x2 x3 x4 x5 x6 x7 x8 x9 x10 x11 x12 x13 x14 x15 x16 x17 x18 x19 x20 x21 x22 : Int) : Array Value := #[.int .i64 x0, .int .i64 x1, .int .i64 x2, .int .i64 x3, .int .u64 x4, .int .i64 x5, .int .i64 x6, .int .i64 x7, .int .i64 x8, .int .u64 x9, .int .i64 x10, .int .i64 x11, .int .i64 x12, .int .i64 x13, .int .i64 x14, .int .i64 x15, .int .i64 x16, .int .u64 x17, .int .i64 x18, .int .i64 x19, .int .i64 x20, .int .i64 x21, .int .i64 x22]
open Go.Proofs.Ytiomlbkakiienaa.E in
set_option maxHeartbeats 60000000 in
set_option maxRecDepth 100000 in
theorem carillonlaw09_FramePuts.calls (k : Nat) (an ao ap aq ar au av aw ax ay aa ab ac ad ae af ag ah ai aj ak al am : Int) (A1 : Option Addr) (aF : Nat) (l1 : List (S43)) (w : World) (HR1 : Kd.C k43 w A1 l1.length l1) (HC1 : l1.length ≤ aF) (h : carillonlaw09_FramePuts.f k an ao ap aq ar au av aw ax ay aa ab ac ad ae af ag ah ai aj ak al am l1 = some true) :
    Calls Try.prog 3 #[.agg #[.int .i64 an, .int .i64 ao, .int .i64 ap, .int .i64 aq, .int .u64 ar, .int .i64 au, .int .i64 av, .int .i64 aw, .int .i64 ax, .int .u64 ay, .int .i64 aa, .int .i64 ab, .int .i64 ac, .int .i64 ad, .int .i64 ae, .int .i64 af, .int .i64 ag, .int .u64 ah, .int .i64 ai, .int .i64 aj, .int .i64 ak, .int .i64 al, .int .i64 am], .slice A1 l1.length aF] w fun e w' => e = .returned (.bool true) ∧ Below w.heap.size w w' := by
 have H := h
 clear h
 unfold carillonlaw09_FramePuts.f at H
 obtain ⟨t7, aV, H⟩ := Option.bind_eq_some_iff.mp H
 by_cases c1 : t7 = true
 rotate_left
 ·rw [if_neg c1] at H
  obtain ⟨aE, aL, H⟩ := Option.bind_eq_some_iff.mp H
  have hret := Option.some.inj H
  clear H
  refine calls_of_wp (fn := Try.f3) (by kernel_rfl) rfl ?_
  have hS := St.enter #[(carillonlaw09_FramePuts.v0 an ao ap aq ar au av aw ax ay aa ab ac ad ae af ag ah ai aj ak al am), .slice A1 l1.length aF] 37 (by simp) [(0, (carillonlaw09_FramePuts.v0 an ao ap aq ar au av aw ax ay aa ab ac ad ae af ag ah ai aj ak al am)), (1, .slice A1 l1.length aF)] (by simp)
  have aO := Below.refl w.heap.size w
  refine wp_seq_k (fun K1 aP => ?_)
  refine reg_seq (I := I1_ w) (ps := [IsB (carillonlaw09_FramePuts.c1 an ao ap aq ar au av aw ax ay aa ab ac ad ae af ag ah ai aj ak al am) 28 w.heap.size, VB false]) (by kernel_rfl) ?_ ?_ rfl hS aO ?_ ?_
  ·exact bs1
  ·exact .cons (Stays.b _ _ _) (.v (.nil))
  ·refine .on rfl (fun a w hS hI hp => does_var (x_box rfl (congrArg Value.cells (hS.get 0 rfl))) (hI).size) ?_
   refine .on rfl (fun a w hS hI hp => does_val (x_assign rfl (rfl)) rfl) ?_
   exact .nil
  clear hS
  intro bc w3 hS aT hp
  replace hS := (hS.nil).cons (hS.get 1 rfl)
  obtain ⟨g4, aH, aU, aD⟩ := (show IsB _ 28 _ (sl _ 2) _ from hp 0 (by decide))
  have hS := hS.cons aH
  clear hp aH
  refine aP _ _ ?_
  refine wp_seq_k (fun K5 aW => ?_)
  refine wp_seq_k (fun K6 aQ => ?_)
  refine reg_seq (I := I2_ w w3) (ps := [IsV (.slice A1 l1.length aF), VB t7, VB (!t7)]) (by kernel_rfl) ?_ ?_ rfl hS ⟨aT, (bR w3)⟩ ?_ ?_
  ·exact bs2
  ·exact .v (.v (.v (.nil)))
  ·refine .ms 1 rfl rfl rfl ?_
   refine .on rfl (fun a w hS hI hp => does_call (by kernel_rfl) (ar1 (hp.V 0 rfl rfl)) ((carillonlaw09_few.calls k _ _ l1 t7 _ (Kd.C_below HR1 hI.1) HC1 aV).mono fun _ _ h => ⟨_, h.1, h.2.below, rfl⟩)) ?_
   refine .on rfl (fun a w hS hI hp => does_val (x_not rfl (hp.V 1 rfl rfl)) rfl) ?_
   exact .nil
  clear hS
  intro bd w9 hS aJ hp
  have aG : sl _ 11 = .bool (!t7) := hp 2 (by decide)
  have hS := hS.cons aG
  clear hp aG
  refine aQ _ _ ?_
  refine wp_cond_true ((hS.get 0 rfl).trans (bT (congrArg (!·) (Bool.eq_false_iff.2 c1)))) ?_
  refine wp_seq_k (fun bb aN => ?_)
  refine reg_seq (I := I3_ w w3 w9) (ps := [VB aE, VB aE]) (by kernel_rfl) ?_ ?_ rfl hS ⟨aJ.1, aJ.2, (bR w9)⟩ ?_ ?_
  ·exact bs3
  ·exact .v (.v (.nil))
  ·refine .on rfl (fun a w hS hI hp => does_call (by kernel_rfl) rfl ((carillonlaw09_awake.calls k  aE _  aL).mono fun _ _ h => ⟨_, h.1, h.2, rfl⟩)) ?_
   refine .asg 0 rfl rfl rfl ?_
   exact .nil
  clear hS
  intro bg bm hS a9 hp
  replace hS := hS.nil
  have aI : sl _ 4 = .bool aE := hp 1 (by decide)
  have hS := hS.cons aI
  clear hp aI
  refine aN _ _ ?_
  refine wp_ret ?_
  (try simp only [Exit.then, Exit.inBlock, Exit.jump, Exit.noGoto])
  exact bodyPost_ret (v := .bool true) (by rw [results_tmp rfl]; exact congrArg (Result.ok · _) ((hS.get 0 rfl).trans (congrArg Value.bool hret))) hS.nodef ⟨rfl, a9.1⟩
 rw [if_pos c1] at H
 obtain ⟨aE, aL, H⟩ := Option.bind_eq_some_iff.mp H
 obtain ⟨be, a4, H⟩ := Option.bind_eq_some_iff.mp H
 obtain ⟨aB, az⟩ := be
 (try dsimp only at H)
 obtain ⟨bf, a5, H⟩ := Option.bind_eq_some_iff.mp H
 obtain ⟨aC, aA⟩ := bf
 (try dsimp only at H)
 by_cases c2 : (aB.toList == aC.toList) = true
 rotate_left
 ·rw [if_neg c2] at H
  exact absurd H (by simp)
 rw [if_pos c2] at H
 by_cases c3 : (az == aA) = true
 rotate_left
 ·rw [if_neg c3] at H
  exact absurd H (by simp)
 rw [if_pos c3] at H
 obtain ⟨aK, a6, H⟩ := Option.bind_eq_some_iff.mp H
 have hret := Option.some.inj H
 clear H
 refine calls_of_wp (fn := Try.f3) (by kernel_rfl) rfl ?_
 have hS := St.enter #[(carillonlaw09_FramePuts.v0 an ao ap aq ar au av aw ax ay aa ab ac ad ae af ag ah ai aj ak al am), .slice A1 l1.length aF] 37 (by simp) [(0, (carillonlaw09_FramePuts.v0 an ao ap aq ar au av aw ax ay aa ab ac ad ae af ag ah ai aj ak al am)), (1, .slice A1 l1.length aF)] (by simp)
 have aO := Below.refl w.heap.size w
 refine wp_seq_k (fun K1 aP => ?_)
 refine reg_seq (I := I1_ w) (ps := [IsB (carillonlaw09_FramePuts.c1 an ao ap aq ar au av aw ax ay aa ab ac ad ae af ag ah ai aj ak al am) 28 w.heap.size, VB false]) (by kernel_rfl) ?_ ?_ rfl hS aO ?_ ?_
 ·exact bs1
 ·exact .cons (Stays.b _ _ _) (.v (.nil))
 ·refine .on rfl (fun a w hS hI hp => does_var (x_box rfl (congrArg Value.cells (hS.get 0 rfl))) (hI).size) ?_
  refine .on rfl (fun a w hS hI hp => does_val (x_assign rfl (rfl)) rfl) ?_
  exact .nil
 clear hS
 intro bc w3 hS aT hp
 replace hS := (hS.nil).cons (hS.get 1 rfl)
 obtain ⟨g4, aH, aU, aD⟩ := (show IsB _ 28 _ (sl _ 2) _ from hp 0 (by decide))
 have hS := hS.cons aH
 clear hp aH
 refine aP _ _ ?_
 refine wp_seq_k (fun K5 aW => ?_)
 refine wp_seq_k (fun K6 aQ => ?_)
 refine reg_seq (I := I2_ w w3) (ps := [IsV (.slice A1 l1.length aF), VB t7, VB (!t7)]) (by kernel_rfl) ?_ ?_ rfl hS ⟨aT, (bR w3)⟩ ?_ ?_
 ·exact bs2
 ·exact .v (.v (.v (.nil)))
 ·refine .ms 1 rfl rfl rfl ?_
  refine .on rfl (fun a w hS hI hp => does_call (by kernel_rfl) (ar1 (hp.V 0 rfl rfl)) ((carillonlaw09_few.calls k _ _ l1 t7 _ (Kd.C_below HR1 hI.1) HC1 aV).mono fun _ _ h => ⟨_, h.1, h.2.below, rfl⟩)) ?_
  refine .on rfl (fun a w hS hI hp => does_val (x_not rfl (hp.V 1 rfl rfl)) rfl) ?_
  exact .nil
 clear hS
 intro bd w9 hS aJ hp
 have aG : sl _ 11 = .bool (!t7) := hp 2 (by decide)
 have hS := hS.cons aG
 clear hp aG
 refine aQ _ _ ?_
 refine wp_cond_false ((hS.get 0 rfl).trans (bF (congrArg (!·) c1))) ?_
 refine wp_skip ?_
 refine aW _ _ ?_
 refine wp_seq_k (fun bb aN => ?_)
 refine reg_any (I := I3_ w w3 w9) (ps := [IsV ((carillonlaw09_FramePuts.v0 an ao ap aq ar au av aw ax ay aa ab ac ad ae af ag ah ai aj ak al am)), IsV (.slice A1 l1.length aF), IsR k43 43 w9.heap.size aE, IsV (.tuple #[.string aB, .bool az]), IsV (.tuple #[.string aB, .bool az]), IsV (.string aB), VB az, IsV (.string aB), VB az]) (by kernel_rfl) (by kernel_rfl) ?_ ?_ rfl hS ⟨aJ.1, aJ.2, (bR w9)⟩ ?_ ?_
 ·exact bs3
 ·exact .v (.v (.cons (Stays.r _ _ _ _) (.v (.v (.v (.v (.v (.v (.nil)))))))))
 ·refine .on rfl (fun a w hS hI hp => does_loadrow rfl (hS.get 1 rfl) (((hI.2.1).block g4 (blk_lt aD)).trans aD) Try.underlying28 rfl (by kernel_rfl) rfl) ?_
  refine .ms 2 rfl rfl rfl ?_
  refine .on rfl (fun a w hS hI hp => does_call (by kernel_rfl) (ar1 (hp.V 1 rfl rfl)) ((carillonlaw00_Tlvs.calls _ _ l1 aE _ (Kd.C_below HR1 hI.1) HC1 aL).mono fun _ _ h => h.elim fun v0 h => ⟨v0, h.1, h.2.2, Kd.R_lower h.2.1 hI.2.2.size⟩)) ?_
  refine .on rfl (fun a w hS hI hp => (IsC.of_r (hp.V 2 rfl rfl)).elim fun A_ h_ => h_.elim fun c_ h_ => h_.elim fun hv_ h_ => h_.elim fun hl_ hc_ => does_call (by kernel_rfl) (ar2 (hp.V 0 rfl rfl) (hv_)) ((frame_Put.calls k an ao ap aq ar au av aw ax ay aa ab ac ad ae af ag ah ai aj ak al am _ _ aE aB az _ hc_ hl_ a4).mono fun _ _ h => ⟨_, h.1, h.2, rfl⟩)) ?_
  refine .mv 3 rfl rfl rfl ?_
  iterate 2 refine .on rfl (fun a w hS hI hp => does_val (x_extract rfl (hp.V 4 rfl rfl) rfl) rfl) ?_
  refine .asg 5 rfl rfl rfl ?_
  refine .asg 6 rfl rfl rfl ?_
  exact .nil
 clear hS
 intro bh a2 hS aR hp
 replace hS := ((hS.nil).cons (hS.get 2 rfl)).cons (hS.get 1 rfl)
 have aX : sl _ 5 = .string aB := hp 7 (by decide)
 have aY : sl _ 6 = .bool az := hp 8 (by decide)
 have hS := hS.cons aX
 have hS := hS.cons aY
 clear hp aX aY
 refine aN _ _ ?_
 refine wp_seq_k (fun bk a7 => ?_)
 refine reg_seq (I := I3_ w w3 a2) (ps := [IsV ((carillonlaw09_FramePuts.v0 an ao ap aq ar au av aw ax ay aa ab ac ad ae af ag ah ai aj ak al am)), IsV (.slice A1 l1.length aF), IsV (.tuple #[.string aC, .bool aA]), IsV (.tuple #[.string aC, .bool aA]), IsV (.string aC), VB aA, IsV (.string aC), VB aA]) (by kernel_rfl) ?_ ?_ rfl hS ⟨aR.1, aR.2.1, (bR a2)⟩ ?_ ?_
 ·exact bs3
 ·exact .v (.v (.v (.v (.v (.v (.v (.v (.nil))))))))
 ·refine .on rfl (fun a w hS hI hp => does_loadrow rfl (hS.get 2 rfl) (((hI.2.1).block g4 (blk_lt aD)).trans aD) Try.underlying28 rfl (by kernel_rfl) rfl) ?_
  refine .ms 3 rfl rfl rfl ?_
  refine .on rfl (fun a w hS hI hp => does_call (by kernel_rfl) (ar2 (hp.V 0 rfl rfl) (hp.V 1 rfl rfl)) ((carillonref09_Put.calls k an ao ap aq ar au av aw ax ay aa ab ac ad ae af ag ah ai aj ak al am _ _ l1 aC aA _ (Kd.C_below HR1 hI.1) HC1 a5).mono fun _ _ h => ⟨_, h.1, h.2, rfl⟩)) ?_
  refine .mv 2 rfl rfl rfl ?_
  iterate 2 refine .on rfl (fun a w hS hI hp => does_val (x_extract rfl (hp.V 3 rfl rfl) rfl) rfl) ?_
  refine .asg 4 rfl rfl rfl ?_
  refine .asg 5 rfl rfl rfl ?_
  exact .nil
 clear hS
 intro bi a3 hS aS hp
 replace hS := ((hS.nil).cons (hS.get 1 rfl)).cons (hS.get 0 rfl)
 have aZ : sl _ 7 = .string aC := hp 6 (by decide)
 have a0 : sl _ 8 = .bool aA := hp 7 (by decide)
 have hS := hS.cons aZ
 have hS := hS.cons a0
 clear hp aZ a0
 refine a7 _ _ ?_
 refine wp_seq_k (fun bl a8 => ?_)
 refine reg_seq (I := I3_ w w3 a3) (ps := [IsV (.string aB), IsV (.string aC), VB (aB.toList == aC.toList), VB (aB.toList == aC.toList), VB az, VB aA, VB (az == aA), VB (az == aA), VB (az == aA), VB aK, VB aK, VB aK]) (by kernel_rfl) ?_ ?_ rfl hS ⟨aS.1, aS.2.1, (bR a3)⟩ ?_ ?_
 ·exact bs3
 ·exact .v (.v (.v (.v (.v (.v (.v (.v (.v (.v (.v (.v (.nil))))))))))))
 ·refine .ms 3 rfl rfl rfl ?_
  refine .ms 1 rfl rfl rfl ?_
  refine .on rfl (fun a w hS hI hp => does_val (x_bin rfl (hp.V 0 rfl rfl) (hp.V 1 rfl rfl) (b_eqs _ _ _ _ _)) rfl) ?_
  refine .mv 2 rfl rfl rfl ?_
  refine .oy 3 29 rfl rfl c2 (fun a w hS hI hp => does_val (x_move rfl (hS.get 2 rfl)) rfl) ?_
  refine .oy 3 29 rfl rfl c2 (fun a w hS hI hp => does_val (x_move rfl (hS.get 0 rfl)) rfl) ?_
  refine .oy 3 29 rfl rfl c2 (fun a w hS hI hp => does_val (x_bin rfl (hp.V 4 rfl rfl) (hp.V 5 rfl rfl) (b_eqb _ _ _ _ _ (by kernel_rfl))) rfl) ?_
  refine .pt 3 6 rfl rfl rfl c2 rfl ?_
  refine .mv 7 rfl rfl rfl ?_
  refine .oy 8 34 rfl rfl c3 (fun a w hS hI hp => does_call (by kernel_rfl) rfl ((carillonlaw09_awake.calls k  aK _  a6).mono fun _ _ h => ⟨_, h.1, h.2, rfl⟩)) ?_
  refine .pt 8 9 rfl rfl rfl c3 rfl ?_
  refine .asg 10 rfl rfl rfl ?_
  exact .nil
 clear hS
 intro bj bn hS ba hp
 replace hS := hS.nil
 have aI : sl _ 4 = .bool aK := hp 11 (by decide)
 have hS := hS.cons aI
 clear hp aI
 refine a8 _ _ ?_
 refine wp_ret ?_
 (try simp only [Exit.then, Exit.inBlock, Exit.jump, Exit.noGoto])
 exact bodyPost_ret (v := .bool true) (by rw [results_tmp rfl]; exact congrArg (Result.ok · _) ((hS.get 0 rfl).trans (congrArg Value.bool hret))) hS.nodef ⟨rfl, ba.1⟩
def carillonlaw09_FramePuts.Pure : Prop := ∀ (an ao ap aq ar au av aw ax ay aa ab ac ad ae af ag ah ai aj ak al am : Int) (l1 : List (S43)), (Lit.int .i64 an).wf = true → (Lit.int .i64 ao).wf = true → (Lit.int .i64 ap).wf = true → (Lit.int .i64 aq).wf = true → (Lit.int .u64 ar).wf = true → (Lit.int .i64 au).wf = true → (Lit.int .i64 av).wf = true → (Lit.int .i64 aw).wf = true → (Lit.int .i64 ax).wf = true → (Lit.int .u64 ay).wf = true → (Lit.int .i64 aa).wf = true → (Lit.int .i64 ab).wf = true → (Lit.int .i64 ac).wf = true → (Lit.int .i64 ad).wf = true → (Lit.int .i64 ae).wf = true → (Lit.int .i64 af).wf = true → (Lit.int .i64 ag).wf = true → (Lit.int .u64 ah).wf = true → (Lit.int .i64 ai).wf = true → (Lit.int .i64 aj).wf = true → (Lit.int .i64 ak).wf = true → (Lit.int .i64 al).wf = true → (Lit.int .i64 am).wf = true → l1.length ≤ maxLen → l1.length * 24 ≤ 140737488351232 → (∀ x ∈ l1, (Lit.int .i64 x.f0).wf = true ∧ x.f1.size ≤ 9223372036854775807) → ∃ k, carillonlaw09_FramePuts.f k an ao ap aq ar au av aw ax ay aa ab ac ad ae af ag ah ai aj ak al am l1 = some true
theorem carillonlaw09_FramePuts.walk (P : carillonlaw09_FramePuts.Pure) (an ao ap aq ar au av aw ax ay aa ab ac ad ae af ag ah ai aj ak al am : Int) (a1 : Option Addr) (aM : Nat) (l1 : List (S43)) (w : World) (w0_0 : (Lit.int .i64 an).wf = true) (w0_1 : (Lit.int .i64 ao).wf = true) (w0_2 : (Lit.int .i64 ap).wf = true) (w0_3 : (Lit.int .i64 aq).wf = true) (w0_4 : (Lit.int .u64 ar).wf = true) (w0_5 : (Lit.int .i64 au).wf = true) (w0_6 : (Lit.int .i64 av).wf = true) (w0_7 : (Lit.int .i64 aw).wf = true) (w0_8 : (Lit.int .i64 ax).wf = true) (w0_9 : (Lit.int .u64 ay).wf = true) (w0_10 : (Lit.int .i64 aa).wf = true) (w0_11 : (Lit.int .i64 ab).wf = true) (w0_12 : (Lit.int .i64 ac).wf = true) (w0_13 : (Lit.int .i64 ad).wf = true) (w0_14 : (Lit.int .i64 ae).wf = true) (w0_15 : (Lit.int .i64 af).wf = true) (w0_16 : (Lit.int .i64 ag).wf = true) (w0_17 : (Lit.int .u64 ah).wf = true) (w0_18 : (Lit.int .i64 ai).wf = true) (w0_19 : (Lit.int .i64 aj).wf = true) (w0_20 : (Lit.int .i64 ak).wf = true) (w0_21 : (Lit.int .i64 al).wf = true) (w0_22 : (Lit.int .i64 am).wf = true) (hr1 : Kd.C k43 w a1 l1.length l1) (hc1 : l1.length ≤ aM) (hm1 : l1.length ≤ maxLen) (y1 : l1.length * 24 ≤ 140737488351232) (hw1 : (∀ x ∈ l1, (Lit.int .i64 x.f0).wf = true ∧ x.f1.size ≤ 9223372036854775807)) :
  Calls Try.prog 3 #[(carillonlaw09_FramePuts.v0 an ao ap aq ar au av aw ax ay aa ab ac ad ae af ag ah ai aj ak al am), .slice a1 l1.length aM] w fun e w' => e = .returned (.bool true) ∧ Below w.heap.size w w' := by
 obtain ⟨k, h⟩ := P an ao ap aq ar au av aw ax ay aa ab ac ad ae af ag ah ai aj ak al am l1 w0_0 w0_1 w0_2 w0_3 w0_4 w0_5 w0_6 w0_7 w0_8 w0_9 w0_10 w0_11 w0_12 w0_13 w0_14 w0_15 w0_16 w0_17 w0_18 w0_19 w0_20 w0_21 w0_22 hm1 y1 hw1
 refine (carillonlaw09_FramePuts.calls k an ao ap aq ar au av aw ax ay aa ab ac ad ae af ag ah ai aj ak al am a1 aM l1 w hr1 hc1 h).mono ?_
 rintro e w' ⟨rfl, hd⟩
 exact ⟨rfl, hd⟩
end Go.Proofs.Ytiomlbkakiienaa.P
