/- Functions and loops of the given program as Lean functions, and that the code comes to what they say: written by this session's own program; Lean checks it. -/
import Derived.Test.YtgmiokocipmbaaaZzPx0
import Derived.Test.YtgmiokocipmbaaaZzPx1
import Derived.Test.YtgmiokocipmbaaaZzPx2
namespace Go.Proofs.Ytgmiokocipmbaaa.P
open Go.RowKit Go.Proofs.YtgmiokocipmbaaaW.PrintWords Go.Proofs.YtgmiokocipmbaaaW.PrintLast Go.Proofs.YtgmiokocipmbaaaW.PrintMore
attribute [local go_sem] max2_int min2_int max_two min_two max_three min_three max_four min_four   -- for this text's walks alone
set_option linter.unusedVariables false
set_option linter.unusedSimpArgs false
def carillonlaw08_TlvLimits.f (k : Nat)  : Option (Bool) := (tlv_Put.f k (List.replicate (8 : Int).toNat z26)).bind fun t9 => (if ((List.replicate (8 : Int).toNat z26).length + [(⟨0, (⟨#[]⟩ : ByteArray)⟩ : S26)].length) * 24 ≤ 140737488355328 then ((tlv_Put.f k ((List.replicate (8 : Int).toNat z26) ++ [(⟨0, (⟨#[]⟩ : ByteArray)⟩ : S26)] : List S26)).bind fun t22 => ((tlv_Get.f k t9.1 0).bind fun t36 => (if (t9.1.length + [0, 0, 0, 0].length) * 1 ≤ 140737488355328 then ((tlv_Get.f k (t9.1 ++ [0, 0, 0, 0] : List Int) 0).bind fun t48 => (if (t9.1.length + [0].length) * 1 ≤ 140737488355328 then ((tlv_Get.f k (t9.1 ++ [0] : List Int) 0).bind fun t69 => ((tlv_Path.f k (List.replicate (16 : Int).toNat (0 : Int))).bind fun t83 => ((tlv_Path.f k (List.replicate (17 : Int).toNat (0 : Int))).bind fun t91 => ((tlv_Manage.f 7 (strOfNums (List.replicate (398 : Int).toNat (0 : Int)))).bind fun t99 => ((tlv_Manage.f 7 (strOfNums (List.replicate (399 : Int).toNat (0 : Int)))).bind fun t107 => (if t9.2 = true then (if t22.2 = true then (some false) else (if t36.2 = 0 then (if t48.2 = 7 then (if t69.2 = 7 then (if t83.2.2 = true then (if t91.2.2 = true then (some false) else (if t99.2.2 = true then (if t107.2.2 = true then (some false) else ((carillonlaw08_awake.f k ).bind fun t115 => (some t115))) else (some false))) else (some false)) else (some false)) else (some false)) else (some false))) else (some false))))))) else (none))) else (none)))) else (none))
open Go.Proofs.Ytgmiokocipmbaaa.E in
theorem carillonlaw08_TlvLimits.flat26 : Flat k26 (fun x => [.int .i64 x.f0, .string x.f1]) := ⟨fun w x cs h => k26_open h, fun w base x => k26_mkM w base _ x⟩
open Go.Proofs.Ytgmiokocipmbaaa.E in
set_option maxHeartbeats 60000000 in
set_option maxRecDepth 100000 in
theorem carillonlaw08_TlvLimits.calls (k : Nat) (w : World) (h : carillonlaw08_TlvLimits.f k  = some true) :
    Calls Try.prog 7 #[] w fun e w' => e = .returned (.bool true) ∧ Below w.heap.size w w' := by
 have H := h
 clear h
 unfold carillonlaw08_TlvLimits.f at H
 obtain ⟨t9, fe, H⟩ := Option.bind_eq_some_iff.mp H
 obtain ⟨aa, au⟩ := t9
 (try dsimp only at H)
 by_cases c1 : ((List.replicate (8 : Int).toNat z26).length + [(⟨0, (⟨#[]⟩ : ByteArray)⟩ : S26)].length) * 24 ≤ 140737488355328
 rotate_left
 ·rw [if_neg c1] at H
  exact absurd H (by simp)
 rw [if_pos c1] at H
 obtain ⟨fv, em, H⟩ := Option.bind_eq_some_iff.mp H
 obtain ⟨ag, ab⟩ := fv
 (try dsimp only at H)
 obtain ⟨fw, en, H⟩ := Option.bind_eq_some_iff.mp H
 obtain ⟨aP, ao⟩ := fw
 (try dsimp only at H)
 by_cases c2 : (aa.length + [0, 0, 0, 0].length) * 1 ≤ 140737488355328
 rotate_left
 ·rw [if_neg c2] at H
  exact absurd H (by simp)
 rw [if_pos c2] at H
 obtain ⟨fx, eo, H⟩ := Option.bind_eq_some_iff.mp H
 obtain ⟨ah, ac⟩ := fx
 (try dsimp only at H)
 by_cases c3 : (aa.length + [0].length) * 1 ≤ 140737488355328
 rotate_left
 ·rw [if_neg c3] at H
  exact absurd H (by simp)
 rw [if_pos c3] at H
 obtain ⟨fy, ep, H⟩ := Option.bind_eq_some_iff.mp H
 obtain ⟨ai, ad⟩ := fy
 (try dsimp only at H)
 obtain ⟨fz, eq, H⟩ := Option.bind_eq_some_iff.mp H
 obtain ⟨aC, aD, al⟩ := fz
 (try dsimp only at H)
 obtain ⟨fA, er, H⟩ := Option.bind_eq_some_iff.mp H
 obtain ⟨aE, aF, aj⟩ := fA
 (try dsimp only at H)
 obtain ⟨fB, es, H⟩ := Option.bind_eq_some_iff.mp H
 obtain ⟨aG, aH, am⟩ := fB
 (try dsimp only at H)
 obtain ⟨eM, dY, H⟩ := Option.bind_eq_some_iff.mp H
 obtain ⟨aq, ar, af⟩ := eM
 (try dsimp only at H)
 by_cases c4 : au = true
 rotate_left
 ·rw [if_neg c4] at H
  exact absurd H (by simp)
 rw [if_pos c4] at H
 by_cases c5 : ab = true
 ·rw [if_pos c5] at H
  exact absurd H (by simp)
 rw [if_neg c5] at H
 by_cases c6 : ao = 0
 rotate_left
 ·rw [if_neg c6] at H
  exact absurd H (by simp)
 rw [if_pos c6] at H
 by_cases c7 : ac = 7
 rotate_left
 ·rw [if_neg c7] at H
  exact absurd H (by simp)
 rw [if_pos c7] at H
 by_cases c8 : ad = 7
 rotate_left
 ·rw [if_neg c8] at H
  exact absurd H (by simp)
 rw [if_pos c8] at H
 by_cases c9 : al = true
 rotate_left
 ·rw [if_neg c9] at H
  exact absurd H (by simp)
 rw [if_pos c9] at H
 by_cases cP : aj = true
 ·rw [if_pos cP] at H
  exact absurd H (by simp)
 rw [if_neg cP] at H
 by_cases bC : am = true
 rotate_left
 ·rw [if_neg bC] at H
  exact absurd H (by simp)
 rw [if_pos bC] at H
 by_cases cQ : af = true
 ·rw [if_pos cQ] at H
  exact absurd H (by simp)
 rw [if_neg cQ] at H
 obtain ⟨a2, dZ, H⟩ := Option.bind_eq_some_iff.mp H
 have hret := Option.some.inj H
 clear H
 refine calls_of_wp (fn := Try.f7) (by kernel_rfl) rfl ?_
 have hS := St.enter #[] 109 (by simp) [] (by simp)
 have fl := Below.refl w.heap.size w
 refine wp_seq_k (fun K1 fm => ?_)
 refine reg_seq (I := I1_ w) (ps := [VB false]) (by kernel_rfl) ?_ ?_ rfl hS fl ?_ ?_
 ·exact bs1
 ·exact .v (.nil)
 ·refine .on rfl (fun a w hS hI hp => does_val (x_assign rfl (rfl)) rfl) ?_
  exact .nil
 clear hS
 intro g9 w3 hS cR hp
 clear hp
 refine fm _ _ ?_
 refine wp_seq_k (fun K4 fo => ?_)
 refine reg_seq (I := I2_ w w3) (ps := [IsR k26 26 w3.heap.size (List.replicate (8 : Int).toNat z26), IsR k26 26 w3.heap.size (List.replicate (8 : Int).toNat z26)]) (by kernel_rfl) ?_ ?_ rfl hS ⟨cR, (bR w3)⟩ ?_ ?_
 ·exact bs2
 ·exact .cons (Stays.r _ _ _ _) (.cons (Stays.r _ _ _ _) (.nil))
 ·refine .on rfl (fun a w hS hI hp => does_make carillonlaw08_TlvLimits.flat26 w3.heap.size 22 26 (.const (.int .i64 8)) (.const (.int .i64 8)) rfl rfl 8 (rfl) (rfl) (by kernel_rfl) (.agg #[(.int .i64 0), (.string ⟨#[]⟩)]) z26 24 (by kernel_rfl) rfl (by decide) (by decide) (by decide) (by decide) (hI.2).size) ?_
  refine .on rfl (fun a w hS hI hp => does_val (x_assign rfl rfl) (hp.V 0 rfl rfl)) ?_
  exact .nil
 clear hS
 intro ha w6 hS dR hp
 obtain ⟨A7, C7, dz, ft, fs⟩ := Kd.R_reads (show Kd.R k26 26 w6 w3.heap.size (fun _ => True) (sl _ 1) (List.replicate (8 : Int).toNat z26) from hp 1 (by decide))
 have fu : Kd.R k26 26 w6 w3.heap.size (fun _ => True) (.slice A7 (List.replicate (8 : Int).toNat z26).length C7) (List.replicate (8 : Int).toNat z26) := dz ▸ (hp 1 (by decide))
 have hS := hS.cons dz
 clear hp dz
 refine fo _ _ ?_
 refine wp_seq_k (fun K8 fp => ?_)
 refine reg_seq (I := I3_ w w3 w6) (ps := [IsV (.slice A7 ((List.replicate (8 : Int).toNat z26).length) C7), IsT (fun v0_ => #[v0_, .bool au]) (IsR (Kd.int .u8) 5 w6.heap.size aa), IsT (fun v0_ => #[v0_, .bool au]) (IsR (Kd.int .u8) 5 w6.heap.size aa), IsR (Kd.int .u8) 5 w6.heap.size aa, VB au, IsR (Kd.int .u8) 5 w6.heap.size aa, VB au]) (by kernel_rfl) ?_ ?_ rfl hS ⟨dR.1, dR.2, (bR w6)⟩ ?_ ?_
 ·exact bs3
 ·exact .v (.cons (Stays.t _ (Stays.r _ _ _ _)) (.cons (Stays.t _ (Stays.r _ _ _ _)) (.cons (Stays.r _ _ _ _) (.v (.cons (Stays.r _ _ _ _) (.v (.nil)))))))
 ·refine .ms 0 rfl rfl rfl ?_
  refine .on rfl (fun a w hS hI hp => does_call (by kernel_rfl) (ar2 (rfl) (hp.V 0 rfl rfl)) ((tlv_Put.calls k _ _ (List.replicate (8 : Int).toNat z26) aa au _ (Kd.C_below fs hI.2.2) ft fe).mono fun _ _ h => h.elim fun v0 h => ⟨_, h.1, h.2.2, v0, rfl, Kd.R_lower h.2.1 hI.2.2.size⟩)) ?_
  refine .on rfl (fun a w hS hI hp => does_val (x_move rfl rfl) (hp.V 1 rfl rfl)) ?_
  refine .on rfl (fun a w hS hI hp => (hp.V 2 rfl rfl).elim fun v0 h0 => does_val (x_extract rfl h0.1 rfl) h0.2) ?_
  refine .on rfl (fun a w hS hI hp => (hp.V 2 rfl rfl).elim fun v0 h0 => does_val (x_extract rfl h0.1 rfl) rfl) ?_
  refine .on rfl (fun a w hS hI hp => does_val (x_assign rfl rfl) (hp.V 3 rfl rfl)) ?_
  refine .asg 4 rfl rfl rfl ?_
  exact .nil
 clear hS
 intro f5 aY hS cL hp
 obtain ⟨bb, bc, dE, eH, gA⟩ := Kd.R_reads (show Kd.R (Kd.int .u8) 5 aY w6.heap.size (fun _ => True) (sl _ 2) aa from hp 5 (by decide))
 have eL : Kd.R (Kd.int .u8) 5 aY w6.heap.size (fun _ => True) (.slice bb aa.length bc) aa := dE ▸ (hp 5 (by decide))
 have ek : sl _ 3 = .bool au := hp 6 (by decide)
 have hS := hS.cons dE
 have hS := hS.cons ek
 clear hp dE ek
 refine fp _ _ ?_
 refine wp_seq_k (fun g2 et => ?_)
 refine reg_seq_tail 3 (I := I4_ w w3 w6 aY) (ps := [IsV (.slice A7 ((List.replicate (8 : Int).toNat z26).length) C7), IsV (.agg #[.int .i64 0, .string (⟨#[]⟩ : ByteArray)]), IsR k26 26 aY.heap.size [(⟨0, (⟨#[]⟩ : ByteArray)⟩ : S26)]]) (by kernel_rfl) ?_ ?_ rfl hS ⟨cL.1, cL.2.1, cL.2.2, (bR aY)⟩ ?_ ?_
 ·exact bs4
 ·exact .v (.v (.cons (Stays.r _ _ _ _) (.nil)))
 ·refine .ms 2 rfl rfl rfl ?_
  refine .on rfl (fun a w hS hI hp => does_val (x_build (vs := []) rfl (by rw [Array.toList_map]; exact (show [] = _ from rfl)) (by kernel_rfl)) rfl) ?_
  refine .on rfl (fun a w hS hI hp => does_litT carillonlaw08_TlvLimits.flat26 aY.heap.size 22 26 _ [(0, .agg #[.int .i64 0, .string (⟨#[]⟩ : ByteArray)])] (⟨0, (⟨#[]⟩ : ByteArray)⟩ : S26) rfl (by kernel_rfl) (by rw [Array.toList_map]; exact (show [(0, a.eval (.tmp 28))] = _ from (li_cons (hp.V 1 rfl rfl) rfl))) (by kernel_rfl) (hI.2.2.2).size) ?_
  exact .nil
 clear hS
 intro f6 dV hS cM hp
 replace hS := ((hS.nil).cons (hS.get 1 rfl)).cons (hS.get 0 rfl)
 have dF : sl _ 27 = .slice A7 ((List.replicate (8 : Int).toNat z26).length) C7 := hp 0 (by decide)
 obtain ⟨e8, ff, cI, gE, eA⟩ := Kd.R_reads (show Kd.R k26 26 dV aY.heap.size (fun _ => True) (sl _ 29) [(⟨0, (⟨#[]⟩ : ByteArray)⟩ : S26)] from hp 2 (by decide))
 have gK : Kd.R k26 26 dV aY.heap.size (fun _ => True) (.slice e8 [(⟨0, (⟨#[]⟩ : ByteArray)⟩ : S26)].length ff) [(⟨0, (⟨#[]⟩ : ByteArray)⟩ : S26)] := cI ▸ (hp 2 (by decide))
 have hS := hS.cons dF
 have hS := hS.cons cI
 clear hp dF cI
 show wpList _ _ _ [_, _, _, _, _, _, _] _ _
 refine list_step rfl (does_moreT carillonlaw08_TlvLimits.flat26 (W := w3) (.tmp 27) (.tmp 29) 22 26 (.agg #[(.int .i64 0), (.string ⟨#[]⟩)]) 24 rfl (by kernel_rfl) (by kernel_rfl) rfl (by decide) (by decide) _ (List.replicate (8 : Int).toNat z26) [(⟨0, (⟨#[]⟩ : ByteArray)⟩ : S26)] _ _ _ (hS.get 1 rfl) (hS.get 0 rfl) (Kd.R_below fu cM.2.2.1) (Kd.C_below eA (bR dV)) cM.2.1 c1) ?_
 rintro gT aZ ⟨hb, hr, hk⟩
 have dv := Kd.R_lower (keepT_row hk rfl (Kd.R_below eL cM.2.2.2) (by decide)) (dR.2).size
 have eB := (Kd.R_reads' dv).2.2
 clear hk
 have cW := below_step cR hb
 have cm := hb
 replace hS := ((hS.nil).cons (hS.get 3 rfl)).cons (hS.get 2 rfl)
 obtain ⟨e9, fg, rfl, eI, eC⟩ := Kd.R_reads hr
 have gQ := hr
 clear hr
 refine hS.next (v := .slice e9 (((List.replicate (8 : Int).toNat z26) ++ [(⟨0, (⟨#[]⟩ : ByteArray)⟩ : S26)] : List S26).length) fg) (d := 30) rfl (by decide) (by rfl) ?_
 clear hS
 intro f8 hS
 refine list_step rfl (R := fun v w' => Below _ _ w' ∧ (IsT (fun v0_ => #[v0_, .bool ab]) (IsR (Kd.int .u8) 5 aZ.heap.size ag)) v w') (does_call (by kernel_rfl) (ar2 (rfl) (hS.get 0 rfl)) ((tlv_Put.calls k _ _ ((List.replicate (8 : Int).toNat z26) ++ [(⟨0, (⟨#[]⟩ : ByteArray)⟩ : S26)] : List S26) ag ab _ (Kd.C_below eC (bR aZ)) eI em).mono fun _ _ h => h.elim fun v0 h => ⟨_, h.1, h.2.2, v0, rfl, Kd.R_lower h.2.1 (bR aZ).size⟩)) ?_
 rintro gU cS ⟨hb, he⟩
 have cX := below_step cW hb
 have cn := below_step cm hb
 have bD := below_step (bR aZ) hb
 obtain ⟨fC, rfl, dw⟩ := he
 obtain ⟨av, ay, rfl, gF, gB⟩ := Kd.R_reads (show Kd.R (Kd.int .u8) 5 cS aZ.heap.size (fun _ => True) fC ag from dw)
 have gL : Kd.R (Kd.int .u8) 5 cS aZ.heap.size (fun _ => True) (.slice av ag.length ay) ag := dw
 refine hS.next (v := .tuple #[.slice av ag.length ay, .bool ab]) (d := 31) rfl (by decide) (by rfl) ?_
 clear hS
 intro f9 hS
 refine list_step rfl (R := fun v w' => Below _ _ w' ∧ (IsV (.tuple #[.slice av ag.length ay, .bool ab])) v w') (does_val (x_move rfl (hS.get 0 rfl)) rfl) ?_
 rintro eN fF ⟨hb, he⟩
 have cY := below_step cX hb
 have co := below_step cn hb
 have bE := below_step bD hb
 have bF := below_step (bR cS) hb
 obtain rfl : eN = .tuple #[.slice av ag.length ay, .bool ab] := he
 refine hS.next (v := .tuple #[.slice av ag.length ay, .bool ab]) (d := 26) rfl (by decide) (by rfl) ?_
 clear hS
 intro ga hS
 refine list_step rfl (R := fun v w' => Below _ _ w' ∧ (IsV (.slice av ag.length ay)) v w') (does_val (x_extract rfl (hS.get 0 rfl) rfl) rfl) ?_
 rintro eO fG ⟨hb, he⟩
 have cZ := below_step cY hb
 have cp := below_step co hb
 have bG := below_step bE hb
 have bH := below_step bF hb
 have d7 := below_step (bR fF) hb
 obtain rfl : eO = .slice av ag.length ay := he
 refine hS.next (v := .slice av ag.length ay) (d := 32) rfl (by decide) (by rfl) ?_
 clear hS
 intro gb hS
 refine list_step rfl (R := fun v w' => Below _ _ w' ∧ (VB ab) v w') (does_val (x_extract rfl (hS.get 1 rfl) rfl) rfl) ?_
 rintro eP fH ⟨hb, he⟩
 have c0 := below_step cZ hb
 have cq := below_step cp hb
 have bI := below_step bG hb
 have bJ := below_step bH hb
 have d8 := below_step (bR fG) hb
 obtain rfl : eP = .bool ab := he
 refine hS.next (v := .bool ab) (d := 33) rfl (by decide) (by rfl) ?_
 clear hS
 intro gc hS
 refine list_step rfl (R := fun v w' => Below _ _ w' ∧ (IsV (.slice av ag.length ay)) v w') (does_val (x_assign rfl (hS.get 1 rfl)) rfl) ?_
 rintro eQ fI ⟨hb, he⟩
 have da := below_step c0 hb
 have cr := below_step cq hb
 have bK := below_step bI hb
 have bL := below_step bJ hb
 have d9 := below_step (bR fH) hb
 obtain rfl : eQ = .slice av ag.length ay := he
 refine hS.next (v := .slice av ag.length ay) (d := 4) rfl (by decide) (by rfl) ?_
 clear hS
 intro gd hS
 refine list_step rfl (R := fun v w' => Below _ _ w' ∧ (VB ab) v w') (does_val (x_assign rfl (hS.get 1 rfl)) rfl) ?_
 rintro eR bi ⟨hb, he⟩
 have db := below_step da hb
 have ct := below_step cr hb
 have bM := below_step bK hb
 have bN := below_step bL hb
 have ea := below_step (bR fI) hb
 obtain rfl : eR = .bool ab := he
 refine hS.next (v := .bool ab) (d := 5) rfl (by decide) (by rfl) ?_
 clear hS
 intro ge hS
 refine wpList_nil ?_
 refine et _ _ ?_
 refine wp_seq_k (fun g3 eu => ?_)
 refine reg_seq (I := I5_ w w3 aZ cS bi) (ps := [IsV (.slice bb aa.length bc), IsT (fun v0_ => #[v0_, .int .i64 ao]) (IsR k26 26 bi.heap.size aP), IsT (fun v0_ => #[v0_, .int .i64 ao]) (IsR k26 26 bi.heap.size aP), IsR k26 26 bi.heap.size aP, VI ao, IsR k26 26 bi.heap.size aP, VI ao]) (by kernel_rfl) ?_ ?_ rfl hS ⟨db, ct, bM, bN, (bR bi)⟩ ?_ ?_
 ·exact bs5
 ·exact .v (.cons (Stays.t _ (Stays.r _ _ _ _)) (.cons (Stays.t _ (Stays.r _ _ _ _)) (.cons (Stays.r _ _ _ _) (.v (.cons (Stays.r _ _ _ _) (.v (.nil)))))))
 ·refine .ms 8 rfl rfl rfl ?_
  refine .on rfl (fun a w hS hI hp => does_call (by kernel_rfl) (ar2 (hp.V 0 rfl rfl) (rfl)) ((tlv_Get.calls k _ _ aa 0 aP ao _ (Kd.C_below eB hI.2.2.1) eH en).mono fun _ _ h => h.elim fun v0 h => ⟨_, h.1, h.2.2, v0, rfl, Kd.R_lower h.2.1 hI.2.2.2.2.size⟩)) ?_
  refine .on rfl (fun a w hS hI hp => does_val (x_move rfl rfl) (hp.V 1 rfl rfl)) ?_
  refine .on rfl (fun a w hS hI hp => (hp.V 2 rfl rfl).elim fun v0 h0 => does_val (x_extract rfl h0.1 rfl) h0.2) ?_
  refine .on rfl (fun a w hS hI hp => (hp.V 2 rfl rfl).elim fun v0 h0 => does_val (x_extract rfl h0.1 rfl) rfl) ?_
  refine .on rfl (fun a w hS hI hp => does_val (x_assign rfl rfl) (hp.V 3 rfl rfl)) ?_
  refine .asg 4 rfl rfl rfl ?_
  exact .nil
 clear hS
 intro gf bj hS cN hp
 replace hS := (((hS.nil).cons (hS.get 8 rfl)).cons (hS.get 7 rfl)).cons (hS.get 0 rfl)
 have el : sl _ 7 = .int .i64 ao := hp 6 (by decide)
 have hS := hS.cons el
 clear hp el
 refine eu _ _ ?_
 refine wp_seq_k (fun g4 ev => ?_)
 refine reg_seq_tail 2 (I := I4_ w w3 aZ bj) (ps := [IsV (.slice bb aa.length bc), IsR (Kd.int .u8) 5 bj.heap.size [0, 0, 0, 0]]) (by kernel_rfl) ?_ ?_ rfl hS ⟨cN.1, cN.2.1, cN.2.2.1, (bR bj)⟩ ?_ ?_
 ·exact bs4
 ·exact .v (.cons (Stays.r _ _ _ _) (.nil))
 ·refine .ms 3 rfl rfl rfl ?_
  refine .on rfl (fun a w hS hI hp => does_lit bj.heap.size 31 5 4 _ [(0, .int .u8 0), (1, .int .u8 0), (2, .int .u8 0), (3, .int .u8 0)] [0, 0, 0, 0] rfl (by kernel_rfl) (by rw [Array.toList_map]; exact (show [(0, a.eval (.const (.int .u8 0))), (1, a.eval (.const (.int .u8 0))), (2, a.eval (.const (.int .u8 0))), (3, a.eval (.const (.int .u8 0)))] = _ from (li_cons (rfl) (li_cons (rfl) (li_cons (rfl) (li_cons (rfl) rfl)))))) (by kernel_rfl) rfl (hI.2.2.2).size (Nat.le_of_ble_eq_true rfl)) ?_
  exact .nil
 clear hS
 intro gg dW hS dQ hp
 have dG : sl _ 40 = .slice bb aa.length bc := hp 0 (by decide)
 obtain ⟨fa, fh, cJ, gG, eD⟩ := Kd.R_reads (show Kd.R (Kd.int .u8) 5 dW bj.heap.size (fun _ => True) (sl _ 41) [0, 0, 0, 0] from hp 1 (by decide))
 have gM : Kd.R (Kd.int .u8) 5 dW bj.heap.size (fun _ => True) (.slice fa [0, 0, 0, 0].length fh) [0, 0, 0, 0] := cJ ▸ (hp 1 (by decide))
 have hS := hS.cons dG
 have hS := hS.cons cJ
 clear hp dG cJ
 show wpList _ _ _ [_, _, _, _, _, _, _] _ _
 refine list_step rfl (does_keep (W := w3) (.tmp 40) (.tmp 41) 31 5 1 rfl (by kernel_rfl) (by kernel_rfl) (by decide) _ aa [0, 0, 0, 0] _ _ (hS.get 1 rfl) (hS.get 0 rfl) (Kd.R_below dv dQ.2.2.1) (Kd.C_below eD (bR dW)) dQ.2.1 c2 (by decide)) ?_
 rintro gV a3 ⟨hb, hr, hk, du⟩
 clear hk
 have fY := (Kd.R_reads' du).2.2
 have dc := below_step cR hb
 have cu := hb
 replace hS := ((((hS.nil).cons (hS.get 5 rfl)).cons (hS.get 4 rfl)).cons (hS.get 3 rfl)).cons (hS.get 2 rfl)
 obtain ⟨fb, fi, rfl, eJ, eE⟩ := Kd.R_reads hr
 have gR := hr
 clear hr
 refine hS.next (v := .slice fb ((aa ++ [0, 0, 0, 0] : List Int).length) fi) (d := 42) rfl (by decide) (by rfl) ?_
 clear hS
 intro gh hS
 refine list_step rfl (R := fun v w' => Below _ _ w' ∧ (IsT (fun v0_ => #[v0_, .int .i64 ac]) (IsR k26 26 a3.heap.size ah)) v w') (does_call (by kernel_rfl) (ar2 (hS.get 0 rfl) (rfl)) ((tlv_Get.calls k _ _ (aa ++ [0, 0, 0, 0] : List Int) 0 ah ac _ (Kd.C_below eE (bR a3)) eJ eo).mono fun _ _ h => h.elim fun v0 h => ⟨_, h.1, h.2.2, v0, rfl, Kd.R_lower h.2.1 (bR a3).size⟩)) ?_
 rintro gW cT ⟨hb, he⟩
 have dd := below_step dc hb
 have cv := below_step cu hb
 have bO := below_step (bR a3) hb
 obtain ⟨fD, rfl, dx⟩ := he
 obtain ⟨aw, az, rfl, gH, gC⟩ := Kd.R_reads (show Kd.R k26 26 cT a3.heap.size (fun _ => True) fD ah from dx)
 have gN : Kd.R k26 26 cT a3.heap.size (fun _ => True) (.slice aw ah.length az) ah := dx
 refine hS.next (v := .tuple #[.slice aw ah.length az, .int .i64 ac]) (d := 43) rfl (by decide) (by rfl) ?_
 clear hS
 intro gi hS
 refine list_step rfl (R := fun v w' => Below _ _ w' ∧ (IsV (.tuple #[.slice aw ah.length az, .int .i64 ac])) v w') (does_val (x_move rfl (hS.get 0 rfl)) rfl) ?_
 rintro eS fJ ⟨hb, he⟩
 have de := below_step dd hb
 have cw := below_step cv hb
 have bP := below_step bO hb
 have bQ := below_step (bR cT) hb
 obtain rfl : eS = .tuple #[.slice aw ah.length az, .int .i64 ac] := he
 refine hS.next (v := .tuple #[.slice aw ah.length az, .int .i64 ac]) (d := 39) rfl (by decide) (by rfl) ?_
 clear hS
 intro gj hS
 refine list_step rfl (R := fun v w' => Below _ _ w' ∧ (IsV (.slice aw ah.length az)) v w') (does_val (x_extract rfl (hS.get 0 rfl) rfl) rfl) ?_
 rintro eT fK ⟨hb, he⟩
 have df := below_step de hb
 have cx := below_step cw hb
 have bS := below_step bP hb
 have bT := below_step bQ hb
 have eb := below_step (bR fJ) hb
 obtain rfl : eT = .slice aw ah.length az := he
 refine hS.next (v := .slice aw ah.length az) (d := 44) rfl (by decide) (by rfl) ?_
 clear hS
 intro gk hS
 refine list_step rfl (R := fun v w' => Below _ _ w' ∧ (VI ac) v w') (does_val (x_extract rfl (hS.get 1 rfl) rfl) rfl) ?_
 rintro eU fL ⟨hb, he⟩
 have dg := below_step df hb
 have cy := below_step cx hb
 have bU := below_step bS hb
 have bV := below_step bT hb
 have ec := below_step (bR fK) hb
 obtain rfl : eU = .int .i64 ac := he
 refine hS.next (v := .int .i64 ac) (d := 45) rfl (by decide) (by rfl) ?_
 clear hS
 intro gl hS
 refine list_step rfl (R := fun v w' => Below _ _ w' ∧ (IsV (.slice aw ah.length az)) v w') (does_val (x_assign rfl (hS.get 1 rfl)) rfl) ?_
 rintro eV fM ⟨hb, he⟩
 have dh := below_step dg hb
 have cz := below_step cy hb
 have bW := below_step bU hb
 have bX := below_step bV hb
 have ed := below_step (bR fL) hb
 obtain rfl : eV = .slice aw ah.length az := he
 refine hS.next (v := .slice aw ah.length az) (d := 8) rfl (by decide) (by rfl) ?_
 clear hS
 intro gm hS
 refine list_step rfl (R := fun v w' => Below _ _ w' ∧ (VI ac) v w') (does_val (x_assign rfl (hS.get 1 rfl)) rfl) ?_
 rintro eW bk ⟨hb, he⟩
 have di := below_step dh hb
 have cA := below_step cz hb
 have bY := below_step bW hb
 have bZ := below_step bX hb
 have ee := below_step (bR fM) hb
 obtain rfl : eW = .int .i64 ac := he
 refine hS.next (v := .int .i64 ac) (d := 9) rfl (by decide) (by rfl) ?_
 clear hS
 intro gn hS
 refine wpList_nil ?_
 refine ev _ _ ?_
 refine wp_seq_k (fun g5 ew => ?_)
 refine reg_seq_tail 2 (I := I5_ w w3 a3 cT bk) (ps := [IsV (.slice bb aa.length bc), IsR (Kd.int .u8) 5 bk.heap.size [0]]) (by kernel_rfl) ?_ ?_ rfl hS ⟨di, cA, bY, bZ, (bR bk)⟩ ?_ ?_
 ·exact bs5
 ·exact .v (.cons (Stays.r _ _ _ _) (.nil))
 ·refine .ms 10 rfl rfl rfl ?_
  refine .on rfl (fun a w hS hI hp => does_lit bk.heap.size 31 5 1 _ [(0, .int .u8 0)] [0] rfl (by kernel_rfl) (by rw [Array.toList_map]; exact (show [(0, a.eval (.const (.int .u8 0)))] = _ from (li_cons (rfl) rfl))) (by kernel_rfl) rfl (hI.2.2.2.2).size (Nat.le_of_ble_eq_true rfl)) ?_
  exact .nil
 clear hS
 intro go dX hS dS hp
 replace hS := ((((hS.nil).cons (hS.get 9 rfl)).cons (hS.get 8 rfl)).cons (hS.get 7 rfl)).cons (hS.get 0 rfl)
 have dH : sl _ 47 = .slice bb aa.length bc := hp 0 (by decide)
 obtain ⟨fc, fj, cK, gI, eF⟩ := Kd.R_reads (show Kd.R (Kd.int .u8) 5 dX bk.heap.size (fun _ => True) (sl _ 48) [0] from hp 1 (by decide))
 have gO : Kd.R (Kd.int .u8) 5 dX bk.heap.size (fun _ => True) (.slice fc [0].length fj) [0] := cK ▸ (hp 1 (by decide))
 have hS := hS.cons dH
 have hS := hS.cons cK
 clear hp dH cK
 show wpList _ _ _ [_, _, _, _, _, _, _] _ _
 refine list_step rfl (does_more (W := w3) (.tmp 47) (.tmp 48) 31 5 1 rfl (by kernel_rfl) (by kernel_rfl) (by decide) _ aa [0] _ _ (hS.get 1 rfl) (hS.get 0 rfl) (Kd.R_below du dS.2.2.1) (Kd.C_below eF (bR dX)) dS.2.1 c3) ?_
 rintro gX a4 ⟨hb, hr, hk⟩
 clear hk
 have dj := below_step cR hb
 have cB := hb
 replace hS := ((((hS.nil).cons (hS.get 5 rfl)).cons (hS.get 4 rfl)).cons (hS.get 3 rfl)).cons (hS.get 2 rfl)
 obtain ⟨fd, fk, rfl, eK, eG⟩ := Kd.R_reads hr
 have gS := hr
 clear hr
 refine hS.next (v := .slice fd ((aa ++ [0] : List Int).length) fk) (d := 49) rfl (by decide) (by rfl) ?_
 clear hS
 intro gp hS
 refine list_step rfl (R := fun v w' => Below _ _ w' ∧ (IsT (fun v0_ => #[v0_, .int .i64 ad]) (IsR k26 26 a4.heap.size ai)) v w') (does_call (by kernel_rfl) (ar2 (hS.get 0 rfl) (rfl)) ((tlv_Get.calls k _ _ (aa ++ [0] : List Int) 0 ai ad _ (Kd.C_below eG (bR a4)) eK ep).mono fun _ _ h => h.elim fun v0 h => ⟨_, h.1, h.2.2, v0, rfl, Kd.R_lower h.2.1 (bR a4).size⟩)) ?_
 rintro gY cU ⟨hb, he⟩
 have dk := below_step dj hb
 have cC := below_step cB hb
 have b0 := below_step (bR a4) hb
 obtain ⟨fE, rfl, dy⟩ := he
 obtain ⟨ax, aA, rfl, gJ, gD⟩ := Kd.R_reads (show Kd.R k26 26 cU a4.heap.size (fun _ => True) fE ai from dy)
 have gP : Kd.R k26 26 cU a4.heap.size (fun _ => True) (.slice ax ai.length aA) ai := dy
 refine hS.next (v := .tuple #[.slice ax ai.length aA, .int .i64 ad]) (d := 50) rfl (by decide) (by rfl) ?_
 clear hS
 intro gq hS
 refine list_step rfl (R := fun v w' => Below _ _ w' ∧ (IsV (.tuple #[.slice ax ai.length aA, .int .i64 ad])) v w') (does_val (x_move rfl (hS.get 0 rfl)) rfl) ?_
 rintro eX fN ⟨hb, he⟩
 have dl := below_step dk hb
 have cD := below_step cC hb
 have b1 := below_step b0 hb
 have b2 := below_step (bR cU) hb
 obtain rfl : eX = .tuple #[.slice ax ai.length aA, .int .i64 ad] := he
 refine hS.next (v := .tuple #[.slice ax ai.length aA, .int .i64 ad]) (d := 46) rfl (by decide) (by rfl) ?_
 clear hS
 intro gr hS
 refine list_step rfl (R := fun v w' => Below _ _ w' ∧ (IsV (.slice ax ai.length aA)) v w') (does_val (x_extract rfl (hS.get 0 rfl) rfl) rfl) ?_
 rintro eY fO ⟨hb, he⟩
 have dm := below_step dl hb
 have cE := below_step cD hb
 have b3 := below_step b1 hb
 have b4 := below_step b2 hb
 have ef := below_step (bR fN) hb
 obtain rfl : eY = .slice ax ai.length aA := he
 refine hS.next (v := .slice ax ai.length aA) (d := 51) rfl (by decide) (by rfl) ?_
 clear hS
 intro gs hS
 refine list_step rfl (R := fun v w' => Below _ _ w' ∧ (VI ad) v w') (does_val (x_extract rfl (hS.get 1 rfl) rfl) rfl) ?_
 rintro eZ fP ⟨hb, he⟩
 have dn := below_step dm hb
 have cF := below_step cE hb
 have b5 := below_step b3 hb
 have b6 := below_step b4 hb
 have eg := below_step (bR fO) hb
 obtain rfl : eZ = .int .i64 ad := he
 refine hS.next (v := .int .i64 ad) (d := 52) rfl (by decide) (by rfl) ?_
 clear hS
 intro gt hS
 refine list_step rfl (R := fun v w' => Below _ _ w' ∧ (IsV (.slice ax ai.length aA)) v w') (does_val (x_assign rfl (hS.get 1 rfl)) rfl) ?_
 rintro e0 fQ ⟨hb, he⟩
 have dp := below_step dn hb
 have cG := below_step cF hb
 have b7 := below_step b5 hb
 have b8 := below_step b6 hb
 have eh := below_step (bR fP) hb
 obtain rfl : e0 = .slice ax ai.length aA := he
 refine hS.next (v := .slice ax ai.length aA) (d := 10) rfl (by decide) (by rfl) ?_
 clear hS
 intro gu hS
 refine list_step rfl (R := fun v w' => Below _ _ w' ∧ (VI ad) v w') (does_val (x_assign rfl (hS.get 1 rfl)) rfl) ?_
 rintro e1 aQ ⟨hb, he⟩
 have bd := below_step dp hb
 have cH := below_step cG hb
 have b9 := below_step b7 hb
 have ca := below_step b8 hb
 have ei := below_step (bR fQ) hb
 obtain rfl : e1 = .int .i64 ad := he
 refine hS.next (v := .int .i64 ad) (d := 11) rfl (by decide) (by rfl) ?_
 clear hS
 intro gv hS
 refine wpList_nil ?_
 refine ew _ _ ?_
 refine wp_seq_k (fun g6 ex => ?_)
 refine reg_seq_tail 6 (I := I5_ w w3 a4 cU aQ) (ps := [IsR (Kd.int .u64) 58 aQ.heap.size (List.replicate (16 : Int).toNat (0 : Int)), IsV (.tuple #[.agg #[.int .i64 aC, .string aD], .bool al]), IsV (.tuple #[.agg #[.int .i64 aC, .string aD], .bool al]), IsV (.agg #[.int .i64 aC, .string aD]), VB al, IsB #[.int .i64 0, .string (⟨#[]⟩ : ByteArray)] 26 aQ.heap.size]) (by kernel_rfl) ?_ ?_ rfl hS ⟨bd, cH, b9, ca, (bR aQ)⟩ ?_ ?_
 ·exact bs5
 ·exact .cons (Stays.r _ _ _ _) (.v (.v (.v (.v (.cons (Stays.b _ _ _) (.nil))))))
 ·refine .on rfl (fun a w hS hI hp => does_make (flat_int .u64) aQ.heap.size 45 58 (.const (.int .i64 16)) (.const (.int .i64 16)) rfl rfl 16 (rfl) (rfl) (by kernel_rfl) (.int .u64 0) (0 : Int) 8 (by kernel_rfl) rfl (by decide) (by decide) (by decide) (by decide) (hI.2.2.2.2).size) ?_
  refine .on rfl (fun a w hS hI hp => (IsC.of_r (hp.V 0 rfl rfl)).elim fun A_ h_ => h_.elim fun c_ h_ => h_.elim fun hv_ h_ => h_.elim fun hl_ hc_ => does_call (by kernel_rfl) (ar1 (hv_)) ((tlv_Path.calls k _ _ (List.replicate (16 : Int).toNat (0 : Int)) aC aD al _ hc_ hl_ eq).mono fun _ _ h => ⟨_, h.1, h.2, rfl⟩)) ?_
  refine .mv 1 rfl rfl rfl ?_
  iterate 2 refine .on rfl (fun a w hS hI hp => does_val (x_extract rfl (hp.V 2 rfl rfl) rfl) rfl) ?_
  refine .on rfl (fun a w hS hI hp => does_var (x_alloc rfl (by kernel_rfl)) (hI.2.2.2.2).size) ?_
  exact .nil
 clear hS
 intro gw fR hS bB hp
 replace hS := (((((hS.nil).cons (hS.get 10 rfl)).cons (hS.get 9 rfl)).cons (hS.get 8 rfl)).cons (hS.get 7 rfl)).cons (hS.get 0 rfl)
 have dI : sl _ 56 = .agg #[.int .i64 aC, .string aD] := hp 3 (by decide)
 have dJ : sl _ 57 = .bool al := hp 4 (by decide)
 obtain ⟨d5, dA, ch, cf⟩ := (show IsB _ 26 _ (sl _ 12) _ from hp 5 (by decide))
 have hS := hS.cons dI
 have hS := hS.cons dJ
 have hS := hS.cons dA
 clear hp dI dJ dA
 show wpList _ _ _ [_, _] _ _
 refine list_step rfl (does_storeAll (g := d5) (cs := #[.int .i64 aC, .string aD]) rfl (hS.get 0 rfl) (hS.get 2 rfl) (((bR fR).block d5 (blk_lt cf)).trans cf) (by kernel_rfl) (by kernel_rfl) (by kernel_rfl)) ?_
 rintro gZ ci ⟨rfl, fq, hT⟩
 have dq := hT.below bB.1 (Nat.le_trans (bd).size ch) (bB.1).size
 have cb := hT.below bB.2.2.2.2 ch (bB.2.2.2.2).size
 clear hT
 refine list_step rfl (R := fun v w' => Below _ _ w' ∧ (VB al) v w') (does_val (x_assign rfl (hS.get 1 rfl)) rfl) ?_
 rintro e2 a0 ⟨hb, he⟩
 have be := below_step dq hb
 have aS := below_step cb hb
 have aT := below_step (bR ci) hb
 obtain rfl : e2 = .bool al := he
 refine hS.next (v := .bool al) (d := 13) rfl (by decide) (by rfl) ?_
 clear hS
 intro gx hS
 refine wpList_nil ?_
 refine ex _ _ ?_
 refine wp_seq_k (fun g7 ey => ?_)
 refine reg_seq_tail 6 (I := I4_ w aQ ci a0) (ps := [IsR (Kd.int .u64) 58 a0.heap.size (List.replicate (17 : Int).toNat (0 : Int)), IsV (.tuple #[.agg #[.int .i64 aE, .string aF], .bool aj]), IsV (.tuple #[.agg #[.int .i64 aE, .string aF], .bool aj]), IsV (.agg #[.int .i64 aE, .string aF]), VB aj, IsB #[.int .i64 0, .string (⟨#[]⟩ : ByteArray)] 26 a0.heap.size]) (by kernel_rfl) ?_ ?_ rfl hS ⟨be, aS, aT, (bR a0)⟩ ?_ ?_
 ·exact bs4
 ·exact .cons (Stays.r _ _ _ _) (.v (.v (.v (.v (.cons (Stays.b _ _ _) (.nil))))))
 ·refine .on rfl (fun a w hS hI hp => does_make (flat_int .u64) a0.heap.size 45 58 (.const (.int .i64 17)) (.const (.int .i64 17)) rfl rfl 17 (rfl) (rfl) (by kernel_rfl) (.int .u64 0) (0 : Int) 8 (by kernel_rfl) rfl (by decide) (by decide) (by decide) (by decide) (hI.2.2.2).size) ?_
  refine .on rfl (fun a w hS hI hp => (IsC.of_r (hp.V 0 rfl rfl)).elim fun A_ h_ => h_.elim fun c_ h_ => h_.elim fun hv_ h_ => h_.elim fun hl_ hc_ => does_call (by kernel_rfl) (ar1 (hv_)) ((tlv_Path.calls k _ _ (List.replicate (17 : Int).toNat (0 : Int)) aE aF aj _ hc_ hl_ er).mono fun _ _ h => ⟨_, h.1, h.2, rfl⟩)) ?_
  refine .mv 1 rfl rfl rfl ?_
  iterate 2 refine .on rfl (fun a w hS hI hp => does_val (x_extract rfl (hp.V 2 rfl rfl) rfl) rfl) ?_
  refine .on rfl (fun a w hS hI hp => does_var (x_alloc rfl (by kernel_rfl)) (hI.2.2.2).size) ?_
  exact .nil
 clear hS
 intro gy fS hS aB hp
 replace hS := ((((((hS.nil).cons (hS.get 8 rfl)).cons (hS.get 7 rfl)).cons (hS.get 6 rfl)).cons (hS.get 5 rfl)).cons (hS.get 4 rfl)).cons (hS.get 0 rfl)
 have dK : sl _ 61 = .agg #[.int .i64 aE, .string aF] := hp 3 (by decide)
 have dL : sl _ 62 = .bool aj := hp 4 (by decide)
 obtain ⟨d6, dB, aO, cg⟩ := (show IsB _ 26 _ (sl _ 14) _ from hp 5 (by decide))
 have hS := hS.cons dK
 have hS := hS.cons dL
 have hS := hS.cons dB
 clear hp dK dL dB
 show wpList _ _ _ [_, _] _ _
 refine list_step rfl (does_storeAll (g := d6) (cs := #[.int .i64 aE, .string aF]) rfl (hS.get 0 rfl) (hS.get 2 rfl) (((bR fS).block d6 (blk_lt cg)).trans cg) (by kernel_rfl) (by kernel_rfl) (by kernel_rfl)) ?_
 rintro g0 cV ⟨rfl, fr, hT⟩
 have dr := hT.below aB.1 (Nat.le_trans (be).size aO) (aB.1).size
 have cc := hT.below aB.2.1 (Nat.le_trans (aS).size aO) (aB.2.1).size
 have cd := hT.below aB.2.2.1 (Nat.le_trans (aT).size aO) (aB.2.2.1).size
 have ce := hT.below aB.2.2.2 aO (aB.2.2.2).size
 clear hT
 refine list_step rfl (R := fun v w' => Below _ _ w' ∧ (VB aj) v w') (does_val (x_assign rfl (hS.get 1 rfl)) rfl) ?_
 rintro e3 a5 ⟨hb, he⟩
 have bf := below_step dr hb
 have aU := below_step cc hb
 have aV := below_step cd hb
 have aW := below_step ce hb
 have aX := below_step (bR cV) hb
 obtain rfl : e3 = .bool aj := he
 refine hS.next (v := .bool aj) (d := 15) rfl (by decide) (by rfl) ?_
 clear hS
 intro gz hS
 refine wpList_nil ?_
 refine ey _ _ ?_
 refine wp_seq_k (fun g8 ez => ?_)
 refine reg_seq_tail 7 (I := I6_ w aQ ci a0 cV a5) (ps := [IsR (Kd.int .u8) 5 a5.heap.size (List.replicate (398 : Int).toNat (0 : Int)), IsV (.string (strOfNums (List.replicate (398 : Int).toNat (0 : Int)))), IsV (.tuple #[.agg #[.int .i64 aG, .string aH], .bool am]), IsV (.tuple #[.agg #[.int .i64 aG, .string aH], .bool am]), IsV (.agg #[.int .i64 aG, .string aH]), VB am, IsB #[.int .i64 0, .string (⟨#[]⟩ : ByteArray)] 26 a5.heap.size]) (by kernel_rfl) ?_ ?_ rfl hS ⟨bf, aU, aV, aW, aX, (bR a5)⟩ ?_ ?_
 ·exact bs6
 ·exact .cons (Stays.r _ _ _ _) (.v (.v (.v (.v (.v (.cons (Stays.b _ _ _) (.nil)))))))
 ·refine .on rfl (fun a w hS hI hp => does_make (flat_int .u8) a5.heap.size 31 5 (.const (.int .i64 398)) (.const (.int .i64 398)) rfl rfl 398 (rfl) (rfl) (by kernel_rfl) (.int .u8 0) (0 : Int) 1 (by kernel_rfl) rfl (by decide) (by decide) (by decide) (by decide) (hI.2.2.2.2.2).size) ?_
  refine .on rfl (fun a w hS hI hp => (IsC.of_r (hp.V 0 rfl rfl)).elim fun A_ h_ => h_.elim fun c_ h_ => h_.elim fun hv_ h_ => h_.elim fun hl_ hc_ => does_val (x_conv rfl hv_ (Kd.C_string (by kernel_rfl) (e := 5) (by kernel_rfl) (by kernel_rfl) hc_)) rfl) ?_
  refine .on rfl (fun a w hS hI hp => does_call (by kernel_rfl) (ar2 (rfl) (hp.V 1 rfl rfl)) ((tlv_Manage.calls 7 (strOfNums (List.replicate (398 : Int).toNat (0 : Int))) aG aH am _  es).mono fun _ _ h => ⟨_, h.1, h.2, rfl⟩)) ?_
  refine .mv 2 rfl rfl rfl ?_
  iterate 2 refine .on rfl (fun a w hS hI hp => does_val (x_extract rfl (hp.V 3 rfl rfl) rfl) rfl) ?_
  refine .on rfl (fun a w hS hI hp => does_var (x_alloc rfl (by kernel_rfl)) (hI.2.2.2.2.2).size) ?_
  exact .nil
 clear hS
 intro fT e4 hS ak hp
 replace hS := (((((((hS.nil).cons (hS.get 9 rfl)).cons (hS.get 8 rfl)).cons (hS.get 7 rfl)).cons (hS.get 6 rfl)).cons (hS.get 5 rfl)).cons (hS.get 4 rfl)).cons (hS.get 0 rfl)
 have dM : sl _ 67 = .agg #[.int .i64 aG, .string aH] := hp 4 (by decide)
 have dN : sl _ 68 = .bool am := hp 5 (by decide)
 obtain ⟨ds, dC, ap, bg⟩ := (show IsB _ 26 _ (sl _ 16) _ from hp 6 (by decide))
 have hS := hS.cons dM
 have hS := hS.cons dN
 have hS := hS.cons dC
 clear hp dM dN dC
 show wpList _ _ _ [_, _] _ _
 refine list_step rfl (does_storeAll (g := ds) (cs := #[.int .i64 aG, .string aH]) rfl (hS.get 0 rfl) (hS.get 2 rfl) (((bR e4).block ds (blk_lt bg)).trans bg) (by kernel_rfl) (by kernel_rfl) (by kernel_rfl)) ?_
 rintro fZ cO ⟨rfl, e6, hT⟩
 have cj := hT.below ak.1 (Nat.le_trans (bf).size ap) (ak.1).size
 have bl := hT.below ak.2.1 (Nat.le_trans (aU).size ap) (ak.2.1).size
 have bm := hT.below ak.2.2.1 (Nat.le_trans (aV).size ap) (ak.2.2.1).size
 have bn := hT.below ak.2.2.2.1 (Nat.le_trans (aW).size ap) (ak.2.2.2.1).size
 have bo := hT.below ak.2.2.2.2.1 (Nat.le_trans (aX).size ap) (ak.2.2.2.2.1).size
 have bp := hT.below ak.2.2.2.2.2 ap (ak.2.2.2.2.2).size
 clear hT
 refine list_step rfl (R := fun v w' => Below _ _ w' ∧ (VB am) v w') (does_val (x_assign rfl (hS.get 1 rfl)) rfl) ?_
 rintro d3 aR ⟨hb, he⟩
 have a1 := below_step cj hb
 have aJ := below_step bl hb
 have aK := below_step bm hb
 have aL := below_step bn hb
 have aM := below_step bo hb
 have aN := below_step bp hb
 have aI := below_step (bR cO) hb
 obtain rfl : d3 = .bool am := he
 refine hS.next (v := .bool am) (d := 17) rfl (by decide) (by rfl) ?_
 clear hS
 intro fU hS
 refine wpList_nil ?_
 refine ez _ _ ?_
 refine wp_seq_k (fun f3 d0 => ?_)
 refine reg_seq_tail 7 (I := I8_ w aQ ci a0 cV a5 cO aR) (ps := [IsR (Kd.int .u8) 5 aR.heap.size (List.replicate (399 : Int).toNat (0 : Int)), IsV (.string (strOfNums (List.replicate (399 : Int).toNat (0 : Int)))), IsV (.tuple #[.agg #[.int .i64 aq, .string ar], .bool af]), IsV (.tuple #[.agg #[.int .i64 aq, .string ar], .bool af]), IsV (.agg #[.int .i64 aq, .string ar]), VB af, IsB #[.int .i64 0, .string (⟨#[]⟩ : ByteArray)] 26 aR.heap.size]) (by kernel_rfl) ?_ ?_ rfl hS ⟨a1, aJ, aK, aL, aM, aN, aI, (bR aR)⟩ ?_ ?_
 ·exact bs8
 ·exact .cons (Stays.r _ _ _ _) (.v (.v (.v (.v (.v (.cons (Stays.b _ _ _) (.nil)))))))
 ·refine .on rfl (fun a w hS hI hp => does_make (flat_int .u8) aR.heap.size 31 5 (.const (.int .i64 399)) (.const (.int .i64 399)) rfl rfl 399 (rfl) (rfl) (by kernel_rfl) (.int .u8 0) (0 : Int) 1 (by kernel_rfl) rfl (by decide) (by decide) (by decide) (by decide) (hI.2.2.2.2.2.2.2).size) ?_
  refine .on rfl (fun a w hS hI hp => (IsC.of_r (hp.V 0 rfl rfl)).elim fun A_ h_ => h_.elim fun c_ h_ => h_.elim fun hv_ h_ => h_.elim fun hl_ hc_ => does_val (x_conv rfl hv_ (Kd.C_string (by kernel_rfl) (e := 5) (by kernel_rfl) (by kernel_rfl) hc_)) rfl) ?_
  refine .on rfl (fun a w hS hI hp => does_call (by kernel_rfl) (ar2 (rfl) (hp.V 1 rfl rfl)) ((tlv_Manage.calls 7 (strOfNums (List.replicate (399 : Int).toNat (0 : Int))) aq ar af _  dY).mono fun _ _ h => ⟨_, h.1, h.2, rfl⟩)) ?_
  refine .mv 2 rfl rfl rfl ?_
  iterate 2 refine .on rfl (fun a w hS hI hp => does_val (x_extract rfl (hp.V 3 rfl rfl) rfl) rfl) ?_
  refine .on rfl (fun a w hS hI hp => does_var (x_alloc rfl (by kernel_rfl)) (hI.2.2.2.2.2.2.2).size) ?_
  exact .nil
 clear hS
 intro fV e5 hS ae hp
 replace hS := ((((((((hS.nil).cons (hS.get 10 rfl)).cons (hS.get 9 rfl)).cons (hS.get 8 rfl)).cons (hS.get 7 rfl)).cons (hS.get 6 rfl)).cons (hS.get 5 rfl)).cons (hS.get 4 rfl)).cons (hS.get 0 rfl)
 have dO : sl _ 73 = .agg #[.int .i64 aq, .string ar] := hp 4 (by decide)
 have dP : sl _ 74 = .bool af := hp 5 (by decide)
 obtain ⟨dt, dD, an, bh⟩ := (show IsB _ 26 _ (sl _ 18) _ from hp 6 (by decide))
 have hS := hS.cons dO
 have hS := hS.cons dP
 have hS := hS.cons dD
 clear hp dO dP dD
 show wpList _ _ _ [_, _] _ _
 refine list_step rfl (does_storeAll (g := dt) (cs := #[.int .i64 aq, .string ar]) rfl (hS.get 0 rfl) (hS.get 2 rfl) (((bR e5).block dt (blk_lt bh)).trans bh) (by kernel_rfl) (by kernel_rfl) (by kernel_rfl)) ?_
 rintro f2 dT ⟨rfl, e7, hT⟩
 have ck := hT.below ae.1 (Nat.le_trans (a1).size an) (ae.1).size
 have bq := hT.below ae.2.1 (Nat.le_trans (aJ).size an) (ae.2.1).size
 have br := hT.below ae.2.2.1 (Nat.le_trans (aK).size an) (ae.2.2.1).size
 have bs := hT.below ae.2.2.2.1 (Nat.le_trans (aL).size an) (ae.2.2.2.1).size
 have bt := hT.below ae.2.2.2.2.1 (Nat.le_trans (aM).size an) (ae.2.2.2.2.1).size
 have bu := hT.below ae.2.2.2.2.2.1 (Nat.le_trans (aN).size an) (ae.2.2.2.2.2.1).size
 have a6 := hT.below ae.2.2.2.2.2.2.1 (Nat.le_trans (aI).size an) (ae.2.2.2.2.2.2.1).size
 have a7 := hT.below ae.2.2.2.2.2.2.2 an (ae.2.2.2.2.2.2.2).size
 clear hT
 refine list_step rfl (R := fun v w' => Below _ _ w' ∧ (VB af) v w') (does_val (x_assign rfl (hS.get 1 rfl)) rfl) ?_
 rintro d4 dU ⟨hb, he⟩
 have cl := below_step ck hb
 have bv := below_step bq hb
 have bw := below_step br hb
 have bx := below_step bs hb
 have bz := below_step bt hb
 have bA := below_step bu hb
 have a8 := below_step a6 hb
 have a9 := below_step a7 hb
 have ba := below_step (bR dT) hb
 obtain rfl : d4 = .bool af := he
 refine hS.next (v := .bool af) (d := 19) rfl (by decide) (by rfl) ?_
 clear hS
 intro fW hS
 refine wpList_nil ?_
 refine d0 _ _ ?_
 refine wp_seq_k (fun f4 d1 => ?_)
 refine reg_seq (I := I10_ w aQ ci a0 cV a5 cO aR dT dU) (ps := [VB au, VB au, VB ab, VB (!ab), VB (!ab), VB (!ab), VI ao, VB (decide (ao = 0)), VB (decide (ao = 0)), VB (decide (ao = 0)), VI ac, VB (decide (ac = 7)), VB (decide (ac = 7)), VB (decide (ac = 7)), VI ad, VB (decide (ad = 7)), VB (decide (ad = 7)), VB (decide (ad = 7)), VB al, VB al, VB al, VB aj, VB (!aj), VB (!aj), VB (!aj), VB am, VB am, VB am, VB af, VB (!af), VB (!af), VB (!af), VB a2, VB a2, VB a2]) (by kernel_rfl) ?_ ?_ rfl hS ⟨cl, bv, bw, bx, bz, bA, a8, a9, ba, (bR dU)⟩ ?_ ?_
 ·exact bs10
 ·exact .v (.v (.v (.v (.v (.v (.v (.v (.v (.v (.v (.v (.v (.v (.v (.v (.v (.v (.v (.v (.v (.v (.v (.v (.v (.v (.v (.v (.v (.v (.v (.v (.v (.v (.v (.nil)))))))))))))))))))))))))))))))))))
 ·refine .ms 11 rfl rfl rfl ?_
  refine .mv 0 rfl rfl rfl ?_
  refine .oy 1 76 rfl rfl c4 (fun a w hS hI hp => does_val (x_move rfl (hS.get 10 rfl)) rfl) ?_
  refine .oy 1 76 rfl rfl c4 (fun a w hS hI hp => does_val (x_not rfl (hp.V 2 rfl rfl)) rfl) ?_
  refine .pt 1 3 rfl rfl rfl c4 rfl ?_
  refine .mv 4 rfl rfl rfl ?_
  refine .oy 5 80 rfl rfl ((congrArg (!·) (Bool.eq_false_iff.2 c5))) (fun a w hS hI hp => does_val (x_move rfl (hS.get 9 rfl)) rfl) ?_
  refine .oy 5 80 rfl rfl ((congrArg (!·) (Bool.eq_false_iff.2 c5))) (fun a w hS hI hp => does_val (x_bin rfl (hp.V 6 rfl rfl) (rfl) (b_eql _ _ _ _ _ _)) rfl) ?_
  refine .pt 5 7 rfl rfl rfl ((congrArg (!·) (Bool.eq_false_iff.2 c5))) rfl ?_
  refine .mv 8 rfl rfl rfl ?_
  refine .oy 9 84 rfl rfl ((decide_eq_true c6)) (fun a w hS hI hp => does_val (x_move rfl (hS.get 8 rfl)) rfl) ?_
  refine .oy 9 84 rfl rfl ((decide_eq_true c6)) (fun a w hS hI hp => does_val (x_bin rfl (hp.V 10 rfl rfl) (rfl) (b_eql _ _ _ _ _ _)) rfl) ?_
  refine .pt 9 11 rfl rfl rfl ((decide_eq_true c6)) rfl ?_
  refine .mv 12 rfl rfl rfl ?_
  refine .oy 13 88 rfl rfl ((decide_eq_true c7)) (fun a w hS hI hp => does_val (x_move rfl (hS.get 7 rfl)) rfl) ?_
  refine .oy 13 88 rfl rfl ((decide_eq_true c7)) (fun a w hS hI hp => does_val (x_bin rfl (hp.V 14 rfl rfl) (rfl) (b_eql _ _ _ _ _ _)) rfl) ?_
  refine .pt 13 15 rfl rfl rfl ((decide_eq_true c7)) rfl ?_
  refine .mv 16 rfl rfl rfl ?_
  refine .oy 17 92 rfl rfl ((decide_eq_true c8)) (fun a w hS hI hp => does_val (x_move rfl (hS.get 6 rfl)) rfl) ?_
  refine .pt 17 18 rfl rfl rfl ((decide_eq_true c8)) rfl ?_
  refine .mv 19 rfl rfl rfl ?_
  refine .oy 20 95 rfl rfl c9 (fun a w hS hI hp => does_val (x_move rfl (hS.get 5 rfl)) rfl) ?_
  refine .oy 20 95 rfl rfl c9 (fun a w hS hI hp => does_val (x_not rfl (hp.V 21 rfl rfl)) rfl) ?_
  refine .pt 20 22 rfl rfl rfl c9 rfl ?_
  refine .mv 23 rfl rfl rfl ?_
  refine .oy 24 99 rfl rfl ((congrArg (!·) (Bool.eq_false_iff.2 cP))) (fun a w hS hI hp => does_val (x_move rfl (hS.get 4 rfl)) rfl) ?_
  refine .pt 24 25 rfl rfl rfl ((congrArg (!·) (Bool.eq_false_iff.2 cP))) rfl ?_
  refine .mv 26 rfl rfl rfl ?_
  refine .oy 27 102 rfl rfl bC (fun a w hS hI hp => does_val (x_move rfl (hS.get 0 rfl)) rfl) ?_
  refine .oy 27 102 rfl rfl bC (fun a w hS hI hp => does_val (x_not rfl (hp.V 28 rfl rfl)) rfl) ?_
  refine .pt 27 29 rfl rfl rfl bC rfl ?_
  refine .mv 30 rfl rfl rfl ?_
  refine .oy 31 106 rfl rfl ((congrArg (!·) (Bool.eq_false_iff.2 cQ))) (fun a w hS hI hp => does_call (by kernel_rfl) rfl ((carillonlaw08_awake.calls k  a2 _  dZ).mono fun _ _ h => ⟨_, h.1, h.2, rfl⟩)) ?_
  refine .pt 31 32 rfl rfl rfl ((congrArg (!·) (Bool.eq_false_iff.2 cQ))) rfl ?_
  refine .asg 33 rfl rfl rfl ?_
  exact .nil
 clear hS
 intro fX g1 hS d2 hp
 replace hS := hS.nil
 have ej : sl _ 0 = .bool a2 := hp 34 (by decide)
 have hS := hS.cons ej
 clear hp ej
 refine d1 _ _ ?_
 refine wp_ret ?_
 (try simp only [Exit.then, Exit.inBlock, Exit.jump, Exit.noGoto])
 exact bodyPost_ret (v := .bool true) (by rw [results_tmp rfl]; exact congrArg (Result.ok · _) ((hS.get 0 rfl).trans (congrArg Value.bool hret))) hS.nodef ⟨rfl, d2.1⟩
def carillonlaw08_TlvLimits.Pure : Prop := ∃ k, carillonlaw08_TlvLimits.f k  = some true
theorem carillonlaw08_TlvLimits.walk (P : carillonlaw08_TlvLimits.Pure)  (w : World)  :
  Calls Try.prog 7 #[] w fun e w' => e = .returned (.bool true) ∧ Below w.heap.size w w' := by
 obtain ⟨k, h⟩ := P  
 refine (carillonlaw08_TlvLimits.calls k  w  h).mono ?_
 rintro e w' ⟨rfl, hd⟩
 exact ⟨rfl, hd⟩
end Go.Proofs.Ytgmiokocipmbaaa.P
