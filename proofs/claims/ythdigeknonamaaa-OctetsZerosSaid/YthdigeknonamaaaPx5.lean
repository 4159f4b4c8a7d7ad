/- Functions and loops of the given program as Lean functions, and that the code comes to what they say: written by this session's own program; Lean checks it. -/
import Derived.Test.YthdigeknonamaaaPx0
import Derived.Test.YthdigeknonamaaaPx1
import Derived.Test.YthdigeknonamaaaPx4
namespace Go.Proofs.Ythdigeknonamaaa.P
open Go.RowKit Go.Proofs.YthdigeknonamaaaW.PrintWords Go.Proofs.YthdigeknonamaaaW.PrintLast Go.Proofs.YthdigeknonamaaaW.PrintMore
attribute [local go_sem] max2_int min2_int max_two min_two max_three min_three max_four min_four   -- for this text's walks alone
set_option linter.unusedVariables false
set_option linter.unusedSimpArgs false

/-! ### carillonlaw01_OctetsZeros: function 8 -/
def carillonlaw01_OctetsZeros.j0 : Nat → Int → List Int → Bool → Option (Bool)
  | 0, _, _, _ => none
  | k + 1, x7, x8, x44 => if x44 = true then (some false) else ((octets_Zero.f k x8 0 (wrap64 (x7 + 1))).bind fun t215 => (if t215 = true then (some false) else ((octets_Zero.f k x8 x7 0).bind fun t216 => (if t216 = true then ((carillonlaw01_awake.f k).bind fun t217 => (some t217)) else (some false)))))
def carillonlaw01_OctetsZeros.f (k : Nat) (a0 : Int) (a1 : Int) (a2 : Int) : Option (Bool) := (carillonlaw00_Place.f a0 40).bind fun t206 => (if 0 ≤ (wrap64 (1 + t206)) then (if (wrap64 (1 + t206) : Int).toNat ≤ 281474976710656 then ((some (List.replicate (wrap64 (1 + t206) : Int).toNat 0 : List Int)).bind fun y207 => ((carillonlaw00_Place.f a1 (wrap64 (1 + t206))).bind fun t210 => (if 0 ≤ t210 then (if t210 < (y207.length : Int) then ((some (y207.set (t210 : Int).toNat a2 : List Int)).bind fun y211 => ((octets_Zero.f k y211 0 (wrap64 (1 + t206))).bind fun t212 => (if (t212 != (a2 == 0)) = true then (carillonlaw01_OctetsZeros.j0 k (wrap64 (1 + t206)) y211 true) else ((octets_Zero.f k y211 0 t210).bind fun t213 => (if t213 = true then ((octets_Zero.f k y211 (wrap64 (t210 + 1)) (wrap64 ((wrap64 ((wrap64 (1 + t206)) - t210)) - 1))).bind fun t214 => (carillonlaw01_OctetsZeros.j0 k (wrap64 (1 + t206)) y211 (!t214))) else (carillonlaw01_OctetsZeros.j0 k (wrap64 (1 + t206)) y211 true)))))) else (none)) else (none)))) else (none)) else (none))
theorem carillonlaw01_OctetsZeros.mono_l : ∀ k, (∀ y0 y1 y2, LeO (carillonlaw01_OctetsZeros.j0 k y0 y1 y2) (carillonlaw01_OctetsZeros.j0 (k + 1) y0 y1 y2))
  | 0 => fun _ _ _ r h => by simp [carillonlaw01_OctetsZeros.j0] at h
  | k + 1 => by
    have ih0 := carillonlaw01_OctetsZeros.mono_l k
    · intro y0 y1 y2
      unfold carillonlaw01_OctetsZeros.j0
      repeat' first
      | (with_reducible exact ih0 _ _ _)
      | (with_reducible exact carillonlaw01_awake.mono _)
      | (with_reducible exact octets_Zero.mono _ _ _ _)
      | (with_reducible exact LeO.refl _)
      | (with_reducible exact LeO.none _)
      | (with_reducible refine LeO.ite ?_ ?_)
      | (with_reducible refine LeO.bind ?_ (fun _ => ?_))
      | exact ih0 _ _ _
      | exact carillonlaw01_awake.mono _
      | exact octets_Zero.mono _ _ _ _
      | exact LeO.none _
      | refine LeO.ite ?_ ?_
      | refine LeO.bind ?_ (fun _ => ?_)
theorem carillonlaw01_OctetsZeros.mono : ∀ a0 a1 a2 k, LeO (carillonlaw01_OctetsZeros.f k a0 a1 a2) (carillonlaw01_OctetsZeros.f (k + 1) a0 a1 a2) := by
  intro a0 a1 a2 k
  have ih0 := carillonlaw01_OctetsZeros.mono_l k
  unfold carillonlaw01_OctetsZeros.f
  repeat' first
      | (with_reducible exact ih0 _ _ _)
      | (with_reducible exact carillonlaw01_awake.mono _)
      | (with_reducible exact octets_Zero.mono _ _ _ _)
      | (with_reducible exact LeO.refl _)
      | (with_reducible exact LeO.none _)
      | (with_reducible refine LeO.ite ?_ ?_)
      | (with_reducible refine LeO.bind ?_ (fun _ => ?_))
      | exact ih0 _ _ _
      | exact carillonlaw01_awake.mono _
      | exact octets_Zero.mono _ _ _ _
      | exact LeO.none _
      | refine LeO.ite ?_ ?_
      | refine LeO.bind ?_ (fun _ => ?_)
set_option maxHeartbeats 8000000 in
set_option maxRecDepth 100000 in
theorem carillonlaw01_OctetsZeros.calls (k : Nat) (a0 : Int) (a1 : Int) (a2 : Int) (r : Bool) (w : World) (h : carillonlaw01_OctetsZeros.f k a0 a1 a2 = some r) :
    Calls Try.prog 8 #[.int .i64 a0, .int .i64 a1, .int .u8 a2] w fun e w' => e = .returned (.bool r) ∧ Below w.heap.size w w' := by
  have HB := Aside0.mk (Below.refl w.heap.size w)
  have H : ((carillonlaw00_Place.f a0 40).bind fun t206 => (if 0 ≤ (wrap64 (1 + t206)) then (if (wrap64 (1 + t206) : Int).toNat ≤ 281474976710656 then ((some (List.replicate (wrap64 (1 + t206) : Int).toNat 0 : List Int)).bind fun y207 => ((carillonlaw00_Place.f a1 (wrap64 (1 + t206))).bind fun t210 => (if 0 ≤ t210 then (if t210 < (y207.length : Int) then ((some (y207.set (t210 : Int).toNat a2 : List Int)).bind fun y211 => ((octets_Zero.f k y211 0 (wrap64 (1 + t206))).bind fun t212 => (if (t212 != (a2 == 0)) = true then (carillonlaw01_OctetsZeros.j0 k (wrap64 (1 + t206)) y211 true) else ((octets_Zero.f k y211 0 t210).bind fun t213 => (if t213 = true then ((octets_Zero.f k y211 (wrap64 (t210 + 1)) (wrap64 ((wrap64 ((wrap64 (1 + t206)) - t210)) - 1))).bind fun t214 => (carillonlaw01_OctetsZeros.j0 k (wrap64 (1 + t206)) y211 (!t214))) else (carillonlaw01_OctetsZeros.j0 k (wrap64 (1 + t206)) y211 true)))))) else (none)) else (none)))) else (none)) else (none))) = some r := h
  clear h
  replace H := Option.bind_eq_some_iff.mp H
  obtain ⟨t206, A40, H⟩ := H
  replace H : (if 0 ≤ (wrap64 (1 + t206)) then (if (wrap64 (1 + t206) : Int).toNat ≤ 281474976710656 then ((some (List.replicate (wrap64 (1 + t206) : Int).toNat 0 : List Int)).bind fun y207 => ((carillonlaw00_Place.f a1 (wrap64 (1 + t206))).bind fun t210 => (if 0 ≤ t210 then (if t210 < (y207.length : Int) then ((some (y207.set (t210 : Int).toNat a2 : List Int)).bind fun y211 => ((octets_Zero.f k y211 0 (wrap64 (1 + t206))).bind fun t212 => (if (t212 != (a2 == 0)) = true then (carillonlaw01_OctetsZeros.j0 k (wrap64 (1 + t206)) y211 true) else ((octets_Zero.f k y211 0 t210).bind fun t213 => (if t213 = true then ((octets_Zero.f k y211 (wrap64 (t210 + 1)) (wrap64 ((wrap64 ((wrap64 (1 + t206)) - t210)) - 1))).bind fun t214 => (carillonlaw01_OctetsZeros.j0 k (wrap64 (1 + t206)) y211 (!t214))) else (carillonlaw01_OctetsZeros.j0 k (wrap64 (1 + t206)) y211 true)))))) else (none)) else (none)))) else (none)) else (none)) = some r := H
  have A4 := Aside0.mk A40
  clear A40
  obtain ⟨ji5, hji5⟩ : ∃ j_ : Int, (wrap64 (1 + t206)) = j_ := ⟨_, rfl⟩
  replace H : (if 0 ≤ (ji5) then (if (ji5 : Int).toNat ≤ 281474976710656 then ((some (List.replicate (ji5 : Int).toNat 0 : List Int)).bind fun y207 => ((carillonlaw00_Place.f a1 (ji5)).bind fun t210 => (if 0 ≤ t210 then (if t210 < (y207.length : Int) then ((some (y207.set (t210 : Int).toNat a2 : List Int)).bind fun y211 => ((octets_Zero.f k y211 0 (ji5)).bind fun t212 => (if (t212 != (a2 == 0)) = true then (carillonlaw01_OctetsZeros.j0 k ji5 y211 true) else ((octets_Zero.f k y211 0 t210).bind fun t213 => (if t213 = true then ((octets_Zero.f k y211 (wrap64 (t210 + 1)) (wrap64 ((wrap64 ((ji5) - t210)) - 1))).bind fun t214 => (carillonlaw01_OctetsZeros.j0 k ji5 y211 (!t214))) else (carillonlaw01_OctetsZeros.j0 k ji5 y211 true)))))) else (none)) else (none)))) else (none)) else (none)) = some r := by first | (rw [hji5] at H; exact H) | (simp only [hji5] at H ⊢; exact H)
  (try rw [hji5] at A4)
  have hji5w : (IntKind.i64.wrap (1 + t206)) = ji5 := (i64_w _).trans hji5
  by_cases c6 : 0 ≤ (ji5)
  · rw [if_pos c6] at H
    have c6b0 := eq_true c6
    have c6b1 : decide (0 ≤ (ji5)) = true := decide_eq_true c6
    clear c6
    by_cases c7 : (ji5 : Int).toNat ≤ 281474976710656
    · rw [if_pos c7] at H
      have c7b0 := eq_true c7
      have c7b1 : decide ((ji5 : Int).toNat ≤ 281474976710656) = true := decide_eq_true c7
      clear c7
      obtain ⟨y207, hy207⟩ : ∃ y_ : List Int, y_ = (List.replicate (ji5 : Int).toNat 0) := ⟨_, rfl⟩
      replace H : ((carillonlaw00_Place.f a1 (ji5)).bind fun t210 => (if 0 ≤ t210 then (if t210 < (y207.length : Int) then ((some (y207.set (t210 : Int).toNat a2 : List Int)).bind fun y211 => ((octets_Zero.f k y211 0 (ji5)).bind fun t212 => (if (t212 != (a2 == 0)) = true then (carillonlaw01_OctetsZeros.j0 k ji5 y211 true) else ((octets_Zero.f k y211 0 t210).bind fun t213 => (if t213 = true then ((octets_Zero.f k y211 (wrap64 (t210 + 1)) (wrap64 ((wrap64 ((ji5) - t210)) - 1))).bind fun t214 => (carillonlaw01_OctetsZeros.j0 k ji5 y211 (!t214))) else (carillonlaw01_OctetsZeros.j0 k ji5 y211 true)))))) else (none)) else (none))) = some r := by first | (rw [hy207]; with_reducible exact H) | (have H2_ := (Option.bind_some _ _).symm.trans H; rw [hy207]; with_reducible exact H2_) | (have H2_ := (Option.bind_some _ _).symm.trans H; with_reducible exact H2_) | with_reducible exact H | (rw [hy207]; exact H) | exact H
      have Ny207 := Aside0.mk hy207
      clear hy207
      replace H := Option.bind_eq_some_iff.mp H
      obtain ⟨t210, A80, H⟩ := H
      replace H : (if 0 ≤ t210 then (if t210 < (y207.length : Int) then ((some (y207.set (t210 : Int).toNat a2 : List Int)).bind fun y211 => ((octets_Zero.f k y211 0 (ji5)).bind fun t212 => (if (t212 != (a2 == 0)) = true then (carillonlaw01_OctetsZeros.j0 k ji5 y211 true) else ((octets_Zero.f k y211 0 t210).bind fun t213 => (if t213 = true then ((octets_Zero.f k y211 (wrap64 (t210 + 1)) (wrap64 ((wrap64 ((ji5) - t210)) - 1))).bind fun t214 => (carillonlaw01_OctetsZeros.j0 k ji5 y211 (!t214))) else (carillonlaw01_OctetsZeros.j0 k ji5 y211 true)))))) else (none)) else (none)) = some r := H
      have A8 := Aside0.mk A80
      clear A80
      by_cases c9 : 0 ≤ t210
      · rw [if_pos c9] at H
        have c9b0 : decide (0 ≤ t210) = true := decide_eq_true c9
        clear c9
        by_cases c10 : t210 < (y207.length : Int)
        · rw [if_pos c10] at H
          have c10b0 : decide (t210 < (y207.length : Int)) = true := decide_eq_true c10
          clear c10
          obtain ⟨y211, hy211⟩ : ∃ y_ : List Int, y_ = (y207.set (t210 : Int).toNat a2) := ⟨_, rfl⟩
          replace H : ((octets_Zero.f k y211 0 (ji5)).bind fun t212 => (if (t212 != (a2 == 0)) = true then (carillonlaw01_OctetsZeros.j0 k ji5 y211 true) else ((octets_Zero.f k y211 0 t210).bind fun t213 => (if t213 = true then ((octets_Zero.f k y211 (wrap64 (t210 + 1)) (wrap64 ((wrap64 ((ji5) - t210)) - 1))).bind fun t214 => (carillonlaw01_OctetsZeros.j0 k ji5 y211 (!t214))) else (carillonlaw01_OctetsZeros.j0 k ji5 y211 true))))) = some r := by first | (rw [hy211]; with_reducible exact H) | (have H2_ := (Option.bind_some _ _).symm.trans H; rw [hy211]; with_reducible exact H2_) | (have H2_ := (Option.bind_some _ _).symm.trans H; with_reducible exact H2_) | with_reducible exact H | (rw [hy211]; exact H) | exact H
          have Ny211 := Aside0.mk hy211
          clear hy211
          have HC12 := Aside0.mk H
          clear H
          go_enter Try.func8, Try.ntmps8
          go_upto_region 5 with (first | ((with_reducible refine gate_callee (f := 9) rfl ?_); refine goesL_ (some 11) rfl rfl Try.func9 (by kernel_rfl) rfl #[.int .i64 a0, .int .i64 40] rfl (by (try simp only [List.map_toArray, List.map_cons, List.map_nil]); first | done | rfl | (simp only [List.length_drop, List.length_take]; rfl)) ?_; (with_reducible refine (carillonlaw00_Place.calls a0 40 t206 _ A4.out).mono ?_); rintro e w' ⟨rfl, ⟨nd, rfl⟩⟩; refine ⟨_, rfl, ?_⟩) | ((with_reducible refine gate_dst (N := 14) rfl ?_); refine Kd.R_make (Kd.int .u8) _ 5 rfl (N := 14) rfl 24 _ _ rfl ji5 rfl rfl Try.underlying24 (.int .u8 0) 1 info5 rfl (by decide) (by omega) 0 (ok := fun _ => True) (okp := fun _ => True) rfl (fun _ hk => hk) trivial (of_decide_eq_true (by first | (with_reducible assumption) | assumption)) (Nat.le_trans (Nat.mul_le_mul_right _ (of_decide_eq_true (by first | (with_reducible assumption) | assumption) : ji5.toNat ≤ 281474976710656)) (by omega)) (Below.refl _ _) (Nat.le_refl _) ?_; intro v208 w13 ho14 hb hg_ hnew_; clear hg_ hnew_; (first | rw [← Ny207.out] at ho14 | (simp only [Int.reduceToNat] at ho14; rw [← Ny207.out] at ho14)); have n0_ := Aside0.mk (Kd.R_lower ho14 (below_size (by repeat (first | (with_reducible first | exact HB.out | apply below_alloc | apply pw_below_drewN | apply below_drew1) | exact HB.out)))); have n1_ := Aside0.mk (below_step (by repeat (first | (with_reducible first | exact HB.out | apply below_alloc | apply pw_below_drewN | apply below_drew1) | exact HB.out)) hb); clear HB; have HO209 := n0_; have HB := n1_; clear n0_ n1_; clear hb ho14) | ((with_reducible refine gate_callee (f := 9) rfl ?_); refine goesL_ (some 17) rfl rfl Try.func9 (by kernel_rfl) rfl #[.int .i64 a1, .int .i64 ji5] rfl (by (try simp only [List.map_toArray, List.map_cons, List.map_nil]); first | done | (simp only [hji5]; rfl) | rfl | (simp only [List.length_drop, List.length_take]; rfl)) ?_; (with_reducible refine (carillonlaw00_Place.calls a1 ji5 t210 _ A8.out).mono ?_); rintro e w' ⟨rfl, ⟨nd, rfl⟩⟩; refine ⟨_, rfl, ?_⟩; (try (rw [drewN_self w13]; generalize hq_ : World.drewN w13 _ = w13; have n0_ : Aside0 (Kd.R (Kd.int .u8) 5 w13 w.heap.size (fun _ => True) v208 y207) := ⟨by rw [← hq_]; exact (by (with_reducible repeat (first | apply Kd.R_alloc | apply Kd.R_drewN | apply Kd.R_drew)); exact HO209.out)⟩; have n1_ : Aside0 (Below w.heap.size w w13) := ⟨by rw [← hq_]; exact (by repeat (first | (with_reducible first | exact HB.out | apply below_alloc | apply pw_below_drewN | apply below_drew1) | exact HB.out))⟩; clear HO209 HB hq_; have HO209 := n0_; have HB := n1_; clear n0_ n1_)); have p11 : 0 ≤ (t210 : Int) := of_decide_eq_true (by first | (with_reducible assumption) | assumption); have q11 : (t210 : Int) < ((y207.length : Int) : Int) := of_decide_eq_true (by first | (with_reducible assumption) | assumption); obtain ⟨go11, co11, eo11, gb11, gl11, cl11, HG11⟩ := Kd.R_form HO209.out (by omega); (first | cases eo11 | (injection eo11 with ea_ en_ ec_; (first | subst ea_ | (injection ea_ with ea_; subst ea_)); subst ec_; clear en_)); have GB11 := Aside0.mk gb11; have GG11 := Aside0.mk HG11; clear gb11 gl11 HG11; obtain ⟨hx11_0, hf11_0⟩ := Kd.R_celln 0 HO209.out (t210 : Int) p11 q11; replace p11 := eq_true p11; replace q11 := eq_true q11; obtain ⟨hy15_, hz15_⟩ := Kd.R_celln 0 HO209.out (t210 : Int) (of_decide_eq_true (by first | (with_reducible assumption) | assumption)) (of_decide_eq_true (by first | (with_reducible assumption) | assumption)); have HP15 := Kd.R_putg HO209.out (t210 : Int) a2) | ((with_reducible refine gate_store (t := 5) (p := 21) rfl ?_); refine store_event (t := 5) (p := 21) (v := ?vo_w16) (w1 := (w13.setCell ⟨go11, (t210 : Int).toNat, none⟩ (.int .u8 a2))) ?hg ?ho ?hn ?hr ?_; (case ho => rfl); (case hg => rfl); (case hn => rfl); (case hr => first | (go_simp; done) | (go_simp; rfl)); intro w16 hw; have hg : w13.grownBy w16 (some go11) := (by rw [hw]; exact HP15.2); have hp_ : Kd.R (Kd.int .u8) 5 w16 w.heap.size (fun _ => True) (.slice (some ⟨go11, 0, none⟩) y207.length co11) y211 := (by rw [hw, Ny211.out]; exact HP15.1); clear HP15; have n0_ := Aside0.mk (hp_); have n1_ := Aside0.mk ((by rw [hw]; exact below_set (HB.out) GB11.out : Below w.heap.size w w16)); clear HO209; clear HB; have HO209 := n0_; have HB := n1_; clear n0_ n1_; clear hg hw hp_))
          (try simp only [Act.put, List.setIfInBounds_toArray, List.set_cons_zero, List.set_cons_succ])
          go_cut [44] (fun v44 wc => ∃ (kq : Nat) (x44_11 : Bool), v44 = .bool x44_11 ∧ Aside0 (carillonlaw01_OctetsZeros.j0 kq ji5 y211 x44_11 = some r) ∧ Aside0 (kq ≤ k) ∧ Aside0 (Kd.R (Kd.int .u8) 5 wc w.heap.size (fun _ => True) (.slice (some ⟨go11, 0, none⟩) y207.length co11) y211) ∧ Aside0 (Below w.heap.size w wc))
          case first =>
            have H := HC12.out
            clear HC12
            replace H := Option.bind_eq_some_iff.mp H
            obtain ⟨t212, A170, H⟩ := H
            replace H : (if (t212 != (a2 == 0)) = true then (carillonlaw01_OctetsZeros.j0 k ji5 y211 true) else ((octets_Zero.f k y211 0 t210).bind fun t213 => (if t213 = true then ((octets_Zero.f k y211 (wrap64 (t210 + 1)) (wrap64 ((wrap64 ((ji5) - t210)) - 1))).bind fun t214 => (carillonlaw01_OctetsZeros.j0 k ji5 y211 (!t214))) else (carillonlaw01_OctetsZeros.j0 k ji5 y211 true)))) = some r := H
            have A17 := Aside0.mk A170
            clear A170
            by_cases c18 : (t212 != (a2 == 0)) = true
            · rw [if_pos c18] at H
              have c18b0 : (t212 != (a2 == 0)) = true := c18
              (try (have c18b1 : decide (t212 = (a2 == 0)) = false := by simpa using c18))
              (try (have c18b2 : (t212 == (a2 == 0)) = false := by simpa using c18))
              (try (have c18b3 : ¬ (t212 = (a2 == 0)) := by simpa using c18))
              clear c18
              (first | rw [c18b0] | (simp only [i64_w, i32_w]; rw [c18b0]) | skip)
              have H' := Aside0.mk H
              clear H
              go_wp2_with (first | ((with_reducible refine gate_callee (f := 18) rfl ?_); refine goesL_ (some 24) rfl rfl Try.func18 (by kernel_rfl) rfl #[.slice (some ⟨go11, 0, none⟩) y211.length co11, .int .i64 0, .int .i64 ji5] rfl (by (try simp only [List.map_toArray, List.map_cons, List.map_nil]); first | done | (rw [show y211.length = y207.length from (Kd.R_reads' HO209.out).1.symm] <;> rfl) | (simp only [hji5]; rfl) | rfl | (simp only [List.length_drop, List.length_take]; rfl)) ?_; (with_reducible refine (octets_Zero.calls k _ _ y211 0 ji5 t212 _ ?side1 ?side2 A17.out).mono ?_); (case side1 => repeat (first | exact (Kd.R_reads' HO209.out).2.2 | (with_reducible refine Kd.C_alloc ?_ _) | (with_reducible refine Kd.C_drewN ?_ _) | (with_reducible refine Kd.C_drew ?_))); (case side2 => rw [show y211.length = y207.length from (Kd.R_reads' HO209.out).1.symm]; exact (Kd.R_reads' HO209.out).2.1); rintro e w' ⟨rfl, ⟨nd, rfl⟩⟩; refine ⟨_, rfl, ?_⟩))
              go_meet
              case rel => exact ⟨_, (true), (by first | rfl | (simp; done) | (simp [*]; done)), H', ⟨by first | omega | exact Nat.le_refl _⟩, ⟨by (with_reducible repeat (first | apply Kd.R_alloc | apply Kd.R_drewN | apply Kd.R_drew)); exact HO209.out⟩, ⟨by repeat (first | (with_reducible first | exact HB.out | apply below_alloc | apply pw_below_drewN | apply below_drew1) | exact HB.out)⟩⟩
            · rw [if_neg c18] at H
              have c18b0 : (t212 != (a2 == 0)) = false := by simpa using c18
              (try (have c18b1 : decide (t212 = (a2 == 0)) = true := by simpa using c18))
              (try (have c18b2 : (t212 == (a2 == 0)) = true := by simpa using c18))
              clear c18
              (first | rw [c18b0] | (simp only [i64_w, i32_w]; rw [c18b0]) | skip)
              replace H := Option.bind_eq_some_iff.mp H
              obtain ⟨t213, A190, H⟩ := H
              replace H : (if t213 = true then ((octets_Zero.f k y211 (wrap64 (t210 + 1)) (wrap64 ((wrap64 ((ji5) - t210)) - 1))).bind fun t214 => (carillonlaw01_OctetsZeros.j0 k ji5 y211 (!t214))) else (carillonlaw01_OctetsZeros.j0 k ji5 y211 true)) = some r := H
              have A19 := Aside0.mk A190
              clear A190
              by_cases c20 : t213 = true
              · subst c20
                have H1 : ((octets_Zero.f k y211 (wrap64 (t210 + 1)) (wrap64 ((wrap64 ((ji5) - t210)) - 1))).bind fun t214 => (carillonlaw01_OctetsZeros.j0 k ji5 y211 (!t214))) = some r := by rw [if_pos rfl] at H; exact H
                clear H
                have H := H1
                clear H1
                replace H := Option.bind_eq_some_iff.mp H
                obtain ⟨t214, A210, H⟩ := H
                replace H : (carillonlaw01_OctetsZeros.j0 k ji5 y211 (!t214)) = some r := H
                have A21 := Aside0.mk A210
                clear A210
                have H' := Aside0.mk H
                clear H
                go_wp2_with (first | ((with_reducible refine gate_callee (f := 18) rfl ?_); refine goesL_ (some 24) rfl rfl Try.func18 (by kernel_rfl) rfl #[.slice (some ⟨go11, 0, none⟩) y211.length co11, .int .i64 0, .int .i64 ji5] rfl (by (try simp only [List.map_toArray, List.map_cons, List.map_nil]); first | done | (rw [show y211.length = y207.length from (Kd.R_reads' HO209.out).1.symm] <;> rfl) | (simp only [hji5]; rfl) | rfl | (simp only [List.length_drop, List.length_take]; rfl)) ?_; (with_reducible refine (octets_Zero.calls k _ _ y211 0 ji5 t212 _ ?side1 ?side2 A17.out).mono ?_); (case side1 => repeat (first | exact (Kd.R_reads' HO209.out).2.2 | (with_reducible refine Kd.C_alloc ?_ _) | (with_reducible refine Kd.C_drewN ?_ _) | (with_reducible refine Kd.C_drew ?_))); (case side2 => rw [show y211.length = y207.length from (Kd.R_reads' HO209.out).1.symm]; exact (Kd.R_reads' HO209.out).2.1); rintro e w' ⟨rfl, ⟨nd, rfl⟩⟩; refine ⟨_, rfl, ?_⟩) | (go_at_call 18; refine calls_of_args (args' := #[.slice (some ⟨go11, 0, none⟩) y211.length co11, .int .i64 0, .int .i64 t210]) (by first | (rw [show y211.length = y207.length from (Kd.R_reads' HO209.out).1.symm] <;> rfl) | rfl) ?_; (with_reducible refine (octets_Zero.calls k _ _ y211 0 t210 true _ ?side1 ?side2 A19.out).mono ?_); (case side1 => repeat (first | exact (Kd.R_reads' HO209.out).2.2 | (with_reducible refine Kd.C_alloc ?_ _) | (with_reducible refine Kd.C_drewN ?_ _) | (with_reducible refine Kd.C_drew ?_))); (case side2 => rw [show y211.length = y207.length from (Kd.R_reads' HO209.out).1.symm]; exact (Kd.R_reads' HO209.out).2.1); rintro e w' ⟨rfl, ⟨nd, rfl⟩⟩) | (go_at_call 18; refine calls_of_args (args' := #[.slice (some ⟨go11, 0, none⟩) y211.length co11, .int .i64 (wrap64 (t210 + 1)), .int .i64 (wrap64 ((wrap64 ((ji5) - t210)) - 1))]) (by first | (rw [show y211.length = y207.length from (Kd.R_reads' HO209.out).1.symm] <;> rfl) | rfl) ?_; (with_reducible refine (octets_Zero.calls k _ _ y211 (wrap64 (t210 + 1)) (wrap64 ((wrap64 ((ji5) - t210)) - 1)) t214 _ ?side1 ?side2 A21.out).mono ?_); (case side1 => repeat (first | exact (Kd.R_reads' HO209.out).2.2 | (with_reducible refine Kd.C_alloc ?_ _) | (with_reducible refine Kd.C_drewN ?_ _) | (with_reducible refine Kd.C_drew ?_))); (case side2 => rw [show y211.length = y207.length from (Kd.R_reads' HO209.out).1.symm]; exact (Kd.R_reads' HO209.out).2.1); rintro e w' ⟨rfl, ⟨nd, rfl⟩⟩))
                go_meet
                case rel => exact ⟨_, (!t214), (by first | rfl | (simp; done) | (simp [*]; done)), H', ⟨by first | omega | exact Nat.le_refl _⟩, ⟨by (with_reducible repeat (first | apply Kd.R_alloc | apply Kd.R_drewN | apply Kd.R_drew)); exact HO209.out⟩, ⟨by repeat (first | (with_reducible first | exact HB.out | apply below_alloc | apply pw_below_drewN | apply below_drew1) | exact HB.out)⟩⟩
              · replace c20 := Bool.eq_false_iff.mpr c20
                subst c20
                have H1 : (carillonlaw01_OctetsZeros.j0 k ji5 y211 true) = some r := by rw [if_neg (show ¬ (false = true) by decide)] at H; exact H
                clear H
                have H := H1
                clear H1
                have H' := Aside0.mk H
                clear H
                go_wp2_with (first | ((with_reducible refine gate_callee (f := 18) rfl ?_); refine goesL_ (some 24) rfl rfl Try.func18 (by kernel_rfl) rfl #[.slice (some ⟨go11, 0, none⟩) y211.length co11, .int .i64 0, .int .i64 ji5] rfl (by (try simp only [List.map_toArray, List.map_cons, List.map_nil]); first | done | (rw [show y211.length = y207.length from (Kd.R_reads' HO209.out).1.symm] <;> rfl) | (simp only [hji5]; rfl) | rfl | (simp only [List.length_drop, List.length_take]; rfl)) ?_; (with_reducible refine (octets_Zero.calls k _ _ y211 0 ji5 t212 _ ?side1 ?side2 A17.out).mono ?_); (case side1 => repeat (first | exact (Kd.R_reads' HO209.out).2.2 | (with_reducible refine Kd.C_alloc ?_ _) | (with_reducible refine Kd.C_drewN ?_ _) | (with_reducible refine Kd.C_drew ?_))); (case side2 => rw [show y211.length = y207.length from (Kd.R_reads' HO209.out).1.symm]; exact (Kd.R_reads' HO209.out).2.1); rintro e w' ⟨rfl, ⟨nd, rfl⟩⟩; refine ⟨_, rfl, ?_⟩) | (go_at_call 18; refine calls_of_args (args' := #[.slice (some ⟨go11, 0, none⟩) y211.length co11, .int .i64 0, .int .i64 t210]) (by first | (rw [show y211.length = y207.length from (Kd.R_reads' HO209.out).1.symm] <;> rfl) | rfl) ?_; (with_reducible refine (octets_Zero.calls k _ _ y211 0 t210 false _ ?side1 ?side2 A19.out).mono ?_); (case side1 => repeat (first | exact (Kd.R_reads' HO209.out).2.2 | (with_reducible refine Kd.C_alloc ?_ _) | (with_reducible refine Kd.C_drewN ?_ _) | (with_reducible refine Kd.C_drew ?_))); (case side2 => rw [show y211.length = y207.length from (Kd.R_reads' HO209.out).1.symm]; exact (Kd.R_reads' HO209.out).2.1); rintro e w' ⟨rfl, ⟨nd, rfl⟩⟩))
                go_meet
                case rel => exact ⟨_, (true), (by first | rfl | (simp; done) | (simp [*]; done)), H', ⟨by first | omega | exact Nat.le_refl _⟩, ⟨by (with_reducible repeat (first | apply Kd.R_alloc | apply Kd.R_drewN | apply Kd.R_drew)); exact HO209.out⟩, ⟨by repeat (first | (with_reducible first | exact HB.out | apply below_alloc | apply pw_below_drewN | apply below_drew1) | exact HB.out)⟩⟩
          case rest =>
            clear HC12
            try clear c1
            try clear p1
            try clear q1
            try clear hx1
            try clear c2
            try clear p2
            try clear c6
            try clear c6b0
            try clear c6b1
            try clear p6
            try clear c7
            try clear c7b0
            try clear c7b1
            try clear c8
            try clear c9
            try clear c9b0
            try clear c10
            try clear c10b0
            try clear p11
            try clear q11
            try clear hx11
            try clear hf11
            try clear c18
            try clear c18b0
            try clear c18b1
            try clear c18b2
            try clear c20
            try clear hx11_0
            try clear p11
            try clear q11
            obtain ⟨kq, x44_11, rfl, HA, HJ11, HO_8, HB⟩ := hcut
            have hl8_11 := (Kd.R_reads' HO_8.out).1
            rw [hl8_11] at HO_8
            (try simp only [hl8_11])
            cases kq with
            | zero => exact absurd HA.out (by simp [carillonlaw01_OctetsZeros.j0])
            | succ kj11 =>
              have H := HA.out
              clear HA
              simp only [carillonlaw01_OctetsZeros.j0] at H
              by_cases c22 : x44_11 = true
              · subst c22
                have H1 : (some false) = some r := by rw [if_pos rfl] at H; exact H
                clear H
                have H := H1
                clear H1
                obtain rfl := Option.some.inj H
                go_wp2
                go_ret
                exact ⟨by first | rfl | (simp [errW_none, errW_some] <;> rfl) | (simp only [← hji5]; first | rfl | (simp [errW_none, errW_some] <;> rfl)) | (simp [*, errW_none, errW_some] <;> rfl), by repeat (first | (with_reducible first | exact HB.out | apply below_alloc | apply pw_below_drewN | apply below_drew1) | exact HB.out)⟩
              · replace c22 := Bool.eq_false_iff.mpr c22
                subst c22
                have H1 : ((octets_Zero.f kj11 y211 0 (wrap64 (ji5 + 1))).bind fun t215 => (if t215 = true then (some false) else ((octets_Zero.f kj11 y211 ji5 0).bind fun t216 => (if t216 = true then ((carillonlaw01_awake.f kj11).bind fun t217 => (some t217)) else (some false))))) = some r := by rw [if_neg (show ¬ (false = true) by decide)] at H; exact H
                clear H
                have H := H1
                clear H1
                replace H := Option.bind_eq_some_iff.mp H
                obtain ⟨t215, A230, H⟩ := H
                replace H : (if t215 = true then (some false) else ((octets_Zero.f kj11 y211 ji5 0).bind fun t216 => (if t216 = true then ((carillonlaw01_awake.f kj11).bind fun t217 => (some t217)) else (some false)))) = some r := H
                have A23 := Aside0.mk A230
                clear A230
                by_cases c24 : t215 = true
                · subst c24
                  have H1 : (some false) = some r := by rw [if_pos rfl] at H; exact H
                  clear H
                  have H := H1
                  clear H1
                  obtain rfl := Option.some.inj H
                  go_wp2_with (first | ((with_reducible refine gate_callee (f := 18) rfl ?_); refine goesL_ (some 48) rfl rfl Try.func18 (by kernel_rfl) rfl #[.slice (some ⟨go11, 0, none⟩) y211.length co11, .int .i64 0, .int .i64 (wrap64 (ji5 + 1))] rfl (by (try simp only [List.map_toArray, List.map_cons, List.map_nil]); first | done | (simp only [hji5]; rfl) | rfl | (simp only [List.length_drop, List.length_take]; rfl)) ?_; (with_reducible refine (octets_Zero.calls kj11 _ _ y211 0 (wrap64 (ji5 + 1)) true _ ?side1 ?side2 A23.out).mono ?_); (case side1 => repeat (first | exact (Kd.R_reads' HO_8.out).2.2 | (with_reducible refine Kd.C_alloc ?_ _) | (with_reducible refine Kd.C_drewN ?_ _) | (with_reducible refine Kd.C_drew ?_))); (case side2 => exact (Kd.R_reads' HO_8.out).2.1); rintro e w' ⟨rfl, ⟨nd, rfl⟩⟩; refine ⟨_, rfl, ?_⟩))
                  go_ret
                  exact ⟨by first | rfl | (simp [errW_none, errW_some] <;> rfl) | (simp only [← hji5]; first | rfl | (simp [errW_none, errW_some] <;> rfl)) | (simp [*, errW_none, errW_some] <;> rfl), by repeat (first | (with_reducible first | exact HB.out | apply below_alloc | apply pw_below_drewN | apply below_drew1) | exact HB.out)⟩
                · replace c24 := Bool.eq_false_iff.mpr c24
                  subst c24
                  have H1 : ((octets_Zero.f kj11 y211 ji5 0).bind fun t216 => (if t216 = true then ((carillonlaw01_awake.f kj11).bind fun t217 => (some t217)) else (some false))) = some r := by rw [if_neg (show ¬ (false = true) by decide)] at H; exact H
                  clear H
                  have H := H1
                  clear H1
                  replace H := Option.bind_eq_some_iff.mp H
                  obtain ⟨t216, A250, H⟩ := H
                  replace H : (if t216 = true then ((carillonlaw01_awake.f kj11).bind fun t217 => (some t217)) else (some false)) = some r := H
                  have A25 := Aside0.mk A250
                  clear A250
                  by_cases c26 : t216 = true
                  · subst c26
                    have H1 : ((carillonlaw01_awake.f kj11).bind fun t217 => (some t217)) = some r := by rw [if_pos rfl] at H; exact H
                    clear H
                    have H := H1
                    clear H1
                    replace H := Option.bind_eq_some_iff.mp H
                    obtain ⟨t217, A270, H⟩ := H
                    replace H : (some t217) = some r := H
                    have A27 := Aside0.mk A270
                    clear A270
                    obtain rfl := Option.some.inj H
                    go_wp2_with (first | ((with_reducible refine gate_callee (f := 18) rfl ?_); refine goesL_ (some 48) rfl rfl Try.func18 (by kernel_rfl) rfl #[.slice (some ⟨go11, 0, none⟩) y211.length co11, .int .i64 0, .int .i64 (wrap64 (ji5 + 1))] rfl (by (try simp only [List.map_toArray, List.map_cons, List.map_nil]); first | done | (simp only [hji5]; rfl) | rfl | (simp only [List.length_drop, List.length_take]; rfl)) ?_; (with_reducible refine (octets_Zero.calls kj11 _ _ y211 0 (wrap64 (ji5 + 1)) false _ ?side1 ?side2 A23.out).mono ?_); (case side1 => repeat (first | exact (Kd.R_reads' HO_8.out).2.2 | (with_reducible refine Kd.C_alloc ?_ _) | (with_reducible refine Kd.C_drewN ?_ _) | (with_reducible refine Kd.C_drew ?_))); (case side2 => exact (Kd.R_reads' HO_8.out).2.1); rintro e w' ⟨rfl, ⟨nd, rfl⟩⟩; refine ⟨_, rfl, ?_⟩) | (go_at_call 18; (with_reducible refine (octets_Zero.calls kj11 _ _ y211 ji5 0 true _ ?side1 ?side2 A25.out).mono ?_); (case side1 => repeat (first | exact (Kd.R_reads' HO_8.out).2.2 | (with_reducible refine Kd.C_alloc ?_ _) | (with_reducible refine Kd.C_drewN ?_ _) | (with_reducible refine Kd.C_drew ?_))); (case side2 => exact (Kd.R_reads' HO_8.out).2.1); rintro e w' ⟨rfl, ⟨nd, rfl⟩⟩) | (go_at_call 11; (with_reducible refine (carillonlaw01_awake.calls kj11  t217 _ A27.out).mono ?_); rintro e w28 ⟨rfl, hb⟩; have n0_ := Aside0.mk (Kd.R_below (by (with_reducible repeat (first | apply Kd.R_alloc | apply Kd.R_drewN | apply Kd.R_drew)); exact HO_8.out) hb); have n1_ := Aside0.mk (below_step (by repeat (first | (with_reducible first | exact HB.out | apply below_alloc | apply pw_below_drewN | apply below_drew1) | exact HB.out)) hb); clear HO_8; clear HB; have HO_8 := n0_; have HB := n1_; clear n0_ n1_; (try clear hb); (try clear hb2); (try clear hk); (try clear hi)))
                    go_ret
                    exact ⟨by first | rfl | (simp [errW_none, errW_some] <;> rfl) | (simp only [← hji5]; first | rfl | (simp [errW_none, errW_some] <;> rfl)) | (simp [*, errW_none, errW_some] <;> rfl), by repeat (first | (with_reducible first | exact HB.out | apply below_alloc | apply pw_below_drewN | apply below_drew1) | exact HB.out)⟩
                  · replace c26 := Bool.eq_false_iff.mpr c26
                    subst c26
                    have H1 : (some false) = some r := by rw [if_neg (show ¬ (false = true) by decide)] at H; exact H
                    clear H
                    have H := H1
                    clear H1
                    obtain rfl := Option.some.inj H
                    go_wp2_with (first | ((with_reducible refine gate_callee (f := 18) rfl ?_); refine goesL_ (some 48) rfl rfl Try.func18 (by kernel_rfl) rfl #[.slice (some ⟨go11, 0, none⟩) y211.length co11, .int .i64 0, .int .i64 (wrap64 (ji5 + 1))] rfl (by (try simp only [List.map_toArray, List.map_cons, List.map_nil]); first | done | (simp only [hji5]; rfl) | rfl | (simp only [List.length_drop, List.length_take]; rfl)) ?_; (with_reducible refine (octets_Zero.calls kj11 _ _ y211 0 (wrap64 (ji5 + 1)) false _ ?side1 ?side2 A23.out).mono ?_); (case side1 => repeat (first | exact (Kd.R_reads' HO_8.out).2.2 | (with_reducible refine Kd.C_alloc ?_ _) | (with_reducible refine Kd.C_drewN ?_ _) | (with_reducible refine Kd.C_drew ?_))); (case side2 => exact (Kd.R_reads' HO_8.out).2.1); rintro e w' ⟨rfl, ⟨nd, rfl⟩⟩; refine ⟨_, rfl, ?_⟩) | (go_at_call 18; (with_reducible refine (octets_Zero.calls kj11 _ _ y211 ji5 0 false _ ?side1 ?side2 A25.out).mono ?_); (case side1 => repeat (first | exact (Kd.R_reads' HO_8.out).2.2 | (with_reducible refine Kd.C_alloc ?_ _) | (with_reducible refine Kd.C_drewN ?_ _) | (with_reducible refine Kd.C_drew ?_))); (case side2 => exact (Kd.R_reads' HO_8.out).2.1); rintro e w' ⟨rfl, ⟨nd, rfl⟩⟩))
                    go_ret
                    exact ⟨by first | rfl | (simp [errW_none, errW_some] <;> rfl) | (simp only [← hji5]; first | rfl | (simp [errW_none, errW_some] <;> rfl)) | (simp [*, errW_none, errW_some] <;> rfl), by repeat (first | (with_reducible first | exact HB.out | apply below_alloc | apply pw_below_drewN | apply below_drew1) | exact HB.out)⟩
        · rw [if_neg c10] at H
          exact absurd H (by simp)
      · rw [if_neg c9] at H
        exact absurd H (by simp)
    · rw [if_neg c7] at H
      exact absurd H (by simp)
  · rw [if_neg c6] at H
    exact absurd H (by simp)

/-- THE ONE PURE STATEMENT of carillonlaw01_OctetsZeros: yours. -/
def carillonlaw01_OctetsZeros.Pure : Prop := ∀ (a0 : Int) (a1 : Int) (a2 : Int), (Lit.int .i64 a0).wf = true → (Lit.int .i64 a1).wf = true → (Lit.int .u8 a2).wf = true → ∃ k, carillonlaw01_OctetsZeros.f k a0 a1 a2 = some true
theorem carillonlaw01_OctetsZeros.walk (P : carillonlaw01_OctetsZeros.Pure) (a0 : Int) (a1 : Int) (a2 : Int) (w : World) (w0 : (Lit.int .i64 a0).wf = true) (w1 : (Lit.int .i64 a1).wf = true) (w2 : (Lit.int .u8 a2).wf = true) :
    Calls Try.prog 8 #[.int .i64 a0, .int .i64 a1, .int .u8 a2] w fun e w' => e = .returned (.bool true) ∧ Below w.heap.size w w' := by
  obtain ⟨k, h⟩ := P a0 a1 a2 w0 w1 w2
  refine (carillonlaw01_OctetsZeros.calls k a0 a1 a2 true w h).mono ?_
  rintro e w' ⟨rfl, hd⟩
  exact ⟨rfl, hd⟩

end Go.Proofs.Ythdigeknonamaaa.P
