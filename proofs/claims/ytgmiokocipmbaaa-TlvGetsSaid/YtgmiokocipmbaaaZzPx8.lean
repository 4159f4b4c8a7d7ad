/- Functions and loops of the given program as Lean functions, and that the code comes to what they say: written by this session's own program; Lean checks it. -/
import Derived.Test.YtgmiokocipmbaaaZzPx0
namespace Go.Proofs.Ytgmiokocipmbaaa.P
open Go.RowKit Go.Proofs.YtgmiokocipmbaaaW.PrintWords Go.Proofs.YtgmiokocipmbaaaW.PrintLast Go.Proofs.YtgmiokocipmbaaaW.PrintMore
attribute [local go_sem] max2_int min2_int max_two min_two max_three min_three max_four min_four   -- for this text's walks alone
set_option linter.unusedVariables false
set_option linter.unusedSimpArgs false
/-! ### carillonlaw00_Bytes: function 22 -/
def carillonlaw00_Bytes.f (l0 : List Int) : Option (List Int) := if ([] : List Int).length + l0.length < 140737488355328 then (some (([] : List Int) ++ l0)) else (none)
set_option maxHeartbeats 8000000 in
set_option maxRecDepth 100000 in
theorem carillonlaw00_Bytes.calls (A0 : Option Addr) (c0 : Nat) (l0 : List Int) (r : List Int) (w : World) (hr0 : Kd.C (Kd.int .u8) w A0 l0.length l0) (hc0 : l0.length ≤ c0) (h : carillonlaw00_Bytes.f l0 = some r) :
    Calls Try.prog 22 #[.slice A0 l0.length c0] w fun e w' => ∃ v0_ : Value, e = .returned (v0_) ∧ Kd.R (Kd.int .u8) 5 w' w.heap.size (fun _ => True) v0_ r ∧ Below w.heap.size w w' := by
  have HR0 := Aside0.mk hr0
  have HC0 := Aside0.mk hc0
  clear hr0 hc0
  have HB := Aside0.mk (Below.refl w.heap.size w)
  have H : (if ([] : List Int).length + l0.length < 140737488355328 then (some (([] : List Int) ++ l0)) else (none)) = some r := h
  clear h
  by_cases c2 : ([] : List Int).length + l0.length < 140737488355328
  · rw [if_pos c2] at H
    have LMc2 := Aside0.mk c2
    clear c2
    obtain ⟨y130, hy130⟩ : ∃ y_ : List Int, y_ = (([] : List Int) ++ l0) := ⟨_, rfl⟩
    replace H : (some y130) = some r := by first | (rw [hy130]; with_reducible exact H) | (have H2_ := (Option.bind_some _ _).symm.trans H; rw [hy130]; with_reducible exact H2_) | (have H2_ := (Option.bind_some _ _).symm.trans H; with_reducible exact H2_) | with_reducible exact H | (rw [hy130]; exact H) | exact H
    have Ny130 := Aside0.mk hy130
    clear hy130
    obtain rfl := Option.some.inj H
    go_enter Try.func22, Try.ntmps22
    go_wp2_with (first | ((with_reducible refine gate_builtin (b := .append) (xs := #[.const (.slice none 0 0), .tmp 3]) rfl ?_); at_builtin; refine Kd.R_append_rows (Kd.int .u8) (w0 := w) w.heap.size rfl (.const (.slice none 0 0)) (.tmp 3) 31 5 (.int .u8 0) 1 rfl Try.underlying31 info5 rfl (by decide) (by omega) (.slice none 0 0) ([] : List Int) l0 _ _ _ (fun _ => True) (fun _ => False) rfl rfl ?aO ?aR (fun _ _ h => h) (fun _ h => h.elim) ?aF ?aB ?aS ?aL ?_; (case aR => repeat (first | exact HR0.out | (with_reducible refine Kd.C_alloc ?_ _) | (with_reducible refine Kd.C_drewN ?_ _) | (with_reducible refine Kd.C_drew ?_))); (case aB => exact (by repeat (first | (with_reducible first | exact HB.out | apply below_alloc | apply pw_below_drewN | apply below_drew1) | exact HB.out))); (case aF => exact (fun _ _ => trivial)); (case aO => exact ((Kd.R_nil _ _ _ _ (fun _ => True)))); (case aS => exact (below_size (by repeat (first | (with_reducible first | exact HB.out | apply below_alloc | apply pw_below_drewN | apply below_drew1) | exact HB.out)))); (case aL => have := LMc2.out; omega); intro v131 w3 ho hb hg hat; rw [← Ny130.out] at ho; have n0_ := Aside0.mk (hb); have n1_ := Aside0.mk (ho); clear HB; have HB := n0_; have HO132 := n1_; clear n0_ n1_; clear ho hb hg hat))
    all_goals
      go_ret
      exact ⟨_, by first | rfl | (simp [errW_none, errW_some] <;> rfl) | (simp [*, errW_none, errW_some] <;> rfl), by (with_reducible repeat (first | apply Kd.R_alloc | apply Kd.R_drewN | apply Kd.R_drew)); exact HO132.out, by repeat (first | (with_reducible first | exact HB.out | apply below_alloc | apply pw_below_drewN | apply below_drew1) | exact HB.out)⟩
  · rw [if_neg c2] at H
    exact absurd H (by simp)
/-! ### carillonref01_fits: function 51 -/
def carillonref01_fits.f (l0 : List Int) (a1 : Int) (a2 : Int) : Option (Bool) := if a1 ≥ 0 then (if a1 ≤ (l0.length : Int) then (some (decide (a2 ≤ (wrap64 ((l0.length : Int) - a1))))) else (some false)) else (some false)
set_option maxHeartbeats 8000000 in
set_option maxRecDepth 100000 in
theorem carillonref01_fits.calls (A0 : Option Addr) (c0 : Nat) (l0 : List Int) (a1 : Int) (a2 : Int) (r : Bool) (w : World) (hr0 : Kd.C (Kd.int .u8) w A0 l0.length l0) (hc0 : l0.length ≤ c0) (h : carillonref01_fits.f l0 a1 a2 = some r) :
    Calls Try.prog 51 #[.slice A0 l0.length c0, .int .i64 a1, .int .i64 a2] w fun e w' => e = .returned (.bool r) ∧ Drawn0 w w' := by
  have HR0 := Aside0.mk hr0
  have HC0 := Aside0.mk hc0
  clear hr0 hc0
  have H : (if a1 ≥ 0 then (if a1 ≤ (l0.length : Int) then (some (decide (a2 ≤ (wrap64 ((l0.length : Int) - a1))))) else (some false)) else (some false)) = some r := h
  clear h
  by_cases c4 : a1 ≥ 0
  · rw [if_pos c4] at H
    have c4b0 : decide (0 ≤ a1) = true := decide_eq_true c4
    clear c4
    by_cases c5 : a1 ≤ (l0.length : Int)
    · rw [if_pos c5] at H
      have c5b0 : decide (a1 ≤ (l0.length : Int)) = true := decide_eq_true c5
      clear c5
      obtain rfl := Option.some.inj H
      go_enter Try.func51, Try.ntmps51
      go_wp2
      all_goals
        go_ret
        exact ⟨by first | rfl | (simp; done) | (simp [*]; done), by repeat (first | exact Drawn0.refl _ | apply Drawn0.step)⟩
    · rw [if_neg c5] at H
      have c5b0 : decide (a1 ≤ (l0.length : Int)) = false := decide_eq_false c5
      clear c5
      obtain rfl := Option.some.inj H
      go_enter Try.func51, Try.ntmps51
      go_wp2
      all_goals
        go_ret
        exact ⟨by first | rfl | (simp; done) | (simp [*]; done), by repeat (first | exact Drawn0.refl _ | apply Drawn0.step)⟩
  · rw [if_neg c4] at H
    have c4b0 : decide (0 ≤ a1) = false := decide_eq_false c4
    clear c4
    obtain rfl := Option.some.inj H
    go_enter Try.func51, Try.ntmps51
    go_wp2
    all_goals
      go_ret
      exact ⟨by first | rfl | (simp; done) | (simp [*]; done), by repeat (first | exact Drawn0.refl _ | apply Drawn0.step)⟩
/-! ### carillonref01_Get: function 44 -/
mutual
def carillonref01_Get.j0 : Nat → List Int → Int → Int → Bool → Option (Int × Bool)
  | 0, _, _, _, _ => none
  | k + 1, x0, x1, x2, x22 => if x22 = true then (some (0, false)) else (carillonref01_Get.l0 k x0 x1 x2 0 0)
def carillonref01_Get.l0 : Nat → List Int → Int → Int → Int → Int → Option (Int × Bool)
  | 0, _, _, _, _, _ => none
  | k + 1, x0, x1, x2, x8, x9 => if x9 < x2 then (if 0 ≤ (wrap64 (x1 + x9)) then (if (wrap64 (x1 + x9)) < (x0.length : Int) then (carillonref01_Get.l0 k x0 x1 x2 (wrap64 ((wrap64 (256 * x8)) + (wrap64 (rd x0 (wrap64 (x1 + x9)))))) (wrap64 (x9 + 1))) else (none)) else (none)) else (some (x8, true))
end
def carillonref01_Get.f (k : Nat) (l0 : List Int) (a1 : Int) (a2 : Int) : Option (Int × Bool) := if a2 < 1 then (carillonref01_Get.j0 k l0 a1 a2 true) else (if a2 > 7 then (carillonref01_Get.j0 k l0 a1 a2 true) else ((carillonref01_fits.f l0 a1 a2).bind fun t133 => (carillonref01_Get.j0 k l0 a1 a2 (!t133))))
set_option maxHeartbeats 8000000 in
set_option maxRecDepth 100000 in
theorem carillonref01_Get.calls (k : Nat) (A0 : Option Addr) (c0 : Nat) (l0 : List Int) (a1 : Int) (a2 : Int) (r1 : Int) (r2 : Bool) (w : World) (hr0 : Kd.C (Kd.int .u8) w A0 l0.length l0) (hc0 : l0.length ≤ c0) (h : carillonref01_Get.f k l0 a1 a2 = some (r1, r2)) :
    Calls Try.prog 44 #[.slice A0 l0.length c0, .int .i64 a1, .int .i64 a2] w fun e w' => e = .returned (.tuple #[.int .i64 r1, .bool r2]) ∧ Drawn0 w w' := by
  have HR0 := Aside0.mk hr0
  have HC0 := Aside0.mk hc0
  clear hr0 hc0
  have H : (if a2 < 1 then (carillonref01_Get.j0 k l0 a1 a2 true) else (if a2 > 7 then (carillonref01_Get.j0 k l0 a1 a2 true) else ((carillonref01_fits.f l0 a1 a2).bind fun t133 => (carillonref01_Get.j0 k l0 a1 a2 (!t133))))) = some (r1, r2) := h
  clear h
  have HC4 := Aside0.mk H
  clear H
  go_enter Try.func44, Try.ntmps44
  go_upto_region 1 with (fail)
  go_cut [22] (fun v22 wc => ∃ (kq : Nat) (x22_3 : Bool), v22 = .bool x22_3 ∧ Aside0 (carillonref01_Get.j0 kq l0 a1 a2 x22_3 = some (r1, r2)) ∧ Aside0 (kq ≤ k) ∧ Drawn0 w wc)
  case first =>
    have H := HC4.out
    clear HC4
    by_cases c5 : a2 < 1
    · rw [if_pos c5] at H
      have c5b0 : decide (a2 < 1) = true := decide_eq_true c5
      clear c5
      (first | rw [c5b0] | (simp only [i64_w, i32_w]; rw [c5b0]) | skip)
      have H' := Aside0.mk H
      clear H
      go_wp2
      go_meet
      case rel => exact ⟨_, (true), (by first | rfl | (simp; done) | (simp [*]; done)), H', ⟨by first | omega | exact Nat.le_refl _⟩, by repeat (first | exact Drawn0.refl _ | apply Drawn0.step)⟩
    · rw [if_neg c5] at H
      have c5b0 : decide (a2 < 1) = false := decide_eq_false c5
      clear c5
      (first | rw [c5b0] | (simp only [i64_w, i32_w]; rw [c5b0]) | skip)
      by_cases c6 : a2 > 7
      · rw [if_pos c6] at H
        have c6b0 : decide (7 < a2) = true := decide_eq_true c6
        clear c6
        have H' := Aside0.mk H
        clear H
        go_wp2
        go_meet
        case rel => exact ⟨_, (true), (by first | rfl | (simp; done) | (simp [*]; done)), H', ⟨by first | omega | exact Nat.le_refl _⟩, by repeat (first | exact Drawn0.refl _ | apply Drawn0.step)⟩
      · rw [if_neg c6] at H
        have c6b0 : decide (7 < a2) = false := decide_eq_false c6
        clear c6
        replace H := Option.bind_eq_some_iff.mp H
        obtain ⟨t133, A70, H⟩ := H
        replace H : (carillonref01_Get.j0 k l0 a1 a2 (!t133)) = some (r1, r2) := H
        have A7 := Aside0.mk A70
        clear A70
        have H' := Aside0.mk H
        clear H
        go_wp2_with (first | (go_at_call 51; (with_reducible refine (carillonref01_fits.calls _ _ l0 a1 a2 t133 _ ?side1 ?side2 A7.out).mono ?_); (case side1 => repeat (first | exact HR0.out | (with_reducible refine Kd.C_alloc ?_ _) | (with_reducible refine Kd.C_drewN ?_ _) | (with_reducible refine Kd.C_drew ?_))); (case side2 => exact HC0.out); rintro e w' ⟨rfl, ⟨nd, rfl⟩⟩))
        go_meet
        case rel => exact ⟨_, (!t133), (by first | rfl | (simp; done) | (simp [*]; done)), H', ⟨by first | omega | exact Nat.le_refl _⟩, by repeat (first | exact Drawn0.refl _ | apply Drawn0.step)⟩
  case rest =>
    clear HC4
    try clear p2
    try clear c4
    try clear c5
    try clear c5b0
    try clear c6
    try clear c6b0
    obtain ⟨kq, x22_3, rfl, HA, HJ3, ⟨mc3, rfl⟩⟩ := hcut
    cases kq with
    | zero => exact absurd HA.out (by simp [carillonref01_Get.j0])
    | succ kj3 =>
      have H := HA.out
      clear HA
      simp only [carillonref01_Get.j0] at H
      by_cases c8 : x22_3 = true
      · subst c8
        have H1 : (some (0, false)) = some (r1, r2) := by rw [if_pos rfl] at H; exact H
        clear H
        have H := H1
        clear H1
        simp only [Option.some.injEq, Prod.mk.injEq] at H
        obtain ⟨rfl, rfl⟩ := H
        go_wp2
        go_ret2
        exact ⟨by first | rfl | (simp; done) | (simp [*]; done), by repeat (first | exact Drawn0.refl _ | apply Drawn0.step)⟩
      · replace c8 := Bool.eq_false_iff.mpr c8
        subst c8
        have H1 : (carillonref01_Get.l0 kj3 l0 a1 a2 0 0) = some (r1, r2) := by rw [if_neg (show ¬ (false = true) by decide)] at H; exact H
        clear H
        have H := H1
        clear H1
        have H' := Aside0.mk H
        clear H
        go_wp2
        go_loopg [8, 9] kj3 (fun kq v8 v9 w' => ∃ (x8_2 : Int) (x9_2 : Int), v8 = .int .i64 x8_2 ∧ v9 = .int .i64 x9_2 ∧ Aside0 (carillonref01_Get.l0 kq l0 a1 a2 x8_2 x9_2 = some (r1, r2)) ∧ Aside0 (kq ≤ kj3) ∧ Drawn0 w w')
        case atStart => exact ⟨(0), (0), (by first | rfl | (simp; done) | (simp [*]; done)), (by first | rfl | (simp; done) | (simp [*]; done)), H', ⟨Nat.le_refl _⟩, by repeat (first | exact Drawn0.refl _ | apply Drawn0.step)⟩
        case round =>
          clear H'
          try clear p2
          try clear c3
          try clear c4
          try clear c5
          try clear c5b0
          try clear c6
          try clear c6b0
          try clear c8
          try clear p2
          obtain ⟨x8_2, x9_2, rfl, rfl, HA, HK2, ⟨m2, rfl⟩⟩ := hrel
          cases gk with
          | zero => exact absurd HA.out (by simp [carillonref01_Get.l0])
          | succ k2 =>
            have H := HA.out
            clear HA
            simp only [carillonref01_Get.l0] at H
            by_cases c9 : x9_2 < a2
            · rw [if_pos c9] at H
              have c9b0 : decide (x9_2 < a2) = true := decide_eq_true c9
              clear c9
              obtain ⟨ji10, hji10⟩ : ∃ j_ : Int, (wrap64 (a1 + x9_2)) = j_ := ⟨_, rfl⟩
              replace H : (if 0 ≤ (ji10) then (if (ji10) < (l0.length : Int) then (carillonref01_Get.l0 k2 l0 a1 a2 (wrap64 ((wrap64 (256 * x8_2)) + (wrap64 (rd l0 (ji10))))) (wrap64 (x9_2 + 1))) else (none)) else (none)) = some (r1, r2) := by first | (rw [hji10] at H; exact H) | (simp only [hji10] at H ⊢; exact H)
              have hji10w : (IntKind.i64.wrap (a1 + x9_2)) = ji10 := (i64_w _).trans hji10
              by_cases c11 : 0 ≤ (ji10)
              · rw [if_pos c11] at H
                have c11b0 : decide (0 ≤ (ji10)) = true := decide_eq_true c11
                clear c11
                by_cases c12 : (ji10) < (l0.length : Int)
                · rw [if_pos c12] at H
                  have c12b0 : decide ((ji10) < (l0.length : Int)) = true := decide_eq_true c12
                  clear c12
                  have H' := Aside0.mk H
                  clear H
                  have p134 : 0 ≤ ((ji10) : Int) := of_decide_eq_true (by first | (with_reducible assumption) | assumption)
                  have q134 : (ji10) < (l0.length : Int) := of_decide_eq_true (by first | (with_reducible assumption) | assumption)
                  obtain ⟨ad134, e134, hx134_0⟩ := Kd.at_int HR0.out (ji10) p134 q134
                  cases e134
                  replace p134 := eq_true p134
                  replace q134 := eq_true q134
                  go_wp2
                  go_roundg k2
                  case measure => have := HJ3.out; have := HK2.out; omega
                  case rel => exact ⟨(wrap64 ((wrap64 (256 * x8_2)) + (wrap64 (rd l0 (ji10))))), (wrap64 (x9_2 + 1)), (by first | rfl | (simp; done) | (simp only [← hji10] <;> (first | rfl | simp)) | (simp [*]; done)), (by first | rfl | (simp; done) | (simp [*]; done)), H', ⟨by have := HJ3.out; have := HK2.out; omega⟩, by repeat (first | exact Drawn0.refl _ | apply Drawn0.step)⟩
                · rw [if_neg c12] at H
                  exact absurd H (by simp)
              · rw [if_neg c11] at H
                exact absurd H (by simp)
            · rw [if_neg c9] at H
              have c9b0 : decide (x9_2 < a2) = false := decide_eq_false c9
              clear c9
              simp only [Option.some.injEq, Prod.mk.injEq] at H
              obtain ⟨rfl, rfl⟩ := H
              go_wp2
              go_ret2
              exact ⟨by first | rfl | (simp; done) | (simp [*]; done), by repeat (first | exact Drawn0.refl _ | apply Drawn0.step)⟩
/-! ### carillonref08_Get: function 23: by our own printer -/
def carillonref08_Get.l1 (k : Nat) : Nat → (List Int) → Int → (List (S26)) → Option (List (S26) × Int)
  | 0, _, _, _ => none
  | n1 + 1, y1_0, x1_1, y1_6 => if x1_1 < (y1_0.length : Int) then (if (y1_6.length : Int) = 8 then (some ([], 7)) else (if (wrap64 ((y1_0.length : Int) - x1_1)) < 4 then (some ([], 2)) else ((carillonref01_Get.f k y1_0 x1_1 2).bind fun t1014 => ((carillonref01_Get.f k y1_0 (wrap64 (x1_1 + 2)) 2).bind fun t1018 => (if t1018.1 > (wrap64 ((wrap64 ((y1_0.length : Int) - x1_1)) - 4)) then (some ([], 2)) else (if (Int.tmod t1018.1 2) = 0 then (if 0 ≤ (wrap64 (x1_1 + 4)) then (if (wrap64 (x1_1 + 4)) ≤ (wrap64 ((wrap64 (x1_1 + 4)) + t1018.1)) then (if (wrap64 ((wrap64 (x1_1 + 4)) + t1018.1)) ≤ (y1_0.length : Int) then (if (y1_6.length + [(⟨t1014.1, strOfNums ((y1_0.take (wrap64 ((wrap64 (x1_1 + 4)) + t1018.1) : Int).toNat).drop (wrap64 (x1_1 + 4) : Int).toNat)⟩ : S26)].length) * 24 ≤ 140737488355328 then (carillonref08_Get.l1 k n1 y1_0 (wrap64 ((wrap64 (x1_1 + 4)) + t1018.1)) (y1_6 ++ [(⟨t1014.1, strOfNums ((y1_0.take (wrap64 ((wrap64 (x1_1 + 4)) + t1018.1) : Int).toNat).drop (wrap64 (x1_1 + 4) : Int).toNat)⟩ : S26)] : List S26)) else (none)) else (none)) else (none)) else (none)) else (some ([], 4)))))))) else (some (y1_6, 0))
def carillonref08_Get.f (k : Nat) (l0 : List Int) (a1 : Int) : Option (List (S26) × Int) := if a1 < 0 then (some ([], 1)) else (if a1 > (l0.length : Int) then (some ([], 1)) else (carillonref08_Get.l1 k k l0 a1 []))
open Go.Proofs.Ytgmiokocipmbaaa.E in
theorem carillonref08_Get.flat26 : Flat k26 (fun x => [.int .i64 x.f0, .string x.f1]) := ⟨fun w x cs h => k26_open h, fun w base x => k26_mkM w base _ x⟩
open Go.Proofs.Ytgmiokocipmbaaa.E in
set_option maxHeartbeats 60000000 in
set_option maxRecDepth 100000 in
theorem carillonref08_Get.calls (k : Nat) (A0 : Option Addr) (cp0 : Nat) (l0 : List Int) (a1 : Int) (r1 : List (S26)) (r2 : Int) (w : World) (HR0 : Kd.C (Kd.int .u8) w A0 l0.length l0) (HC0 : l0.length ≤ cp0) (h : carillonref08_Get.f k l0 a1 = some (r1, r2)) :
    Calls Try.prog 23 #[.slice A0 l0.length cp0, .int .i64 a1] w fun e w' => ∃ v0_ : Value, e = .returned (.tuple #[v0_, .int .i64 r2]) ∧ Kd.R k26 26 w' w.heap.size (fun _ => True) v0_ r1 ∧ Below w.heap.size w w' := by
  have H := h
  clear h
  unfold carillonref08_Get.f at H
  by_cases c1 : a1 < 0
  · rw [if_pos c1] at H
    simp only [Option.some.injEq, Prod.mk.injEq] at H
    obtain ⟨rfl, rfl⟩ := H
    refine calls_of_wp (fn := Try.f23) (by kernel_rfl) rfl ?_
    have hS := St.enter #[.slice A0 l0.length cp0, .int .i64 a1] 73 (by simp) [(0, .slice A0 l0.length cp0), (1, .int .i64 a1)] (by simp)
    have HB0 := Below.refl w.heap.size w
    refine wp_seq_k (fun K1 hK1 => ?_)
    refine reg_seq (N := 73) (bs := [(0, .slice A0 l0.length cp0), (1, .int .i64 a1)]) (I := fun x => Below w.heap.size w x) (ps := [IsV (.slice none 0 0), VI 0]) (by kernel_rfl) ?_ ?_ rfl hS HB0 ?_ ?_
    · exact fun x y hI hb => below_step hI hb
    · exact .v (.v (.nil))
    · refine .on rfl (fun a w hS hI hp => does_val (x_assign rfl (rfl)) rfl) ?_
      refine .on rfl (fun a w hS hI hp => does_val (x_assign rfl (rfl)) rfl) ?_
      exact .nil
    clear hS
    intro at2 w3 hS hI hp
    have hBw3_w := hI
    have hBw3_w3 := Below.refl w3.heap.size w3
    clear hp hI
    refine hK1 _ _ ?_
    (try clear hK1 K1)
    refine wp_seq_k (fun K4 hK4 => ?_)
    refine wp_seq_k (fun K5 hK5 => ?_)
    refine reg_seq (N := 73) (bs := [(0, .slice A0 l0.length cp0), (1, .int .i64 a1)]) (I := fun x => Below w.heap.size w x ∧ Below w3.heap.size w3 x) (ps := [VI a1, VB (decide (a1 < 0)), VB (decide (a1 < 0)), VU, VU, VU, VU, VB true]) (by kernel_rfl) ?_ ?_ rfl hS ⟨hBw3_w, hBw3_w3⟩ ?_ ?_
    · exact fun x y hI hb => ⟨below_step hI.1 hb, below_step hI.2 hb⟩
    · exact .v (.v (.v (.v (.v (.v (.v (.v (.nil))))))))
    · refine .ms 1 rfl rfl rfl ?_
      refine .on rfl (fun a w hS hI hp => does_val (x_bin rfl (hp.V 0 rfl rfl) (rfl) (b_lss _ _ _ _ _ _)) rfl) ?_
      refine .mv 1 rfl rfl rfl rfl ?_
      iterate 4 refine .sn 2 13 rfl rfl rfl rfl rfl ((decide_eq_true c1)) ?_
      refine .on rfl (fun a w hS hI hp => does_val (x_pickT rfl ((hp.V 2 rfl rfl).trans (bT (decide_eq_true c1))) (rfl)) rfl) ?_
      exact .nil
    clear hS
    intro at6 w7 hS hI hp
    have hBw7_w := hI.1
    have hBw7_w3 := hI.2
    have hv18 : sl _ 18 = .bool true := hp 7 (by decide)
    have hBw7_w7 := Below.refl w7.heap.size w7
    have hS := hS.cons hv18
    clear hp hI hv18
    refine hK5 _ _ ?_
    (try clear hK5 K5)
    refine wp_cond_true ((hS.get 0 rfl).trans (bT rfl)) ?_
    refine wp_seq_k (fun K8 hK8 => ?_)
    refine reg_seq (N := 73) (bs := [(18, .bool true), (0, .slice A0 l0.length cp0), (1, .int .i64 a1)]) (I := fun x => Below w.heap.size w x ∧ Below w7.heap.size w7 x) (ps := [IsV (.slice none 0 0), VI 1]) (by kernel_rfl) ?_ ?_ rfl hS ⟨hBw7_w, hBw7_w7⟩ ?_ ?_
    · exact fun x y hI hb => ⟨below_step hI.1 hb, below_step hI.2 hb⟩
    · exact .v (.v (.nil))
    · refine .on rfl (fun a w hS hI hp => does_val (x_assign rfl (rfl)) rfl) ?_
      refine .on rfl (fun a w hS hI hp => does_val (x_assign rfl (rfl)) rfl) ?_
      exact .nil
    clear hS
    intro at9 w10 hS hI hp
    have hBw10_w := hI.1
    have hBw10_w7 := hI.2
    replace hS := hS.nil
    have hv4 : sl _ 4 = .slice none 0 0 := hp 0 (by decide)
    have hv5 : sl _ 5 = .int .i64 1 := hp 1 (by decide)
    have hBw10_w10 := Below.refl w10.heap.size w10
    have hS := hS.cons hv4
    have hS := hS.cons hv5
    clear hp hI hv4 hv5
    refine hK8 _ _ ?_
    (try clear hK8 K8)
    refine wp_ret ?_
    (try simp only [Exit.then, Exit.inBlock, Exit.jump, Exit.noGoto])
    exact bodyPost_ret (v := .tuple #[.slice none 0 0, .int .i64 1]) (results_list (rs := [.tmp 4, .tmp 5]) rfl (by simp) (Vals.at (hS.get 1 rfl) (Vals.at (hS.get 0 rfl) .nil))) hS.nodef ⟨.slice none 0 0, rfl, Kd.R_nil _ _ _ _ _, hBw10_w⟩
  rw [if_neg c1] at H
  by_cases c2 : a1 > (l0.length : Int)
  · rw [if_pos c2] at H
    simp only [Option.some.injEq, Prod.mk.injEq] at H
    obtain ⟨rfl, rfl⟩ := H
    refine calls_of_wp (fn := Try.f23) (by kernel_rfl) rfl ?_
    have hS := St.enter #[.slice A0 l0.length cp0, .int .i64 a1] 73 (by simp) [(0, .slice A0 l0.length cp0), (1, .int .i64 a1)] (by simp)
    have HB0 := Below.refl w.heap.size w
    refine wp_seq_k (fun K1 hK1 => ?_)
    refine reg_seq (N := 73) (bs := [(0, .slice A0 l0.length cp0), (1, .int .i64 a1)]) (I := fun x => Below w.heap.size w x) (ps := [IsV (.slice none 0 0), VI 0]) (by kernel_rfl) ?_ ?_ rfl hS HB0 ?_ ?_
    · exact fun x y hI hb => below_step hI hb
    · exact .v (.v (.nil))
    · refine .on rfl (fun a w hS hI hp => does_val (x_assign rfl (rfl)) rfl) ?_
      refine .on rfl (fun a w hS hI hp => does_val (x_assign rfl (rfl)) rfl) ?_
      exact .nil
    clear hS
    intro at2 w3 hS hI hp
    have hBw3_w := hI
    have hBw3_w3 := Below.refl w3.heap.size w3
    clear hp hI
    refine hK1 _ _ ?_
    (try clear hK1 K1)
    refine wp_seq_k (fun K4 hK4 => ?_)
    refine wp_seq_k (fun K5 hK5 => ?_)
    refine reg_seq (N := 73) (bs := [(0, .slice A0 l0.length cp0), (1, .int .i64 a1)]) (I := fun x => Below w.heap.size w x ∧ Below w3.heap.size w3 x) (ps := [VI a1, VB (decide (a1 < 0)), VB (decide (a1 < 0)), VI a1, IsV (.slice A0 l0.length cp0), VI (l0.length : Int), VB (decide (a1 > (l0.length : Int))), VB (decide (a1 > (l0.length : Int)))]) (by kernel_rfl) ?_ ?_ rfl hS ⟨hBw3_w, hBw3_w3⟩ ?_ ?_
    · exact fun x y hI hb => ⟨below_step hI.1 hb, below_step hI.2 hb⟩
    · exact .v (.v (.v (.v (.v (.v (.v (.v (.nil))))))))
    · refine .ms 1 rfl rfl rfl ?_
      refine .on rfl (fun a w hS hI hp => does_val (x_bin rfl (hp.V 0 rfl rfl) (rfl) (b_lss _ _ _ _ _ _)) rfl) ?_
      refine .mv 1 rfl rfl rfl rfl ?_
      refine .oy 2 13 rfl rfl rfl rfl rfl ((decide_eq_false c1)) (fun a w hS hI hp => does_val (x_move rfl (hS.get 1 rfl)) rfl) ?_
      refine .oy 2 13 rfl rfl rfl rfl rfl ((decide_eq_false c1)) (fun a w hS hI hp => does_val (x_move rfl (hS.get 0 rfl)) rfl) ?_
      refine .oy 2 13 rfl rfl rfl rfl rfl ((decide_eq_false c1)) (fun a w hS hI hp => does_val (x_len (e := 5) rfl (by kernel_rfl) (hp.V 4 rfl rfl)) rfl) ?_
      refine .oy 2 13 rfl rfl rfl rfl rfl ((decide_eq_false c1)) (fun a w hS hI hp => does_val (x_bin rfl (hp.V 3 rfl rfl) (hp.V 5 rfl rfl) (b_gtr _ _ _ _ _ _)) rfl) ?_
      refine .on rfl (fun a w hS hI hp => does_val (x_pickF rfl ((hp.V 2 rfl rfl).trans (bF (decide_eq_false c1))) (hp.V 6 rfl rfl)) rfl) ?_
      exact .nil
    clear hS
    intro at6 w7 hS hI hp
    have hBw7_w := hI.1
    have hBw7_w3 := hI.2
    have hv18 : sl _ 18 = .bool (decide (a1 > (l0.length : Int))) := hp 7 (by decide)
    have hBw7_w7 := Below.refl w7.heap.size w7
    have hS := hS.cons hv18
    clear hp hI hv18
    refine hK5 _ _ ?_
    (try clear hK5 K5)
    refine wp_cond_true ((hS.get 0 rfl).trans (bT (decide_eq_true c2))) ?_
    refine wp_seq_k (fun K8 hK8 => ?_)
    refine reg_seq (N := 73) (bs := [(18, .bool (decide (a1 > (l0.length : Int)))), (0, .slice A0 l0.length cp0), (1, .int .i64 a1)]) (I := fun x => Below w.heap.size w x ∧ Below w7.heap.size w7 x) (ps := [IsV (.slice none 0 0), VI 1]) (by kernel_rfl) ?_ ?_ rfl hS ⟨hBw7_w, hBw7_w7⟩ ?_ ?_
    · exact fun x y hI hb => ⟨below_step hI.1 hb, below_step hI.2 hb⟩
    · exact .v (.v (.nil))
    · refine .on rfl (fun a w hS hI hp => does_val (x_assign rfl (rfl)) rfl) ?_
      refine .on rfl (fun a w hS hI hp => does_val (x_assign rfl (rfl)) rfl) ?_
      exact .nil
    clear hS
    intro at9 w10 hS hI hp
    have hBw10_w := hI.1
    have hBw10_w7 := hI.2
    replace hS := hS.nil
    have hv4 : sl _ 4 = .slice none 0 0 := hp 0 (by decide)
    have hv5 : sl _ 5 = .int .i64 1 := hp 1 (by decide)
    have hBw10_w10 := Below.refl w10.heap.size w10
    have hS := hS.cons hv4
    have hS := hS.cons hv5
    clear hp hI hv4 hv5
    refine hK8 _ _ ?_
    (try clear hK8 K8)
    refine wp_ret ?_
    (try simp only [Exit.then, Exit.inBlock, Exit.jump, Exit.noGoto])
    exact bodyPost_ret (v := .tuple #[.slice none 0 0, .int .i64 1]) (results_list (rs := [.tmp 4, .tmp 5]) rfl (by simp) (Vals.at (hS.get 1 rfl) (Vals.at (hS.get 0 rfl) .nil))) hS.nodef ⟨.slice none 0 0, rfl, Kd.R_nil _ _ _ _ _, hBw10_w⟩
  rw [if_neg c2] at H
  refine calls_of_wp (fn := Try.f23) (by kernel_rfl) rfl ?_
  have hS := St.enter #[.slice A0 l0.length cp0, .int .i64 a1] 73 (by simp) [(0, .slice A0 l0.length cp0), (1, .int .i64 a1)] (by simp)
  have HB0 := Below.refl w.heap.size w
  refine wp_seq_k (fun K1 hK1 => ?_)
  refine reg_seq (N := 73) (bs := [(0, .slice A0 l0.length cp0), (1, .int .i64 a1)]) (I := fun x => Below w.heap.size w x) (ps := [IsV (.slice none 0 0), VI 0]) (by kernel_rfl) ?_ ?_ rfl hS HB0 ?_ ?_
  · exact fun x y hI hb => below_step hI hb
  · exact .v (.v (.nil))
  · refine .on rfl (fun a w hS hI hp => does_val (x_assign rfl (rfl)) rfl) ?_
    refine .on rfl (fun a w hS hI hp => does_val (x_assign rfl (rfl)) rfl) ?_
    exact .nil
  clear hS
  intro at2 w3 hS hI hp
  have hBw3_w := hI
  have hBw3_w3 := Below.refl w3.heap.size w3
  clear hp hI
  refine hK1 _ _ ?_
  (try clear hK1 K1)
  refine wp_seq_k (fun K4 hK4 => ?_)
  refine wp_seq_k (fun K5 hK5 => ?_)
  refine reg_seq (N := 73) (bs := [(0, .slice A0 l0.length cp0), (1, .int .i64 a1)]) (I := fun x => Below w.heap.size w x ∧ Below w3.heap.size w3 x) (ps := [VI a1, VB (decide (a1 < 0)), VB (decide (a1 < 0)), VI a1, IsV (.slice A0 l0.length cp0), VI (l0.length : Int), VB (decide (a1 > (l0.length : Int))), VB (decide (a1 > (l0.length : Int)))]) (by kernel_rfl) ?_ ?_ rfl hS ⟨hBw3_w, hBw3_w3⟩ ?_ ?_
  · exact fun x y hI hb => ⟨below_step hI.1 hb, below_step hI.2 hb⟩
  · exact .v (.v (.v (.v (.v (.v (.v (.v (.nil))))))))
  · refine .ms 1 rfl rfl rfl ?_
    refine .on rfl (fun a w hS hI hp => does_val (x_bin rfl (hp.V 0 rfl rfl) (rfl) (b_lss _ _ _ _ _ _)) rfl) ?_
    refine .mv 1 rfl rfl rfl rfl ?_
    refine .oy 2 13 rfl rfl rfl rfl rfl ((decide_eq_false c1)) (fun a w hS hI hp => does_val (x_move rfl (hS.get 1 rfl)) rfl) ?_
    refine .oy 2 13 rfl rfl rfl rfl rfl ((decide_eq_false c1)) (fun a w hS hI hp => does_val (x_move rfl (hS.get 0 rfl)) rfl) ?_
    refine .oy 2 13 rfl rfl rfl rfl rfl ((decide_eq_false c1)) (fun a w hS hI hp => does_val (x_len (e := 5) rfl (by kernel_rfl) (hp.V 4 rfl rfl)) rfl) ?_
    refine .oy 2 13 rfl rfl rfl rfl rfl ((decide_eq_false c1)) (fun a w hS hI hp => does_val (x_bin rfl (hp.V 3 rfl rfl) (hp.V 5 rfl rfl) (b_gtr _ _ _ _ _ _)) rfl) ?_
    refine .on rfl (fun a w hS hI hp => does_val (x_pickF rfl ((hp.V 2 rfl rfl).trans (bF (decide_eq_false c1))) (hp.V 6 rfl rfl)) rfl) ?_
    exact .nil
  clear hS
  intro at6 w7 hS hI hp
  have hBw7_w := hI.1
  have hBw7_w3 := hI.2
  have hv18 : sl _ 18 = .bool (decide (a1 > (l0.length : Int))) := hp 7 (by decide)
  have hBw7_w7 := Below.refl w7.heap.size w7
  have hS := hS.cons hv18
  clear hp hI hv18
  refine hK5 _ _ ?_
  (try clear hK5 K5)
  refine wp_cond_false ((hS.get 0 rfl).trans (bF (decide_eq_false c2))) ?_
  refine wp_skip ?_
  refine hK4 _ _ ?_
  (try clear hK4 K4)
  refine wp_seq_k (fun K8 hK8 => ?_)
  refine reg_seq (N := 73) (bs := [(18, .bool (decide (a1 > (l0.length : Int)))), (0, .slice A0 l0.length cp0), (1, .int .i64 a1)]) (I := fun x => Below w.heap.size w x ∧ Below w7.heap.size w7 x) (ps := [IsV (.slice none 0 0)]) (by kernel_rfl) ?_ ?_ rfl hS ⟨hBw7_w, hBw7_w7⟩ ?_ ?_
  · exact fun x y hI hb => ⟨below_step hI.1 hb, below_step hI.2 hb⟩
  · exact .v (.nil)
  · refine .on rfl (fun a w hS hI hp => does_val (x_assign rfl (rfl)) rfl) ?_
    exact .nil
  clear hS
  intro at9 w10 hS hI hp
  have hBw10_w := hI.1
  have hBw10_w7 := hI.2
  replace hS := ((hS.nil).cons (hS.get 2 rfl)).cons (hS.get 1 rfl)
  have hv6 : sl _ 6 = .slice none 0 0 := hp 0 (by decide)
  have hBw10_w10 := Below.refl w10.heap.size w10
  have hS := hS.cons hv6
  clear hp hI hv6
  refine hK8 _ _ ?_
  (try clear hK8 K8)
  refine wp_seq_k (fun K11 hK11 => ?_)
  refine wp_block ?_
  replace hS := (((hS.nil).cons (hS.get 0 rfl)).cons (hS.get 2 rfl)).cons (hS.get 1 rfl)
  refine wp_loop_ghost (fun n_ a_ wL1 => ∃ (y1_0 : List Int) (AL1_0 : Option Addr) (CL1_0 : Nat) (x1_1 : Int) (y1_6 : List (S26)) (AL1_6 : Option Addr) (CL1_6 : Nat), carillonref08_Get.l1 k n_ y1_0 x1_1 y1_6 = some (r1, r2) ∧ St 73 [(0, .slice AL1_0 y1_0.length CL1_0), (1, .int .i64 x1_1), (6, .slice AL1_6 y1_6.length CL1_6)] a_ ∧ Below w.heap.size w wL1 ∧ y1_0.length ≤ CL1_0 ∧ Kd.C (Kd.int .u8) w AL1_0 y1_0.length y1_0 ∧ y1_6.length ≤ CL1_6 ∧ Kd.R k26 26 wL1 w.heap.size (fun _ => True) (.slice AL1_6 y1_6.length CL1_6) y1_6) k ⟨l0, A0, cp0, a1, [], none, 0, H, hS, hBw10_w, HC0, (HR0), (Nat.le_refl _), (Kd.R_nil _ _ _ _ _)⟩ ?_
  clear H hS
  rintro n1 aL1 wL1 ⟨y1_0, AL1_0, CL1_0, x1_1, y1_6, AL1_6, CL1_6, H, hS, hBwL1_w, hr1_0, hcL1_0, hr1_6, hoL1_6⟩
  rcases n1 with _ | n1
  · exact absurd H (by simp [carillonref08_Get.l1])
  rw [carillonref08_Get.l1] at H
  (try dsimp only at H)
  by_cases c3 : x1_1 < (y1_0.length : Int)
  rotate_left
  · rw [if_neg c3] at H
    simp only [Option.some.injEq, Prod.mk.injEq] at H
    obtain ⟨rfl, rfl⟩ := H
    have hBwL1_wL1 := Below.refl wL1.heap.size wL1
    refine wp_seq_k (fun K1001 hK1001 => ?_)
    refine wp_seq_k (fun K1002 hK1002 => ?_)
    refine reg_seq (N := 73) (bs := [(0, .slice AL1_0 y1_0.length CL1_0), (1, .int .i64 x1_1), (6, .slice AL1_6 y1_6.length CL1_6)]) (I := fun x => Below w.heap.size w x ∧ Below wL1.heap.size wL1 x) (ps := [VI x1_1, IsV (.slice AL1_0 y1_0.length CL1_0), VI (y1_0.length : Int), VB (decide (x1_1 < (y1_0.length : Int)))]) (by kernel_rfl) ?_ ?_ rfl hS ⟨hBwL1_w, hBwL1_wL1⟩ ?_ ?_
    · exact fun x y hI hb => ⟨below_step hI.1 hb, below_step hI.2 hb⟩
    · exact .v (.v (.v (.v (.nil))))
    · refine .ms 1 rfl rfl rfl ?_
      refine .ms 0 rfl rfl rfl ?_
      refine .on rfl (fun a w hS hI hp => does_val (x_len (e := 5) rfl (by kernel_rfl) (hp.V 1 rfl rfl)) rfl) ?_
      refine .on rfl (fun a w hS hI hp => does_val (x_bin rfl (hp.V 0 rfl rfl) (hp.V 2 rfl rfl) (b_lss _ _ _ _ _ _)) rfl) ?_
      exact .nil
    clear hS
    intro at1003 w1004 hS hI hp
    have hBw1004_w := hI.1
    have hBw1004_wL1 := hI.2
    have hv22 : sl _ 22 = .bool (decide (x1_1 < (y1_0.length : Int))) := hp 3 (by decide)
    have hBw1004_w1004 := Below.refl w1004.heap.size w1004
    have hS := hS.cons hv22
    clear hp hI hv22
    refine hK1002 _ _ ?_
    (try clear hK1002 K1002)
    refine wp_cond_false ((hS.get 0 rfl).trans (bF (decide_eq_false c3))) ?_
    refine wp_exit ?_
    (try simp only [Exit.then, Exit.inBlock, reduceIte])
    refine hK11 _ _ ?_
    (try clear hK11 K11)
    refine wp_seq_k (fun K1005 hK1005 => ?_)
    refine reg_seq (N := 73) (bs := [(22, .bool (decide (x1_1 < (y1_0.length : Int)))), (0, .slice AL1_0 y1_0.length CL1_0), (1, .int .i64 x1_1), (6, .slice AL1_6 y1_6.length CL1_6)]) (I := fun x => Below w.heap.size w x ∧ Below wL1.heap.size wL1 x ∧ Below w1004.heap.size w1004 x) (ps := [IsV (.slice AL1_6 y1_6.length CL1_6), IsV (.slice AL1_6 y1_6.length CL1_6), VI 0]) (by kernel_rfl) ?_ ?_ rfl hS ⟨hBw1004_w, hBw1004_wL1, hBw1004_w1004⟩ ?_ ?_
    · exact fun x y hI hb => ⟨below_step hI.1 hb, below_step hI.2.1 hb, below_step hI.2.2 hb⟩
    · exact .v (.v (.v (.nil)))
    · refine .ms 3 rfl rfl rfl ?_
      refine .asg 0 rfl rfl rfl rfl ?_
      refine .on rfl (fun a w hS hI hp => does_val (x_assign rfl (rfl)) rfl) ?_
      exact .nil
    clear hS
    intro at1006 w1007 hS hI hp
    have hBw1007_w := hI.1
    have hBw1007_wL1 := hI.2.1
    have hBw1007_w1004 := hI.2.2
    replace hS := hS.nil
    have hv4 : sl _ 4 = .slice AL1_6 y1_6.length CL1_6 := hp 1 (by decide)
    have hv5 : sl _ 5 = .int .i64 0 := hp 2 (by decide)
    have hBw1007_w1007 := Below.refl w1007.heap.size w1007
    have hS := hS.cons hv4
    have hS := hS.cons hv5
    clear hp hI hv4 hv5
    refine hK1005 _ _ ?_
    (try clear hK1005 K1005)
    refine wp_ret ?_
    (try simp only [Exit.then, Exit.inBlock, Exit.jump, Exit.noGoto])
    exact bodyPost_ret (v := .tuple #[.slice AL1_6 y1_6.length CL1_6, .int .i64 0]) (results_list (rs := [.tmp 4, .tmp 5]) rfl (by simp) (Vals.at (hS.get 1 rfl) (Vals.at (hS.get 0 rfl) .nil))) hS.nodef ⟨.slice AL1_6 y1_6.length CL1_6, rfl, Kd.R_lower (Kd.R_below hoL1_6 hBw1007_wL1) (Nat.le_refl _), hBw1007_w⟩
  rw [if_pos c3] at H
  by_cases c4 : (y1_6.length : Int) = 8
  · rw [if_pos c4] at H
    simp only [Option.some.injEq, Prod.mk.injEq] at H
    obtain ⟨rfl, rfl⟩ := H
    have hBwL1_wL1 := Below.refl wL1.heap.size wL1
    refine wp_seq_k (fun K1001 hK1001 => ?_)
    refine wp_seq_k (fun K1002 hK1002 => ?_)
    refine reg_seq (N := 73) (bs := [(0, .slice AL1_0 y1_0.length CL1_0), (1, .int .i64 x1_1), (6, .slice AL1_6 y1_6.length CL1_6)]) (I := fun x => Below w.heap.size w x ∧ Below wL1.heap.size wL1 x) (ps := [VI x1_1, IsV (.slice AL1_0 y1_0.length CL1_0), VI (y1_0.length : Int), VB (decide (x1_1 < (y1_0.length : Int)))]) (by kernel_rfl) ?_ ?_ rfl hS ⟨hBwL1_w, hBwL1_wL1⟩ ?_ ?_
    · exact fun x y hI hb => ⟨below_step hI.1 hb, below_step hI.2 hb⟩
    · exact .v (.v (.v (.v (.nil))))
    · refine .ms 1 rfl rfl rfl ?_
      refine .ms 0 rfl rfl rfl ?_
      refine .on rfl (fun a w hS hI hp => does_val (x_len (e := 5) rfl (by kernel_rfl) (hp.V 1 rfl rfl)) rfl) ?_
      refine .on rfl (fun a w hS hI hp => does_val (x_bin rfl (hp.V 0 rfl rfl) (hp.V 2 rfl rfl) (b_lss _ _ _ _ _ _)) rfl) ?_
      exact .nil
    clear hS
    intro at1003 w1004 hS hI hp
    have hBw1004_w := hI.1
    have hBw1004_wL1 := hI.2
    have hv22 : sl _ 22 = .bool (decide (x1_1 < (y1_0.length : Int))) := hp 3 (by decide)
    have hBw1004_w1004 := Below.refl w1004.heap.size w1004
    have hS := hS.cons hv22
    clear hp hI hv22
    refine hK1002 _ _ ?_
    (try clear hK1002 K1002)
    refine wp_cond_true ((hS.get 0 rfl).trans (bT (decide_eq_true c3))) ?_
    refine wp_skip ?_
    refine hK1001 _ _ ?_
    (try clear hK1001 K1001)
    refine wp_block ?_
    refine wp_seq_k (fun K1005 hK1005 => ?_)
    refine wp_seq_k (fun K1006 hK1006 => ?_)
    refine reg_seq (N := 73) (bs := [(22, .bool (decide (x1_1 < (y1_0.length : Int)))), (0, .slice AL1_0 y1_0.length CL1_0), (1, .int .i64 x1_1), (6, .slice AL1_6 y1_6.length CL1_6)]) (I := fun x => Below w.heap.size w x ∧ Below wL1.heap.size wL1 x ∧ Below w1004.heap.size w1004 x) (ps := [IsV (.slice AL1_6 y1_6.length CL1_6), VI (y1_6.length : Int), VB (decide ((y1_6.length : Int) = 8))]) (by kernel_rfl) ?_ ?_ rfl hS ⟨hBw1004_w, hBw1004_wL1, hBw1004_w1004⟩ ?_ ?_
    · exact fun x y hI hb => ⟨below_step hI.1 hb, below_step hI.2.1 hb, below_step hI.2.2 hb⟩
    · exact .v (.v (.v (.nil)))
    · refine .ms 3 rfl rfl rfl ?_
      refine .on rfl (fun a w hS hI hp => does_val (x_len (e := 26) rfl (by kernel_rfl) (hp.V 0 rfl rfl)) rfl) ?_
      refine .on rfl (fun a w hS hI hp => does_val (x_bin rfl (hp.V 1 rfl rfl) (rfl) (b_eql _ _ _ _ _ _)) rfl) ?_
      exact .nil
    clear hS
    intro at1007 w1008 hS hI hp
    have hBw1008_w := hI.1
    have hBw1008_wL1 := hI.2.1
    have hBw1008_w1004 := hI.2.2
    replace hS := (((hS.nil).cons (hS.get 3 rfl)).cons (hS.get 2 rfl)).cons (hS.get 1 rfl)
    have hv25 : sl _ 25 = .bool (decide ((y1_6.length : Int) = 8)) := hp 2 (by decide)
    have hBw1008_w1008 := Below.refl w1008.heap.size w1008
    have hS := hS.cons hv25
    clear hp hI hv25
    refine hK1006 _ _ ?_
    (try clear hK1006 K1006)
    refine wp_cond_true ((hS.get 0 rfl).trans (bT (decide_eq_true c4))) ?_
    refine wp_seq_k (fun K1009 hK1009 => ?_)
    refine reg_seq (N := 73) (bs := [(25, .bool (decide ((y1_6.length : Int) = 8))), (0, .slice AL1_0 y1_0.length CL1_0), (1, .int .i64 x1_1), (6, .slice AL1_6 y1_6.length CL1_6)]) (I := fun x => Below w.heap.size w x ∧ Below wL1.heap.size wL1 x ∧ Below w1008.heap.size w1008 x) (ps := [IsV (.slice none 0 0), VI 7]) (by kernel_rfl) ?_ ?_ rfl hS ⟨hBw1008_w, hBw1008_wL1, hBw1008_w1008⟩ ?_ ?_
    · exact fun x y hI hb => ⟨below_step hI.1 hb, below_step hI.2.1 hb, below_step hI.2.2 hb⟩
    · exact .v (.v (.nil))
    · refine .on rfl (fun a w hS hI hp => does_val (x_assign rfl (rfl)) rfl) ?_
      refine .on rfl (fun a w hS hI hp => does_val (x_assign rfl (rfl)) rfl) ?_
      exact .nil
    clear hS
    intro at1010 w1011 hS hI hp
    have hBw1011_w := hI.1
    have hBw1011_wL1 := hI.2.1
    have hBw1011_w1008 := hI.2.2
    replace hS := hS.nil
    have hv4 : sl _ 4 = .slice none 0 0 := hp 0 (by decide)
    have hv5 : sl _ 5 = .int .i64 7 := hp 1 (by decide)
    have hBw1011_w1011 := Below.refl w1011.heap.size w1011
    have hS := hS.cons hv4
    have hS := hS.cons hv5
    clear hp hI hv4 hv5
    refine hK1009 _ _ ?_
    (try clear hK1009 K1009)
    refine wp_ret ?_
    (try simp only [Exit.then, Exit.inBlock, Exit.jump, Exit.noGoto])
    exact bodyPost_ret (v := .tuple #[.slice none 0 0, .int .i64 7]) (results_list (rs := [.tmp 4, .tmp 5]) rfl (by simp) (Vals.at (hS.get 1 rfl) (Vals.at (hS.get 0 rfl) .nil))) hS.nodef ⟨.slice none 0 0, rfl, Kd.R_nil _ _ _ _ _, hBw1011_w⟩
  rw [if_neg c4] at H
  by_cases c5 : (wrap64 ((y1_0.length : Int) - x1_1)) < 4
  · rw [if_pos c5] at H
    simp only [Option.some.injEq, Prod.mk.injEq] at H
    obtain ⟨rfl, rfl⟩ := H
    have hBwL1_wL1 := Below.refl wL1.heap.size wL1
    refine wp_seq_k (fun K1001 hK1001 => ?_)
    refine wp_seq_k (fun K1002 hK1002 => ?_)
    refine reg_seq (N := 73) (bs := [(0, .slice AL1_0 y1_0.length CL1_0), (1, .int .i64 x1_1), (6, .slice AL1_6 y1_6.length CL1_6)]) (I := fun x => Below w.heap.size w x ∧ Below wL1.heap.size wL1 x) (ps := [VI x1_1, IsV (.slice AL1_0 y1_0.length CL1_0), VI (y1_0.length : Int), VB (decide (x1_1 < (y1_0.length : Int)))]) (by kernel_rfl) ?_ ?_ rfl hS ⟨hBwL1_w, hBwL1_wL1⟩ ?_ ?_
    · exact fun x y hI hb => ⟨below_step hI.1 hb, below_step hI.2 hb⟩
    · exact .v (.v (.v (.v (.nil))))
    · refine .ms 1 rfl rfl rfl ?_
      refine .ms 0 rfl rfl rfl ?_
      refine .on rfl (fun a w hS hI hp => does_val (x_len (e := 5) rfl (by kernel_rfl) (hp.V 1 rfl rfl)) rfl) ?_
      refine .on rfl (fun a w hS hI hp => does_val (x_bin rfl (hp.V 0 rfl rfl) (hp.V 2 rfl rfl) (b_lss _ _ _ _ _ _)) rfl) ?_
      exact .nil
    clear hS
    intro at1003 w1004 hS hI hp
    have hBw1004_w := hI.1
    have hBw1004_wL1 := hI.2
    have hv22 : sl _ 22 = .bool (decide (x1_1 < (y1_0.length : Int))) := hp 3 (by decide)
    have hBw1004_w1004 := Below.refl w1004.heap.size w1004
    have hS := hS.cons hv22
    clear hp hI hv22
    refine hK1002 _ _ ?_
    (try clear hK1002 K1002)
    refine wp_cond_true ((hS.get 0 rfl).trans (bT (decide_eq_true c3))) ?_
    refine wp_skip ?_
    refine hK1001 _ _ ?_
    (try clear hK1001 K1001)
    refine wp_block ?_
    refine wp_seq_k (fun K1005 hK1005 => ?_)
    refine wp_seq_k (fun K1006 hK1006 => ?_)
    refine reg_seq (N := 73) (bs := [(22, .bool (decide (x1_1 < (y1_0.length : Int)))), (0, .slice AL1_0 y1_0.length CL1_0), (1, .int .i64 x1_1), (6, .slice AL1_6 y1_6.length CL1_6)]) (I := fun x => Below w.heap.size w x ∧ Below wL1.heap.size wL1 x ∧ Below w1004.heap.size w1004 x) (ps := [IsV (.slice AL1_6 y1_6.length CL1_6), VI (y1_6.length : Int), VB (decide ((y1_6.length : Int) = 8))]) (by kernel_rfl) ?_ ?_ rfl hS ⟨hBw1004_w, hBw1004_wL1, hBw1004_w1004⟩ ?_ ?_
    · exact fun x y hI hb => ⟨below_step hI.1 hb, below_step hI.2.1 hb, below_step hI.2.2 hb⟩
    · exact .v (.v (.v (.nil)))
    · refine .ms 3 rfl rfl rfl ?_
      refine .on rfl (fun a w hS hI hp => does_val (x_len (e := 26) rfl (by kernel_rfl) (hp.V 0 rfl rfl)) rfl) ?_
      refine .on rfl (fun a w hS hI hp => does_val (x_bin rfl (hp.V 1 rfl rfl) (rfl) (b_eql _ _ _ _ _ _)) rfl) ?_
      exact .nil
    clear hS
    intro at1007 w1008 hS hI hp
    have hBw1008_w := hI.1
    have hBw1008_wL1 := hI.2.1
    have hBw1008_w1004 := hI.2.2
    replace hS := (((hS.nil).cons (hS.get 3 rfl)).cons (hS.get 2 rfl)).cons (hS.get 1 rfl)
    have hv25 : sl _ 25 = .bool (decide ((y1_6.length : Int) = 8)) := hp 2 (by decide)
    have hBw1008_w1008 := Below.refl w1008.heap.size w1008
    have hS := hS.cons hv25
    clear hp hI hv25
    refine hK1006 _ _ ?_
    (try clear hK1006 K1006)
    refine wp_cond_false ((hS.get 0 rfl).trans (bF (decide_eq_false c4))) ?_
    refine wp_skip ?_
    refine hK1005 _ _ ?_
    (try clear hK1005 K1005)
    refine wp_seq_k (fun K1009 hK1009 => ?_)
    refine wp_seq_k (fun K1010 hK1010 => ?_)
    refine reg_seq (N := 73) (bs := [(25, .bool (decide ((y1_6.length : Int) = 8))), (0, .slice AL1_0 y1_0.length CL1_0), (1, .int .i64 x1_1), (6, .slice AL1_6 y1_6.length CL1_6)]) (I := fun x => Below w.heap.size w x ∧ Below wL1.heap.size wL1 x ∧ Below w1008.heap.size w1008 x) (ps := [IsV (.slice AL1_0 y1_0.length CL1_0), VI (y1_0.length : Int), VI x1_1, VI (wrap64 ((y1_0.length : Int) - x1_1)), VB (decide ((wrap64 ((y1_0.length : Int) - x1_1)) < 4))]) (by kernel_rfl) ?_ ?_ rfl hS ⟨hBw1008_w, hBw1008_wL1, hBw1008_w1008⟩ ?_ ?_
    · exact fun x y hI hb => ⟨below_step hI.1 hb, below_step hI.2.1 hb, below_step hI.2.2 hb⟩
    · exact .v (.v (.v (.v (.v (.nil)))))
    · refine .ms 1 rfl rfl rfl ?_
      refine .on rfl (fun a w hS hI hp => does_val (x_len (e := 5) rfl (by kernel_rfl) (hp.V 0 rfl rfl)) rfl) ?_
      refine .ms 2 rfl rfl rfl ?_
      refine .on rfl (fun a w hS hI hp => does_val (x_bin rfl (hp.V 1 rfl rfl) (hp.V 2 rfl rfl) (b_sub _ _ _ _ _)) rfl) ?_
      refine .on rfl (fun a w hS hI hp => does_val (x_bin rfl (hp.V 3 rfl rfl) (rfl) (b_lss _ _ _ _ _ _)) rfl) ?_
      exact .nil
    clear hS
    intro at1011 w1012 hS hI hp
    have hBw1012_w := hI.1
    have hBw1012_wL1 := hI.2.1
    have hBw1012_w1008 := hI.2.2
    replace hS := (((hS.nil).cons (hS.get 3 rfl)).cons (hS.get 2 rfl)).cons (hS.get 1 rfl)
    have hv30 : sl _ 30 = .bool (decide ((wrap64 ((y1_0.length : Int) - x1_1)) < 4)) := hp 4 (by decide)
    have hBw1012_w1012 := Below.refl w1012.heap.size w1012
    have hS := hS.cons hv30
    clear hp hI hv30
    refine hK1010 _ _ ?_
    (try clear hK1010 K1010)
    refine wp_cond_true ((hS.get 0 rfl).trans (bT (decide_eq_true c5))) ?_
    refine wp_seq_k (fun K1013 hK1013 => ?_)
    refine reg_seq (N := 73) (bs := [(30, .bool (decide ((wrap64 ((y1_0.length : Int) - x1_1)) < 4))), (0, .slice AL1_0 y1_0.length CL1_0), (1, .int .i64 x1_1), (6, .slice AL1_6 y1_6.length CL1_6)]) (I := fun x => Below w.heap.size w x ∧ Below wL1.heap.size wL1 x ∧ Below w1012.heap.size w1012 x) (ps := [IsV (.slice none 0 0), VI 2]) (by kernel_rfl) ?_ ?_ rfl hS ⟨hBw1012_w, hBw1012_wL1, hBw1012_w1012⟩ ?_ ?_
    · exact fun x y hI hb => ⟨below_step hI.1 hb, below_step hI.2.1 hb, below_step hI.2.2 hb⟩
    · exact .v (.v (.nil))
    · refine .on rfl (fun a w hS hI hp => does_val (x_assign rfl (rfl)) rfl) ?_
      refine .on rfl (fun a w hS hI hp => does_val (x_assign rfl (rfl)) rfl) ?_
      exact .nil
    clear hS
    intro at1014 w1015 hS hI hp
    have hBw1015_w := hI.1
    have hBw1015_wL1 := hI.2.1
    have hBw1015_w1012 := hI.2.2
    replace hS := hS.nil
    have hv4 : sl _ 4 = .slice none 0 0 := hp 0 (by decide)
    have hv5 : sl _ 5 = .int .i64 2 := hp 1 (by decide)
    have hBw1015_w1015 := Below.refl w1015.heap.size w1015
    have hS := hS.cons hv4
    have hS := hS.cons hv5
    clear hp hI hv4 hv5
    refine hK1013 _ _ ?_
    (try clear hK1013 K1013)
    refine wp_ret ?_
    (try simp only [Exit.then, Exit.inBlock, Exit.jump, Exit.noGoto])
    exact bodyPost_ret (v := .tuple #[.slice none 0 0, .int .i64 2]) (results_list (rs := [.tmp 4, .tmp 5]) rfl (by simp) (Vals.at (hS.get 1 rfl) (Vals.at (hS.get 0 rfl) .nil))) hS.nodef ⟨.slice none 0 0, rfl, Kd.R_nil _ _ _ _ _, hBw1015_w⟩
  rw [if_neg c5] at H
  obtain ⟨t1014, At1014, H⟩ := Option.bind_eq_some_iff.mp H
  obtain ⟨t1014_1, t1014_2⟩ := t1014
  (try dsimp only at H)
  obtain ⟨t1018, At1018, H⟩ := Option.bind_eq_some_iff.mp H
  obtain ⟨t1018_1, t1018_2⟩ := t1018
  (try dsimp only at H)
  by_cases c6 : t1018_1 > (wrap64 ((wrap64 ((y1_0.length : Int) - x1_1)) - 4))
  · rw [if_pos c6] at H
    simp only [Option.some.injEq, Prod.mk.injEq] at H
    obtain ⟨rfl, rfl⟩ := H
    have hBwL1_wL1 := Below.refl wL1.heap.size wL1
    refine wp_seq_k (fun K1001 hK1001 => ?_)
    refine wp_seq_k (fun K1002 hK1002 => ?_)
    refine reg_seq (N := 73) (bs := [(0, .slice AL1_0 y1_0.length CL1_0), (1, .int .i64 x1_1), (6, .slice AL1_6 y1_6.length CL1_6)]) (I := fun x => Below w.heap.size w x ∧ Below wL1.heap.size wL1 x) (ps := [VI x1_1, IsV (.slice AL1_0 y1_0.length CL1_0), VI (y1_0.length : Int), VB (decide (x1_1 < (y1_0.length : Int)))]) (by kernel_rfl) ?_ ?_ rfl hS ⟨hBwL1_w, hBwL1_wL1⟩ ?_ ?_
    · exact fun x y hI hb => ⟨below_step hI.1 hb, below_step hI.2 hb⟩
    · exact .v (.v (.v (.v (.nil))))
    · refine .ms 1 rfl rfl rfl ?_
      refine .ms 0 rfl rfl rfl ?_
      refine .on rfl (fun a w hS hI hp => does_val (x_len (e := 5) rfl (by kernel_rfl) (hp.V 1 rfl rfl)) rfl) ?_
      refine .on rfl (fun a w hS hI hp => does_val (x_bin rfl (hp.V 0 rfl rfl) (hp.V 2 rfl rfl) (b_lss _ _ _ _ _ _)) rfl) ?_
      exact .nil
    clear hS
    intro at1003 w1004 hS hI hp
    have hBw1004_w := hI.1
    have hBw1004_wL1 := hI.2
    have hv22 : sl _ 22 = .bool (decide (x1_1 < (y1_0.length : Int))) := hp 3 (by decide)
    have hBw1004_w1004 := Below.refl w1004.heap.size w1004
    have hS := hS.cons hv22
    clear hp hI hv22
    refine hK1002 _ _ ?_
    (try clear hK1002 K1002)
    refine wp_cond_true ((hS.get 0 rfl).trans (bT (decide_eq_true c3))) ?_
    refine wp_skip ?_
    refine hK1001 _ _ ?_
    (try clear hK1001 K1001)
    refine wp_block ?_
    refine wp_seq_k (fun K1005 hK1005 => ?_)
    refine wp_seq_k (fun K1006 hK1006 => ?_)
    refine reg_seq (N := 73) (bs := [(22, .bool (decide (x1_1 < (y1_0.length : Int)))), (0, .slice AL1_0 y1_0.length CL1_0), (1, .int .i64 x1_1), (6, .slice AL1_6 y1_6.length CL1_6)]) (I := fun x => Below w.heap.size w x ∧ Below wL1.heap.size wL1 x ∧ Below w1004.heap.size w1004 x) (ps := [IsV (.slice AL1_6 y1_6.length CL1_6), VI (y1_6.length : Int), VB (decide ((y1_6.length : Int) = 8))]) (by kernel_rfl) ?_ ?_ rfl hS ⟨hBw1004_w, hBw1004_wL1, hBw1004_w1004⟩ ?_ ?_
    · exact fun x y hI hb => ⟨below_step hI.1 hb, below_step hI.2.1 hb, below_step hI.2.2 hb⟩
    · exact .v (.v (.v (.nil)))
    · refine .ms 3 rfl rfl rfl ?_
      refine .on rfl (fun a w hS hI hp => does_val (x_len (e := 26) rfl (by kernel_rfl) (hp.V 0 rfl rfl)) rfl) ?_
      refine .on rfl (fun a w hS hI hp => does_val (x_bin rfl (hp.V 1 rfl rfl) (rfl) (b_eql _ _ _ _ _ _)) rfl) ?_
      exact .nil
    clear hS
    intro at1007 w1008 hS hI hp
    have hBw1008_w := hI.1
    have hBw1008_wL1 := hI.2.1
    have hBw1008_w1004 := hI.2.2
    replace hS := (((hS.nil).cons (hS.get 3 rfl)).cons (hS.get 2 rfl)).cons (hS.get 1 rfl)
    have hv25 : sl _ 25 = .bool (decide ((y1_6.length : Int) = 8)) := hp 2 (by decide)
    have hBw1008_w1008 := Below.refl w1008.heap.size w1008
    have hS := hS.cons hv25
    clear hp hI hv25
    refine hK1006 _ _ ?_
    (try clear hK1006 K1006)
    refine wp_cond_false ((hS.get 0 rfl).trans (bF (decide_eq_false c4))) ?_
    refine wp_skip ?_
    refine hK1005 _ _ ?_
    (try clear hK1005 K1005)
    refine wp_seq_k (fun K1009 hK1009 => ?_)
    refine wp_seq_k (fun K1010 hK1010 => ?_)
    refine reg_seq (N := 73) (bs := [(25, .bool (decide ((y1_6.length : Int) = 8))), (0, .slice AL1_0 y1_0.length CL1_0), (1, .int .i64 x1_1), (6, .slice AL1_6 y1_6.length CL1_6)]) (I := fun x => Below w.heap.size w x ∧ Below wL1.heap.size wL1 x ∧ Below w1008.heap.size w1008 x) (ps := [IsV (.slice AL1_0 y1_0.length CL1_0), VI (y1_0.length : Int), VI x1_1, VI (wrap64 ((y1_0.length : Int) - x1_1)), VB (decide ((wrap64 ((y1_0.length : Int) - x1_1)) < 4))]) (by kernel_rfl) ?_ ?_ rfl hS ⟨hBw1008_w, hBw1008_wL1, hBw1008_w1008⟩ ?_ ?_
    · exact fun x y hI hb => ⟨below_step hI.1 hb, below_step hI.2.1 hb, below_step hI.2.2 hb⟩
    · exact .v (.v (.v (.v (.v (.nil)))))
    · refine .ms 1 rfl rfl rfl ?_
      refine .on rfl (fun a w hS hI hp => does_val (x_len (e := 5) rfl (by kernel_rfl) (hp.V 0 rfl rfl)) rfl) ?_
      refine .ms 2 rfl rfl rfl ?_
      refine .on rfl (fun a w hS hI hp => does_val (x_bin rfl (hp.V 1 rfl rfl) (hp.V 2 rfl rfl) (b_sub _ _ _ _ _)) rfl) ?_
      refine .on rfl (fun a w hS hI hp => does_val (x_bin rfl (hp.V 3 rfl rfl) (rfl) (b_lss _ _ _ _ _ _)) rfl) ?_
      exact .nil
    clear hS
    intro at1011 w1012 hS hI hp
    have hBw1012_w := hI.1
    have hBw1012_wL1 := hI.2.1
    have hBw1012_w1008 := hI.2.2
    replace hS := (((hS.nil).cons (hS.get 3 rfl)).cons (hS.get 2 rfl)).cons (hS.get 1 rfl)
    have hv30 : sl _ 30 = .bool (decide ((wrap64 ((y1_0.length : Int) - x1_1)) < 4)) := hp 4 (by decide)
    have hBw1012_w1012 := Below.refl w1012.heap.size w1012
    have hS := hS.cons hv30
    clear hp hI hv30
    refine hK1010 _ _ ?_
    (try clear hK1010 K1010)
    refine wp_cond_false ((hS.get 0 rfl).trans (bF (decide_eq_false c5))) ?_
    refine wp_skip ?_
    refine hK1009 _ _ ?_
    (try clear hK1009 K1009)
    refine wp_seq_k (fun K1013 hK1013 => ?_)
    refine reg_seq (N := 73) (bs := [(30, .bool (decide ((wrap64 ((y1_0.length : Int) - x1_1)) < 4))), (0, .slice AL1_0 y1_0.length CL1_0), (1, .int .i64 x1_1), (6, .slice AL1_6 y1_6.length CL1_6)]) (I := fun x => Below w.heap.size w x ∧ Below wL1.heap.size wL1 x ∧ Below w1012.heap.size w1012 x) (ps := [IsV (.slice AL1_0 y1_0.length CL1_0), VI x1_1, IsV (.tuple #[.int .i64 t1014_1, .bool t1014_2]), IsV (.tuple #[.int .i64 t1014_1, .bool t1014_2]), VI t1014_1, VB t1014_2, VI t1014_1, VB t1014_2]) (by kernel_rfl) ?_ ?_ rfl hS ⟨hBw1012_w, hBw1012_wL1, hBw1012_w1012⟩ ?_ ?_
    · exact fun x y hI hb => ⟨below_step hI.1 hb, below_step hI.2.1 hb, below_step hI.2.2 hb⟩
    · exact .v (.v (.v (.v (.v (.v (.v (.v (.nil))))))))
    · refine .ms 1 rfl rfl rfl ?_
      refine .ms 2 rfl rfl rfl ?_
      refine .on rfl (fun a w hS hI hp => does_call (by kernel_rfl) (ar3 (hp.V 0 rfl rfl) (hp.V 1 rfl rfl) (rfl)) ((carillonref01_Get.calls k _ _ y1_0 x1_1 2 t1014_1 t1014_2 _ (Kd.C_below hcL1_0 hI.1) hr1_0 At1014).mono fun _ _ h => ⟨_, h.1, h.2.below, rfl⟩)) ?_
      refine .mv 2 rfl rfl rfl rfl ?_
      iterate 2 refine .on rfl (fun a w hS hI hp => does_val (x_extract rfl (hp.V 3 rfl rfl) rfl) rfl) ?_
      refine .asg 4 rfl rfl rfl rfl ?_
      refine .asg 5 rfl rfl rfl rfl ?_
      exact .nil
    clear hS
    intro at1015 w1016 hS hI hp
    have hBw1016_w := hI.1
    have hBw1016_wL1 := hI.2.1
    have hBw1016_w1012 := hI.2.2
    replace hS := (((hS.nil).cons (hS.get 3 rfl)).cons (hS.get 2 rfl)).cons (hS.get 1 rfl)
    have hv7 : sl _ 7 = .int .i64 t1014_1 := hp 6 (by decide)
    have hBw1016_w1016 := Below.refl w1016.heap.size w1016
    have hS := hS.cons hv7
    clear hp hI hv7
    refine hK1013 _ _ ?_
    (try clear hK1013 K1013)
    refine wp_seq_k (fun K1017 hK1017 => ?_)
    refine reg_seq (N := 73) (bs := [(7, .int .i64 t1014_1), (0, .slice AL1_0 y1_0.length CL1_0), (1, .int .i64 x1_1), (6, .slice AL1_6 y1_6.length CL1_6)]) (I := fun x => Below w.heap.size w x ∧ Below wL1.heap.size wL1 x ∧ Below w1016.heap.size w1016 x) (ps := [IsV (.slice AL1_0 y1_0.length CL1_0), VI x1_1, VI (wrap64 (x1_1 + 2)), IsV (.tuple #[.int .i64 t1018_1, .bool t1018_2]), IsV (.tuple #[.int .i64 t1018_1, .bool t1018_2]), VI t1018_1, VB t1018_2, VI t1018_1, VB t1018_2]) (by kernel_rfl) ?_ ?_ rfl hS ⟨hBw1016_w, hBw1016_wL1, hBw1016_w1016⟩ ?_ ?_
    · exact fun x y hI hb => ⟨below_step hI.1 hb, below_step hI.2.1 hb, below_step hI.2.2 hb⟩
    · exact .v (.v (.v (.v (.v (.v (.v (.v (.v (.nil)))))))))
    · refine .ms 1 rfl rfl rfl ?_
      refine .ms 2 rfl rfl rfl ?_
      refine .on rfl (fun a w hS hI hp => does_val (x_bin rfl (hp.V 1 rfl rfl) (rfl) (b_add _ _ _ _ _)) rfl) ?_
      refine .on rfl (fun a w hS hI hp => does_call (by kernel_rfl) (ar3 (hp.V 0 rfl rfl) (hp.V 2 rfl rfl) (rfl)) ((carillonref01_Get.calls k _ _ y1_0 (wrap64 (x1_1 + 2)) 2 t1018_1 t1018_2 _ (Kd.C_below hcL1_0 hI.1) hr1_0 At1018).mono fun _ _ h => ⟨_, h.1, h.2.below, rfl⟩)) ?_
      refine .mv 3 rfl rfl rfl rfl ?_
      iterate 2 refine .on rfl (fun a w hS hI hp => does_val (x_extract rfl (hp.V 4 rfl rfl) rfl) rfl) ?_
      refine .asg 5 rfl rfl rfl rfl ?_
      refine .asg 6 rfl rfl rfl rfl ?_
      exact .nil
    clear hS
    intro at1019 w1020 hS hI hp
    have hBw1020_w := hI.1
    have hBw1020_wL1 := hI.2.1
    have hBw1020_w1016 := hI.2.2
    have hv9 : sl _ 9 = .int .i64 t1018_1 := hp 7 (by decide)
    have hBw1020_w1020 := Below.refl w1020.heap.size w1020
    have hS := hS.cons hv9
    clear hp hI hv9
    refine hK1017 _ _ ?_
    (try clear hK1017 K1017)
    refine wp_seq_k (fun K1021 hK1021 => ?_)
    refine wp_seq_k (fun K1022 hK1022 => ?_)
    refine reg_seq (N := 73) (bs := [(9, .int .i64 t1018_1), (7, .int .i64 t1014_1), (0, .slice AL1_0 y1_0.length CL1_0), (1, .int .i64 x1_1), (6, .slice AL1_6 y1_6.length CL1_6)]) (I := fun x => Below w.heap.size w x ∧ Below wL1.heap.size wL1 x ∧ Below w1020.heap.size w1020 x) (ps := [VI t1018_1, IsV (.slice AL1_0 y1_0.length CL1_0), VI (y1_0.length : Int), VI x1_1, VI (wrap64 ((y1_0.length : Int) - x1_1)), VI (wrap64 ((wrap64 ((y1_0.length : Int) - x1_1)) - 4)), VB (decide (t1018_1 > (wrap64 ((wrap64 ((y1_0.length : Int) - x1_1)) - 4))))]) (by kernel_rfl) ?_ ?_ rfl hS ⟨hBw1020_w, hBw1020_wL1, hBw1020_w1020⟩ ?_ ?_
    · exact fun x y hI hb => ⟨below_step hI.1 hb, below_step hI.2.1 hb, below_step hI.2.2 hb⟩
    · exact .v (.v (.v (.v (.v (.v (.v (.nil)))))))
    · refine .ms 0 rfl rfl rfl ?_
      refine .ms 2 rfl rfl rfl ?_
      refine .on rfl (fun a w hS hI hp => does_val (x_len (e := 5) rfl (by kernel_rfl) (hp.V 1 rfl rfl)) rfl) ?_
      refine .ms 3 rfl rfl rfl ?_
      refine .on rfl (fun a w hS hI hp => does_val (x_bin rfl (hp.V 2 rfl rfl) (hp.V 3 rfl rfl) (b_sub _ _ _ _ _)) rfl) ?_
      refine .on rfl (fun a w hS hI hp => does_val (x_bin rfl (hp.V 4 rfl rfl) (rfl) (b_sub _ _ _ _ _)) rfl) ?_
      refine .on rfl (fun a w hS hI hp => does_val (x_bin rfl (hp.V 0 rfl rfl) (hp.V 5 rfl rfl) (b_gtr _ _ _ _ _ _)) rfl) ?_
      exact .nil
    clear hS
    intro at1023 w1024 hS hI hp
    have hBw1024_w := hI.1
    have hBw1024_wL1 := hI.2.1
    have hBw1024_w1020 := hI.2.2
    have hv50 : sl _ 50 = .bool (decide (t1018_1 > (wrap64 ((wrap64 ((y1_0.length : Int) - x1_1)) - 4)))) := hp 6 (by decide)
    have hBw1024_w1024 := Below.refl w1024.heap.size w1024
    have hS := hS.cons hv50
    clear hp hI hv50
    refine hK1022 _ _ ?_
    (try clear hK1022 K1022)
    refine wp_cond_true ((hS.get 0 rfl).trans (bT (decide_eq_true c6))) ?_
    refine wp_seq_k (fun K1025 hK1025 => ?_)
    refine reg_seq (N := 73) (bs := [(50, .bool (decide (t1018_1 > (wrap64 ((wrap64 ((y1_0.length : Int) - x1_1)) - 4))))), (9, .int .i64 t1018_1), (7, .int .i64 t1014_1), (0, .slice AL1_0 y1_0.length CL1_0), (1, .int .i64 x1_1), (6, .slice AL1_6 y1_6.length CL1_6)]) (I := fun x => Below w.heap.size w x ∧ Below wL1.heap.size wL1 x ∧ Below w1024.heap.size w1024 x) (ps := [IsV (.slice none 0 0), VI 2]) (by kernel_rfl) ?_ ?_ rfl hS ⟨hBw1024_w, hBw1024_wL1, hBw1024_w1024⟩ ?_ ?_
    · exact fun x y hI hb => ⟨below_step hI.1 hb, below_step hI.2.1 hb, below_step hI.2.2 hb⟩
    · exact .v (.v (.nil))
    · refine .on rfl (fun a w hS hI hp => does_val (x_assign rfl (rfl)) rfl) ?_
      refine .on rfl (fun a w hS hI hp => does_val (x_assign rfl (rfl)) rfl) ?_
      exact .nil
    clear hS
    intro at1026 w1027 hS hI hp
    have hBw1027_w := hI.1
    have hBw1027_wL1 := hI.2.1
    have hBw1027_w1024 := hI.2.2
    replace hS := hS.nil
    have hv4 : sl _ 4 = .slice none 0 0 := hp 0 (by decide)
    have hv5 : sl _ 5 = .int .i64 2 := hp 1 (by decide)
    have hBw1027_w1027 := Below.refl w1027.heap.size w1027
    have hS := hS.cons hv4
    have hS := hS.cons hv5
    clear hp hI hv4 hv5
    refine hK1025 _ _ ?_
    (try clear hK1025 K1025)
    refine wp_ret ?_
    (try simp only [Exit.then, Exit.inBlock, Exit.jump, Exit.noGoto])
    exact bodyPost_ret (v := .tuple #[.slice none 0 0, .int .i64 2]) (results_list (rs := [.tmp 4, .tmp 5]) rfl (by simp) (Vals.at (hS.get 1 rfl) (Vals.at (hS.get 0 rfl) .nil))) hS.nodef ⟨.slice none 0 0, rfl, Kd.R_nil _ _ _ _ _, hBw1027_w⟩
  rw [if_neg c6] at H
  by_cases c7 : (Int.tmod t1018_1 2) = 0
  rotate_left
  · rw [if_neg c7] at H
    simp only [Option.some.injEq, Prod.mk.injEq] at H
    obtain ⟨rfl, rfl⟩ := H
    have hBwL1_wL1 := Below.refl wL1.heap.size wL1
    refine wp_seq_k (fun K1001 hK1001 => ?_)
    refine wp_seq_k (fun K1002 hK1002 => ?_)
    refine reg_seq (N := 73) (bs := [(0, .slice AL1_0 y1_0.length CL1_0), (1, .int .i64 x1_1), (6, .slice AL1_6 y1_6.length CL1_6)]) (I := fun x => Below w.heap.size w x ∧ Below wL1.heap.size wL1 x) (ps := [VI x1_1, IsV (.slice AL1_0 y1_0.length CL1_0), VI (y1_0.length : Int), VB (decide (x1_1 < (y1_0.length : Int)))]) (by kernel_rfl) ?_ ?_ rfl hS ⟨hBwL1_w, hBwL1_wL1⟩ ?_ ?_
    · exact fun x y hI hb => ⟨below_step hI.1 hb, below_step hI.2 hb⟩
    · exact .v (.v (.v (.v (.nil))))
    · refine .ms 1 rfl rfl rfl ?_
      refine .ms 0 rfl rfl rfl ?_
      refine .on rfl (fun a w hS hI hp => does_val (x_len (e := 5) rfl (by kernel_rfl) (hp.V 1 rfl rfl)) rfl) ?_
      refine .on rfl (fun a w hS hI hp => does_val (x_bin rfl (hp.V 0 rfl rfl) (hp.V 2 rfl rfl) (b_lss _ _ _ _ _ _)) rfl) ?_
      exact .nil
    clear hS
    intro at1003 w1004 hS hI hp
    have hBw1004_w := hI.1
    have hBw1004_wL1 := hI.2
    have hv22 : sl _ 22 = .bool (decide (x1_1 < (y1_0.length : Int))) := hp 3 (by decide)
    have hBw1004_w1004 := Below.refl w1004.heap.size w1004
    have hS := hS.cons hv22
    clear hp hI hv22
    refine hK1002 _ _ ?_
    (try clear hK1002 K1002)
    refine wp_cond_true ((hS.get 0 rfl).trans (bT (decide_eq_true c3))) ?_
    refine wp_skip ?_
    refine hK1001 _ _ ?_
    (try clear hK1001 K1001)
    refine wp_block ?_
    refine wp_seq_k (fun K1005 hK1005 => ?_)
    refine wp_seq_k (fun K1006 hK1006 => ?_)
    refine reg_seq (N := 73) (bs := [(22, .bool (decide (x1_1 < (y1_0.length : Int)))), (0, .slice AL1_0 y1_0.length CL1_0), (1, .int .i64 x1_1), (6, .slice AL1_6 y1_6.length CL1_6)]) (I := fun x => Below w.heap.size w x ∧ Below wL1.heap.size wL1 x ∧ Below w1004.heap.size w1004 x) (ps := [IsV (.slice AL1_6 y1_6.length CL1_6), VI (y1_6.length : Int), VB (decide ((y1_6.length : Int) = 8))]) (by kernel_rfl) ?_ ?_ rfl hS ⟨hBw1004_w, hBw1004_wL1, hBw1004_w1004⟩ ?_ ?_
    · exact fun x y hI hb => ⟨below_step hI.1 hb, below_step hI.2.1 hb, below_step hI.2.2 hb⟩
    · exact .v (.v (.v (.nil)))
    · refine .ms 3 rfl rfl rfl ?_
      refine .on rfl (fun a w hS hI hp => does_val (x_len (e := 26) rfl (by kernel_rfl) (hp.V 0 rfl rfl)) rfl) ?_
      refine .on rfl (fun a w hS hI hp => does_val (x_bin rfl (hp.V 1 rfl rfl) (rfl) (b_eql _ _ _ _ _ _)) rfl) ?_
      exact .nil
    clear hS
    intro at1007 w1008 hS hI hp
    have hBw1008_w := hI.1
    have hBw1008_wL1 := hI.2.1
    have hBw1008_w1004 := hI.2.2
    replace hS := (((hS.nil).cons (hS.get 3 rfl)).cons (hS.get 2 rfl)).cons (hS.get 1 rfl)
    have hv25 : sl _ 25 = .bool (decide ((y1_6.length : Int) = 8)) := hp 2 (by decide)
    have hBw1008_w1008 := Below.refl w1008.heap.size w1008
    have hS := hS.cons hv25
    clear hp hI hv25
    refine hK1006 _ _ ?_
    (try clear hK1006 K1006)
    refine wp_cond_false ((hS.get 0 rfl).trans (bF (decide_eq_false c4))) ?_
    refine wp_skip ?_
    refine hK1005 _ _ ?_
    (try clear hK1005 K1005)
    refine wp_seq_k (fun K1009 hK1009 => ?_)
    refine wp_seq_k (fun K1010 hK1010 => ?_)
    refine reg_seq (N := 73) (bs := [(25, .bool (decide ((y1_6.length : Int) = 8))), (0, .slice AL1_0 y1_0.length CL1_0), (1, .int .i64 x1_1), (6, .slice AL1_6 y1_6.length CL1_6)]) (I := fun x => Below w.heap.size w x ∧ Below wL1.heap.size wL1 x ∧ Below w1008.heap.size w1008 x) (ps := [IsV (.slice AL1_0 y1_0.length CL1_0), VI (y1_0.length : Int), VI x1_1, VI (wrap64 ((y1_0.length : Int) - x1_1)), VB (decide ((wrap64 ((y1_0.length : Int) - x1_1)) < 4))]) (by kernel_rfl) ?_ ?_ rfl hS ⟨hBw1008_w, hBw1008_wL1, hBw1008_w1008⟩ ?_ ?_
    · exact fun x y hI hb => ⟨below_step hI.1 hb, below_step hI.2.1 hb, below_step hI.2.2 hb⟩
    · exact .v (.v (.v (.v (.v (.nil)))))
    · refine .ms 1 rfl rfl rfl ?_
      refine .on rfl (fun a w hS hI hp => does_val (x_len (e := 5) rfl (by kernel_rfl) (hp.V 0 rfl rfl)) rfl) ?_
      refine .ms 2 rfl rfl rfl ?_
      refine .on rfl (fun a w hS hI hp => does_val (x_bin rfl (hp.V 1 rfl rfl) (hp.V 2 rfl rfl) (b_sub _ _ _ _ _)) rfl) ?_
      refine .on rfl (fun a w hS hI hp => does_val (x_bin rfl (hp.V 3 rfl rfl) (rfl) (b_lss _ _ _ _ _ _)) rfl) ?_
      exact .nil
    clear hS
    intro at1011 w1012 hS hI hp
    have hBw1012_w := hI.1
    have hBw1012_wL1 := hI.2.1
    have hBw1012_w1008 := hI.2.2
    replace hS := (((hS.nil).cons (hS.get 3 rfl)).cons (hS.get 2 rfl)).cons (hS.get 1 rfl)
    have hv30 : sl _ 30 = .bool (decide ((wrap64 ((y1_0.length : Int) - x1_1)) < 4)) := hp 4 (by decide)
    have hBw1012_w1012 := Below.refl w1012.heap.size w1012
    have hS := hS.cons hv30
    clear hp hI hv30
    refine hK1010 _ _ ?_
    (try clear hK1010 K1010)
    refine wp_cond_false ((hS.get 0 rfl).trans (bF (decide_eq_false c5))) ?_
    refine wp_skip ?_
    refine hK1009 _ _ ?_
    (try clear hK1009 K1009)
    refine wp_seq_k (fun K1013 hK1013 => ?_)
    refine reg_seq (N := 73) (bs := [(30, .bool (decide ((wrap64 ((y1_0.length : Int) - x1_1)) < 4))), (0, .slice AL1_0 y1_0.length CL1_0), (1, .int .i64 x1_1), (6, .slice AL1_6 y1_6.length CL1_6)]) (I := fun x => Below w.heap.size w x ∧ Below wL1.heap.size wL1 x ∧ Below w1012.heap.size w1012 x) (ps := [IsV (.slice AL1_0 y1_0.length CL1_0), VI x1_1, IsV (.tuple #[.int .i64 t1014_1, .bool t1014_2]), IsV (.tuple #[.int .i64 t1014_1, .bool t1014_2]), VI t1014_1, VB t1014_2, VI t1014_1, VB t1014_2]) (by kernel_rfl) ?_ ?_ rfl hS ⟨hBw1012_w, hBw1012_wL1, hBw1012_w1012⟩ ?_ ?_
    · exact fun x y hI hb => ⟨below_step hI.1 hb, below_step hI.2.1 hb, below_step hI.2.2 hb⟩
    · exact .v (.v (.v (.v (.v (.v (.v (.v (.nil))))))))
    · refine .ms 1 rfl rfl rfl ?_
      refine .ms 2 rfl rfl rfl ?_
      refine .on rfl (fun a w hS hI hp => does_call (by kernel_rfl) (ar3 (hp.V 0 rfl rfl) (hp.V 1 rfl rfl) (rfl)) ((carillonref01_Get.calls k _ _ y1_0 x1_1 2 t1014_1 t1014_2 _ (Kd.C_below hcL1_0 hI.1) hr1_0 At1014).mono fun _ _ h => ⟨_, h.1, h.2.below, rfl⟩)) ?_
      refine .mv 2 rfl rfl rfl rfl ?_
      iterate 2 refine .on rfl (fun a w hS hI hp => does_val (x_extract rfl (hp.V 3 rfl rfl) rfl) rfl) ?_
      refine .asg 4 rfl rfl rfl rfl ?_
      refine .asg 5 rfl rfl rfl rfl ?_
      exact .nil
    clear hS
    intro at1015 w1016 hS hI hp
    have hBw1016_w := hI.1
    have hBw1016_wL1 := hI.2.1
    have hBw1016_w1012 := hI.2.2
    replace hS := (((hS.nil).cons (hS.get 3 rfl)).cons (hS.get 2 rfl)).cons (hS.get 1 rfl)
    have hv7 : sl _ 7 = .int .i64 t1014_1 := hp 6 (by decide)
    have hBw1016_w1016 := Below.refl w1016.heap.size w1016
    have hS := hS.cons hv7
    clear hp hI hv7
    refine hK1013 _ _ ?_
    (try clear hK1013 K1013)
    refine wp_seq_k (fun K1017 hK1017 => ?_)
    refine reg_seq (N := 73) (bs := [(7, .int .i64 t1014_1), (0, .slice AL1_0 y1_0.length CL1_0), (1, .int .i64 x1_1), (6, .slice AL1_6 y1_6.length CL1_6)]) (I := fun x => Below w.heap.size w x ∧ Below wL1.heap.size wL1 x ∧ Below w1016.heap.size w1016 x) (ps := [IsV (.slice AL1_0 y1_0.length CL1_0), VI x1_1, VI (wrap64 (x1_1 + 2)), IsV (.tuple #[.int .i64 t1018_1, .bool t1018_2]), IsV (.tuple #[.int .i64 t1018_1, .bool t1018_2]), VI t1018_1, VB t1018_2, VI t1018_1, VB t1018_2]) (by kernel_rfl) ?_ ?_ rfl hS ⟨hBw1016_w, hBw1016_wL1, hBw1016_w1016⟩ ?_ ?_
    · exact fun x y hI hb => ⟨below_step hI.1 hb, below_step hI.2.1 hb, below_step hI.2.2 hb⟩
    · exact .v (.v (.v (.v (.v (.v (.v (.v (.v (.nil)))))))))
    · refine .ms 1 rfl rfl rfl ?_
      refine .ms 2 rfl rfl rfl ?_
      refine .on rfl (fun a w hS hI hp => does_val (x_bin rfl (hp.V 1 rfl rfl) (rfl) (b_add _ _ _ _ _)) rfl) ?_
      refine .on rfl (fun a w hS hI hp => does_call (by kernel_rfl) (ar3 (hp.V 0 rfl rfl) (hp.V 2 rfl rfl) (rfl)) ((carillonref01_Get.calls k _ _ y1_0 (wrap64 (x1_1 + 2)) 2 t1018_1 t1018_2 _ (Kd.C_below hcL1_0 hI.1) hr1_0 At1018).mono fun _ _ h => ⟨_, h.1, h.2.below, rfl⟩)) ?_
      refine .mv 3 rfl rfl rfl rfl ?_
      iterate 2 refine .on rfl (fun a w hS hI hp => does_val (x_extract rfl (hp.V 4 rfl rfl) rfl) rfl) ?_
      refine .asg 5 rfl rfl rfl rfl ?_
      refine .asg 6 rfl rfl rfl rfl ?_
      exact .nil
    clear hS
    intro at1019 w1020 hS hI hp
    have hBw1020_w := hI.1
    have hBw1020_wL1 := hI.2.1
    have hBw1020_w1016 := hI.2.2
    have hv9 : sl _ 9 = .int .i64 t1018_1 := hp 7 (by decide)
    have hBw1020_w1020 := Below.refl w1020.heap.size w1020
    have hS := hS.cons hv9
    clear hp hI hv9
    refine hK1017 _ _ ?_
    (try clear hK1017 K1017)
    refine wp_seq_k (fun K1021 hK1021 => ?_)
    refine wp_seq_k (fun K1022 hK1022 => ?_)
    refine reg_seq (N := 73) (bs := [(9, .int .i64 t1018_1), (7, .int .i64 t1014_1), (0, .slice AL1_0 y1_0.length CL1_0), (1, .int .i64 x1_1), (6, .slice AL1_6 y1_6.length CL1_6)]) (I := fun x => Below w.heap.size w x ∧ Below wL1.heap.size wL1 x ∧ Below w1020.heap.size w1020 x) (ps := [VI t1018_1, IsV (.slice AL1_0 y1_0.length CL1_0), VI (y1_0.length : Int), VI x1_1, VI (wrap64 ((y1_0.length : Int) - x1_1)), VI (wrap64 ((wrap64 ((y1_0.length : Int) - x1_1)) - 4)), VB (decide (t1018_1 > (wrap64 ((wrap64 ((y1_0.length : Int) - x1_1)) - 4))))]) (by kernel_rfl) ?_ ?_ rfl hS ⟨hBw1020_w, hBw1020_wL1, hBw1020_w1020⟩ ?_ ?_
    · exact fun x y hI hb => ⟨below_step hI.1 hb, below_step hI.2.1 hb, below_step hI.2.2 hb⟩
    · exact .v (.v (.v (.v (.v (.v (.v (.nil)))))))
    · refine .ms 0 rfl rfl rfl ?_
      refine .ms 2 rfl rfl rfl ?_
      refine .on rfl (fun a w hS hI hp => does_val (x_len (e := 5) rfl (by kernel_rfl) (hp.V 1 rfl rfl)) rfl) ?_
      refine .ms 3 rfl rfl rfl ?_
      refine .on rfl (fun a w hS hI hp => does_val (x_bin rfl (hp.V 2 rfl rfl) (hp.V 3 rfl rfl) (b_sub _ _ _ _ _)) rfl) ?_
      refine .on rfl (fun a w hS hI hp => does_val (x_bin rfl (hp.V 4 rfl rfl) (rfl) (b_sub _ _ _ _ _)) rfl) ?_
      refine .on rfl (fun a w hS hI hp => does_val (x_bin rfl (hp.V 0 rfl rfl) (hp.V 5 rfl rfl) (b_gtr _ _ _ _ _ _)) rfl) ?_
      exact .nil
    clear hS
    intro at1023 w1024 hS hI hp
    have hBw1024_w := hI.1
    have hBw1024_wL1 := hI.2.1
    have hBw1024_w1020 := hI.2.2
    have hv50 : sl _ 50 = .bool (decide (t1018_1 > (wrap64 ((wrap64 ((y1_0.length : Int) - x1_1)) - 4)))) := hp 6 (by decide)
    have hBw1024_w1024 := Below.refl w1024.heap.size w1024
    have hS := hS.cons hv50
    clear hp hI hv50
    refine hK1022 _ _ ?_
    (try clear hK1022 K1022)
    refine wp_cond_false ((hS.get 0 rfl).trans (bF (decide_eq_false c6))) ?_
    refine wp_skip ?_
    refine hK1021 _ _ ?_
    (try clear hK1021 K1021)
    refine wp_seq_k (fun K1025 hK1025 => ?_)
    refine wp_seq_k (fun K1026 hK1026 => ?_)
    refine reg_seq (N := 73) (bs := [(50, .bool (decide (t1018_1 > (wrap64 ((wrap64 ((y1_0.length : Int) - x1_1)) - 4))))), (9, .int .i64 t1018_1), (7, .int .i64 t1014_1), (0, .slice AL1_0 y1_0.length CL1_0), (1, .int .i64 x1_1), (6, .slice AL1_6 y1_6.length CL1_6)]) (I := fun x => Below w.heap.size w x ∧ Below wL1.heap.size wL1 x ∧ Below w1024.heap.size w1024 x) (ps := [VI t1018_1, VI (Int.tmod t1018_1 2), VB (!decide ((Int.tmod t1018_1 2) = 0))]) (by kernel_rfl) ?_ ?_ rfl hS ⟨hBw1024_w, hBw1024_wL1, hBw1024_w1024⟩ ?_ ?_
    · exact fun x y hI hb => ⟨below_step hI.1 hb, below_step hI.2.1 hb, below_step hI.2.2 hb⟩
    · exact .v (.v (.v (.nil)))
    · refine .ms 1 rfl rfl rfl ?_
      refine .on rfl (fun a w hS hI hp => does_val (x_bin rfl (hp.V 0 rfl rfl) (rfl) (b_rem _ _ _ _ _ _ (by decide))) rfl) ?_
      refine .on rfl (fun a w hS hI hp => does_val (x_bin rfl (hp.V 1 rfl rfl) (rfl) (b_neq _ _ _ _ _ _)) rfl) ?_
      exact .nil
    clear hS
    intro at1027 w1028 hS hI hp
    have hBw1028_w := hI.1
    have hBw1028_wL1 := hI.2.1
    have hBw1028_w1024 := hI.2.2
    replace hS := (((((hS.nil).cons (hS.get 5 rfl)).cons (hS.get 4 rfl)).cons (hS.get 3 rfl)).cons (hS.get 2 rfl)).cons (hS.get 1 rfl)
    have hv53 : sl _ 53 = .bool (!decide ((Int.tmod t1018_1 2) = 0)) := hp 2 (by decide)
    have hBw1028_w1028 := Below.refl w1028.heap.size w1028
    have hS := hS.cons hv53
    clear hp hI hv53
    refine hK1026 _ _ ?_
    (try clear hK1026 K1026)
    refine wp_cond_true ((hS.get 0 rfl).trans (bT (congrArg (!·) (decide_eq_false c7)))) ?_
    refine wp_seq_k (fun K1029 hK1029 => ?_)
    refine reg_seq (N := 73) (bs := [(53, .bool (!decide ((Int.tmod t1018_1 2) = 0))), (9, .int .i64 t1018_1), (7, .int .i64 t1014_1), (0, .slice AL1_0 y1_0.length CL1_0), (1, .int .i64 x1_1), (6, .slice AL1_6 y1_6.length CL1_6)]) (I := fun x => Below w.heap.size w x ∧ Below wL1.heap.size wL1 x ∧ Below w1028.heap.size w1028 x) (ps := [IsV (.slice none 0 0), VI 4]) (by kernel_rfl) ?_ ?_ rfl hS ⟨hBw1028_w, hBw1028_wL1, hBw1028_w1028⟩ ?_ ?_
    · exact fun x y hI hb => ⟨below_step hI.1 hb, below_step hI.2.1 hb, below_step hI.2.2 hb⟩
    · exact .v (.v (.nil))
    · refine .on rfl (fun a w hS hI hp => does_val (x_assign rfl (rfl)) rfl) ?_
      refine .on rfl (fun a w hS hI hp => does_val (x_assign rfl (rfl)) rfl) ?_
      exact .nil
    clear hS
    intro at1030 w1031 hS hI hp
    have hBw1031_w := hI.1
    have hBw1031_wL1 := hI.2.1
    have hBw1031_w1028 := hI.2.2
    replace hS := hS.nil
    have hv4 : sl _ 4 = .slice none 0 0 := hp 0 (by decide)
    have hv5 : sl _ 5 = .int .i64 4 := hp 1 (by decide)
    have hBw1031_w1031 := Below.refl w1031.heap.size w1031
    have hS := hS.cons hv4
    have hS := hS.cons hv5
    clear hp hI hv4 hv5
    refine hK1029 _ _ ?_
    (try clear hK1029 K1029)
    refine wp_ret ?_
    (try simp only [Exit.then, Exit.inBlock, Exit.jump, Exit.noGoto])
    exact bodyPost_ret (v := .tuple #[.slice none 0 0, .int .i64 4]) (results_list (rs := [.tmp 4, .tmp 5]) rfl (by simp) (Vals.at (hS.get 1 rfl) (Vals.at (hS.get 0 rfl) .nil))) hS.nodef ⟨.slice none 0 0, rfl, Kd.R_nil _ _ _ _ _, hBw1031_w⟩
  rw [if_pos c7] at H
  by_cases c8 : 0 ≤ (wrap64 (x1_1 + 4))
  rotate_left
  · rw [if_neg c8] at H
    exact absurd H (by simp)
  rw [if_pos c8] at H
  by_cases c9 : (wrap64 (x1_1 + 4)) ≤ (wrap64 ((wrap64 (x1_1 + 4)) + t1018_1))
  rotate_left
  · rw [if_neg c9] at H
    exact absurd H (by simp)
  rw [if_pos c9] at H
  by_cases c10 : (wrap64 ((wrap64 (x1_1 + 4)) + t1018_1)) ≤ (y1_0.length : Int)
  rotate_left
  · rw [if_neg c10] at H
    exact absurd H (by simp)
  rw [if_pos c10] at H
  by_cases c11 : (y1_6.length + [(⟨t1014_1, strOfNums ((y1_0.take (wrap64 ((wrap64 (x1_1 + 4)) + t1018_1) : Int).toNat).drop (wrap64 (x1_1 + 4) : Int).toNat)⟩ : S26)].length) * 24 ≤ 140737488355328
  rotate_left
  · rw [if_neg c11] at H
    exact absurd H (by simp)
  rw [if_pos c11] at H
  have hBwL1_wL1 := Below.refl wL1.heap.size wL1
  refine wp_seq_k (fun K1001 hK1001 => ?_)
  refine wp_seq_k (fun K1002 hK1002 => ?_)
  refine reg_seq (N := 73) (bs := [(0, .slice AL1_0 y1_0.length CL1_0), (1, .int .i64 x1_1), (6, .slice AL1_6 y1_6.length CL1_6)]) (I := fun x => Below w.heap.size w x ∧ Below wL1.heap.size wL1 x) (ps := [VI x1_1, IsV (.slice AL1_0 y1_0.length CL1_0), VI (y1_0.length : Int), VB (decide (x1_1 < (y1_0.length : Int)))]) (by kernel_rfl) ?_ ?_ rfl hS ⟨hBwL1_w, hBwL1_wL1⟩ ?_ ?_
  · exact fun x y hI hb => ⟨below_step hI.1 hb, below_step hI.2 hb⟩
  · exact .v (.v (.v (.v (.nil))))
  · refine .ms 1 rfl rfl rfl ?_
    refine .ms 0 rfl rfl rfl ?_
    refine .on rfl (fun a w hS hI hp => does_val (x_len (e := 5) rfl (by kernel_rfl) (hp.V 1 rfl rfl)) rfl) ?_
    refine .on rfl (fun a w hS hI hp => does_val (x_bin rfl (hp.V 0 rfl rfl) (hp.V 2 rfl rfl) (b_lss _ _ _ _ _ _)) rfl) ?_
    exact .nil
  clear hS
  intro at1003 w1004 hS hI hp
  have hBw1004_w := hI.1
  have hBw1004_wL1 := hI.2
  have hv22 : sl _ 22 = .bool (decide (x1_1 < (y1_0.length : Int))) := hp 3 (by decide)
  have hBw1004_w1004 := Below.refl w1004.heap.size w1004
  have hS := hS.cons hv22
  clear hp hI hv22
  refine hK1002 _ _ ?_
  (try clear hK1002 K1002)
  refine wp_cond_true ((hS.get 0 rfl).trans (bT (decide_eq_true c3))) ?_
  refine wp_skip ?_
  refine hK1001 _ _ ?_
  (try clear hK1001 K1001)
  refine wp_block ?_
  refine wp_seq_k (fun K1005 hK1005 => ?_)
  refine wp_seq_k (fun K1006 hK1006 => ?_)
  refine reg_seq (N := 73) (bs := [(22, .bool (decide (x1_1 < (y1_0.length : Int)))), (0, .slice AL1_0 y1_0.length CL1_0), (1, .int .i64 x1_1), (6, .slice AL1_6 y1_6.length CL1_6)]) (I := fun x => Below w.heap.size w x ∧ Below wL1.heap.size wL1 x ∧ Below w1004.heap.size w1004 x) (ps := [IsV (.slice AL1_6 y1_6.length CL1_6), VI (y1_6.length : Int), VB (decide ((y1_6.length : Int) = 8))]) (by kernel_rfl) ?_ ?_ rfl hS ⟨hBw1004_w, hBw1004_wL1, hBw1004_w1004⟩ ?_ ?_
  · exact fun x y hI hb => ⟨below_step hI.1 hb, below_step hI.2.1 hb, below_step hI.2.2 hb⟩
  · exact .v (.v (.v (.nil)))
  · refine .ms 3 rfl rfl rfl ?_
    refine .on rfl (fun a w hS hI hp => does_val (x_len (e := 26) rfl (by kernel_rfl) (hp.V 0 rfl rfl)) rfl) ?_
    refine .on rfl (fun a w hS hI hp => does_val (x_bin rfl (hp.V 1 rfl rfl) (rfl) (b_eql _ _ _ _ _ _)) rfl) ?_
    exact .nil
  clear hS
  intro at1007 w1008 hS hI hp
  have hBw1008_w := hI.1
  have hBw1008_wL1 := hI.2.1
  have hBw1008_w1004 := hI.2.2
  replace hS := (((hS.nil).cons (hS.get 3 rfl)).cons (hS.get 2 rfl)).cons (hS.get 1 rfl)
  have hv25 : sl _ 25 = .bool (decide ((y1_6.length : Int) = 8)) := hp 2 (by decide)
  have hBw1008_w1008 := Below.refl w1008.heap.size w1008
  have hS := hS.cons hv25
  clear hp hI hv25
  refine hK1006 _ _ ?_
  (try clear hK1006 K1006)
  refine wp_cond_false ((hS.get 0 rfl).trans (bF (decide_eq_false c4))) ?_
  refine wp_skip ?_
  refine hK1005 _ _ ?_
  (try clear hK1005 K1005)
  refine wp_seq_k (fun K1009 hK1009 => ?_)
  refine wp_seq_k (fun K1010 hK1010 => ?_)
  refine reg_seq (N := 73) (bs := [(25, .bool (decide ((y1_6.length : Int) = 8))), (0, .slice AL1_0 y1_0.length CL1_0), (1, .int .i64 x1_1), (6, .slice AL1_6 y1_6.length CL1_6)]) (I := fun x => Below w.heap.size w x ∧ Below wL1.heap.size wL1 x ∧ Below w1008.heap.size w1008 x) (ps := [IsV (.slice AL1_0 y1_0.length CL1_0), VI (y1_0.length : Int), VI x1_1, VI (wrap64 ((y1_0.length : Int) - x1_1)), VB (decide ((wrap64 ((y1_0.length : Int) - x1_1)) < 4))]) (by kernel_rfl) ?_ ?_ rfl hS ⟨hBw1008_w, hBw1008_wL1, hBw1008_w1008⟩ ?_ ?_
  · exact fun x y hI hb => ⟨below_step hI.1 hb, below_step hI.2.1 hb, below_step hI.2.2 hb⟩
  · exact .v (.v (.v (.v (.v (.nil)))))
  · refine .ms 1 rfl rfl rfl ?_
    refine .on rfl (fun a w hS hI hp => does_val (x_len (e := 5) rfl (by kernel_rfl) (hp.V 0 rfl rfl)) rfl) ?_
    refine .ms 2 rfl rfl rfl ?_
    refine .on rfl (fun a w hS hI hp => does_val (x_bin rfl (hp.V 1 rfl rfl) (hp.V 2 rfl rfl) (b_sub _ _ _ _ _)) rfl) ?_
    refine .on rfl (fun a w hS hI hp => does_val (x_bin rfl (hp.V 3 rfl rfl) (rfl) (b_lss _ _ _ _ _ _)) rfl) ?_
    exact .nil
  clear hS
  intro at1011 w1012 hS hI hp
  have hBw1012_w := hI.1
  have hBw1012_wL1 := hI.2.1
  have hBw1012_w1008 := hI.2.2
  replace hS := (((hS.nil).cons (hS.get 3 rfl)).cons (hS.get 2 rfl)).cons (hS.get 1 rfl)
  have hv30 : sl _ 30 = .bool (decide ((wrap64 ((y1_0.length : Int) - x1_1)) < 4)) := hp 4 (by decide)
  have hBw1012_w1012 := Below.refl w1012.heap.size w1012
  have hS := hS.cons hv30
  clear hp hI hv30
  refine hK1010 _ _ ?_
  (try clear hK1010 K1010)
  refine wp_cond_false ((hS.get 0 rfl).trans (bF (decide_eq_false c5))) ?_
  refine wp_skip ?_
  refine hK1009 _ _ ?_
  (try clear hK1009 K1009)
  refine wp_seq_k (fun K1013 hK1013 => ?_)
  refine reg_seq (N := 73) (bs := [(30, .bool (decide ((wrap64 ((y1_0.length : Int) - x1_1)) < 4))), (0, .slice AL1_0 y1_0.length CL1_0), (1, .int .i64 x1_1), (6, .slice AL1_6 y1_6.length CL1_6)]) (I := fun x => Below w.heap.size w x ∧ Below wL1.heap.size wL1 x ∧ Below w1012.heap.size w1012 x) (ps := [IsV (.slice AL1_0 y1_0.length CL1_0), VI x1_1, IsV (.tuple #[.int .i64 t1014_1, .bool t1014_2]), IsV (.tuple #[.int .i64 t1014_1, .bool t1014_2]), VI t1014_1, VB t1014_2, VI t1014_1, VB t1014_2]) (by kernel_rfl) ?_ ?_ rfl hS ⟨hBw1012_w, hBw1012_wL1, hBw1012_w1012⟩ ?_ ?_
  · exact fun x y hI hb => ⟨below_step hI.1 hb, below_step hI.2.1 hb, below_step hI.2.2 hb⟩
  · exact .v (.v (.v (.v (.v (.v (.v (.v (.nil))))))))
  · refine .ms 1 rfl rfl rfl ?_
    refine .ms 2 rfl rfl rfl ?_
    refine .on rfl (fun a w hS hI hp => does_call (by kernel_rfl) (ar3 (hp.V 0 rfl rfl) (hp.V 1 rfl rfl) (rfl)) ((carillonref01_Get.calls k _ _ y1_0 x1_1 2 t1014_1 t1014_2 _ (Kd.C_below hcL1_0 hI.1) hr1_0 At1014).mono fun _ _ h => ⟨_, h.1, h.2.below, rfl⟩)) ?_
    refine .mv 2 rfl rfl rfl rfl ?_
    iterate 2 refine .on rfl (fun a w hS hI hp => does_val (x_extract rfl (hp.V 3 rfl rfl) rfl) rfl) ?_
    refine .asg 4 rfl rfl rfl rfl ?_
    refine .asg 5 rfl rfl rfl rfl ?_
    exact .nil
  clear hS
  intro at1015 w1016 hS hI hp
  have hBw1016_w := hI.1
  have hBw1016_wL1 := hI.2.1
  have hBw1016_w1012 := hI.2.2
  replace hS := (((hS.nil).cons (hS.get 3 rfl)).cons (hS.get 2 rfl)).cons (hS.get 1 rfl)
  have hv7 : sl _ 7 = .int .i64 t1014_1 := hp 6 (by decide)
  have hBw1016_w1016 := Below.refl w1016.heap.size w1016
  have hS := hS.cons hv7
  clear hp hI hv7
  refine hK1013 _ _ ?_
  (try clear hK1013 K1013)
  refine wp_seq_k (fun K1017 hK1017 => ?_)
  refine reg_seq (N := 73) (bs := [(7, .int .i64 t1014_1), (0, .slice AL1_0 y1_0.length CL1_0), (1, .int .i64 x1_1), (6, .slice AL1_6 y1_6.length CL1_6)]) (I := fun x => Below w.heap.size w x ∧ Below wL1.heap.size wL1 x ∧ Below w1016.heap.size w1016 x) (ps := [IsV (.slice AL1_0 y1_0.length CL1_0), VI x1_1, VI (wrap64 (x1_1 + 2)), IsV (.tuple #[.int .i64 t1018_1, .bool t1018_2]), IsV (.tuple #[.int .i64 t1018_1, .bool t1018_2]), VI t1018_1, VB t1018_2, VI t1018_1, VB t1018_2]) (by kernel_rfl) ?_ ?_ rfl hS ⟨hBw1016_w, hBw1016_wL1, hBw1016_w1016⟩ ?_ ?_
  · exact fun x y hI hb => ⟨below_step hI.1 hb, below_step hI.2.1 hb, below_step hI.2.2 hb⟩
  · exact .v (.v (.v (.v (.v (.v (.v (.v (.v (.nil)))))))))
  · refine .ms 1 rfl rfl rfl ?_
    refine .ms 2 rfl rfl rfl ?_
    refine .on rfl (fun a w hS hI hp => does_val (x_bin rfl (hp.V 1 rfl rfl) (rfl) (b_add _ _ _ _ _)) rfl) ?_
    refine .on rfl (fun a w hS hI hp => does_call (by kernel_rfl) (ar3 (hp.V 0 rfl rfl) (hp.V 2 rfl rfl) (rfl)) ((carillonref01_Get.calls k _ _ y1_0 (wrap64 (x1_1 + 2)) 2 t1018_1 t1018_2 _ (Kd.C_below hcL1_0 hI.1) hr1_0 At1018).mono fun _ _ h => ⟨_, h.1, h.2.below, rfl⟩)) ?_
    refine .mv 3 rfl rfl rfl rfl ?_
    iterate 2 refine .on rfl (fun a w hS hI hp => does_val (x_extract rfl (hp.V 4 rfl rfl) rfl) rfl) ?_
    refine .asg 5 rfl rfl rfl rfl ?_
    refine .asg 6 rfl rfl rfl rfl ?_
    exact .nil
  clear hS
  intro at1019 w1020 hS hI hp
  have hBw1020_w := hI.1
  have hBw1020_wL1 := hI.2.1
  have hBw1020_w1016 := hI.2.2
  have hv9 : sl _ 9 = .int .i64 t1018_1 := hp 7 (by decide)
  have hBw1020_w1020 := Below.refl w1020.heap.size w1020
  have hS := hS.cons hv9
  clear hp hI hv9
  refine hK1017 _ _ ?_
  (try clear hK1017 K1017)
  refine wp_seq_k (fun K1021 hK1021 => ?_)
  refine wp_seq_k (fun K1022 hK1022 => ?_)
  refine reg_seq (N := 73) (bs := [(9, .int .i64 t1018_1), (7, .int .i64 t1014_1), (0, .slice AL1_0 y1_0.length CL1_0), (1, .int .i64 x1_1), (6, .slice AL1_6 y1_6.length CL1_6)]) (I := fun x => Below w.heap.size w x ∧ Below wL1.heap.size wL1 x ∧ Below w1020.heap.size w1020 x) (ps := [VI t1018_1, IsV (.slice AL1_0 y1_0.length CL1_0), VI (y1_0.length : Int), VI x1_1, VI (wrap64 ((y1_0.length : Int) - x1_1)), VI (wrap64 ((wrap64 ((y1_0.length : Int) - x1_1)) - 4)), VB (decide (t1018_1 > (wrap64 ((wrap64 ((y1_0.length : Int) - x1_1)) - 4))))]) (by kernel_rfl) ?_ ?_ rfl hS ⟨hBw1020_w, hBw1020_wL1, hBw1020_w1020⟩ ?_ ?_
  · exact fun x y hI hb => ⟨below_step hI.1 hb, below_step hI.2.1 hb, below_step hI.2.2 hb⟩
  · exact .v (.v (.v (.v (.v (.v (.v (.nil)))))))
  · refine .ms 0 rfl rfl rfl ?_
    refine .ms 2 rfl rfl rfl ?_
    refine .on rfl (fun a w hS hI hp => does_val (x_len (e := 5) rfl (by kernel_rfl) (hp.V 1 rfl rfl)) rfl) ?_
    refine .ms 3 rfl rfl rfl ?_
    refine .on rfl (fun a w hS hI hp => does_val (x_bin rfl (hp.V 2 rfl rfl) (hp.V 3 rfl rfl) (b_sub _ _ _ _ _)) rfl) ?_
    refine .on rfl (fun a w hS hI hp => does_val (x_bin rfl (hp.V 4 rfl rfl) (rfl) (b_sub _ _ _ _ _)) rfl) ?_
    refine .on rfl (fun a w hS hI hp => does_val (x_bin rfl (hp.V 0 rfl rfl) (hp.V 5 rfl rfl) (b_gtr _ _ _ _ _ _)) rfl) ?_
    exact .nil
  clear hS
  intro at1023 w1024 hS hI hp
  have hBw1024_w := hI.1
  have hBw1024_wL1 := hI.2.1
  have hBw1024_w1020 := hI.2.2
  have hv50 : sl _ 50 = .bool (decide (t1018_1 > (wrap64 ((wrap64 ((y1_0.length : Int) - x1_1)) - 4)))) := hp 6 (by decide)
  have hBw1024_w1024 := Below.refl w1024.heap.size w1024
  have hS := hS.cons hv50
  clear hp hI hv50
  refine hK1022 _ _ ?_
  (try clear hK1022 K1022)
  refine wp_cond_false ((hS.get 0 rfl).trans (bF (decide_eq_false c6))) ?_
  refine wp_skip ?_
  refine hK1021 _ _ ?_
  (try clear hK1021 K1021)
  refine wp_seq_k (fun K1025 hK1025 => ?_)
  refine wp_seq_k (fun K1026 hK1026 => ?_)
  refine reg_seq (N := 73) (bs := [(50, .bool (decide (t1018_1 > (wrap64 ((wrap64 ((y1_0.length : Int) - x1_1)) - 4))))), (9, .int .i64 t1018_1), (7, .int .i64 t1014_1), (0, .slice AL1_0 y1_0.length CL1_0), (1, .int .i64 x1_1), (6, .slice AL1_6 y1_6.length CL1_6)]) (I := fun x => Below w.heap.size w x ∧ Below wL1.heap.size wL1 x ∧ Below w1024.heap.size w1024 x) (ps := [VI t1018_1, VI (Int.tmod t1018_1 2), VB (!decide ((Int.tmod t1018_1 2) = 0))]) (by kernel_rfl) ?_ ?_ rfl hS ⟨hBw1024_w, hBw1024_wL1, hBw1024_w1024⟩ ?_ ?_
  · exact fun x y hI hb => ⟨below_step hI.1 hb, below_step hI.2.1 hb, below_step hI.2.2 hb⟩
  · exact .v (.v (.v (.nil)))
  · refine .ms 1 rfl rfl rfl ?_
    refine .on rfl (fun a w hS hI hp => does_val (x_bin rfl (hp.V 0 rfl rfl) (rfl) (b_rem _ _ _ _ _ _ (by decide))) rfl) ?_
    refine .on rfl (fun a w hS hI hp => does_val (x_bin rfl (hp.V 1 rfl rfl) (rfl) (b_neq _ _ _ _ _ _)) rfl) ?_
    exact .nil
  clear hS
  intro at1027 w1028 hS hI hp
  have hBw1028_w := hI.1
  have hBw1028_wL1 := hI.2.1
  have hBw1028_w1024 := hI.2.2
  replace hS := (((((hS.nil).cons (hS.get 5 rfl)).cons (hS.get 4 rfl)).cons (hS.get 3 rfl)).cons (hS.get 2 rfl)).cons (hS.get 1 rfl)
  have hv53 : sl _ 53 = .bool (!decide ((Int.tmod t1018_1 2) = 0)) := hp 2 (by decide)
  have hBw1028_w1028 := Below.refl w1028.heap.size w1028
  have hS := hS.cons hv53
  clear hp hI hv53
  refine hK1026 _ _ ?_
  (try clear hK1026 K1026)
  refine wp_cond_false ((hS.get 0 rfl).trans (bF (congrArg (!·) (decide_eq_true c7)))) ?_
  refine wp_skip ?_
  refine hK1025 _ _ ?_
  (try clear hK1025 K1025)
  refine wp_seq_k (fun K1029 hK1029 => ?_)
  refine reg_seq_tail 13 (N := 73) (bs := [(53, .bool (!decide ((Int.tmod t1018_1 2) = 0))), (9, .int .i64 t1018_1), (7, .int .i64 t1014_1), (0, .slice AL1_0 y1_0.length CL1_0), (1, .int .i64 x1_1), (6, .slice AL1_6 y1_6.length CL1_6)]) (I := fun x => Below w.heap.size w x ∧ Below wL1.heap.size wL1 x ∧ Below w1028.heap.size w1028 x) (ps := [IsV (.slice AL1_6 y1_6.length CL1_6), VI t1014_1, IsV (.slice AL1_0 y1_0.length CL1_0), VI x1_1, VI (wrap64 (x1_1 + 4)), VI x1_1, VI (wrap64 (x1_1 + 4)), VI t1018_1, VI (wrap64 ((wrap64 (x1_1 + 4)) + t1018_1)), IsC (Kd.int .u8) ((y1_0.take (wrap64 ((wrap64 (x1_1 + 4)) + t1018_1) : Int).toNat).drop (wrap64 (x1_1 + 4) : Int).toNat), IsV (.string (strOfNums ((y1_0.take (wrap64 ((wrap64 (x1_1 + 4)) + t1018_1) : Int).toNat).drop (wrap64 (x1_1 + 4) : Int).toNat))), IsV (.agg #[.int .i64 t1014_1, .string (strOfNums ((y1_0.take (wrap64 ((wrap64 (x1_1 + 4)) + t1018_1) : Int).toNat).drop (wrap64 (x1_1 + 4) : Int).toNat))]), IsR k26 26 w1028.heap.size [(⟨t1014_1, strOfNums ((y1_0.take (wrap64 ((wrap64 (x1_1 + 4)) + t1018_1) : Int).toNat).drop (wrap64 (x1_1 + 4) : Int).toNat)⟩ : S26)]]) (by kernel_rfl) ?_ ?_ rfl hS ⟨hBw1028_w, hBw1028_wL1, hBw1028_w1028⟩ ?_ ?_
  · exact fun x y hI hb => ⟨below_step hI.1 hb, below_step hI.2.1 hb, below_step hI.2.2 hb⟩
  · exact .v (.v (.v (.v (.v (.v (.v (.v (.v (.cons (Stays.c _ _) (.v (.v (.cons (Stays.r _ _ _ _) (.nil)))))))))))))
  · refine .ms 5 rfl rfl rfl ?_
    refine .ms 2 rfl rfl rfl ?_
    refine .ms 3 rfl rfl rfl ?_
    refine .ms 4 rfl rfl rfl ?_
    refine .on rfl (fun a w hS hI hp => does_val (x_bin rfl (hp.V 3 rfl rfl) (rfl) (b_add _ _ _ _ _)) rfl) ?_
    refine .ms 4 rfl rfl rfl ?_
    refine .on rfl (fun a w hS hI hp => does_val (x_bin rfl (hp.V 5 rfl rfl) (rfl) (b_add _ _ _ _ _)) rfl) ?_
    refine .ms 1 rfl rfl rfl ?_
    refine .on rfl (fun a w hS hI hp => does_val (x_bin rfl (hp.V 6 rfl rfl) (hp.V 7 rfl rfl) (b_add _ _ _ _ _)) rfl) ?_
    refine .on rfl (fun a w hS hI hp => does_cut (i := wrap64 (x1_1 + 4)) (j := wrap64 ((wrap64 (x1_1 + 4)) + t1018_1)) rfl (e := 5) (by kernel_rfl) (by kernel_rfl) (hp.V 2 rfl rfl) (.inr ⟨_, rfl, (hp.V 4 rfl rfl)⟩) (.inr ⟨_, rfl, (hp.V 8 rfl rfl)⟩) c8 c9 c10 hr1_0 ((Kd.C_below hcL1_0 hI.1))) ?_
    refine .on rfl (fun a w hS hI hp => (hp.V 9 rfl rfl).elim fun A_ h_ => h_.elim fun c_ h_ => h_.elim fun hv_ h_ => h_.elim fun hl_ hc_ => does_val (x_conv rfl hv_ (Kd.C_string (by kernel_rfl) (e := 5) (by kernel_rfl) (by kernel_rfl) hc_)) rfl) ?_
    refine .on rfl (fun a w hS hI hp => does_val (x_build (vs := [(0, .int .i64 t1014_1), (1, .string (strOfNums ((y1_0.take (wrap64 ((wrap64 (x1_1 + 4)) + t1018_1) : Int).toNat).drop (wrap64 (x1_1 + 4) : Int).toNat)))]) rfl (by rw [Array.toList_map]; exact (show [(0, a.eval (.tmp 55)), (1, a.eval (.tmp 64))] = _ from (li_cons (hp.V 1 rfl rfl) (li_cons (hp.V 10 rfl rfl) rfl)))) (by kernel_rfl)) rfl) ?_
    refine .on rfl (fun a w hS hI hp => does_litT carillonref08_Get.flat26 w1028.heap.size 22 26 _ [(0, .agg #[.int .i64 t1014_1, .string (strOfNums ((y1_0.take (wrap64 ((wrap64 (x1_1 + 4)) + t1018_1) : Int).toNat).drop (wrap64 (x1_1 + 4) : Int).toNat))])] (⟨t1014_1, strOfNums ((y1_0.take (wrap64 ((wrap64 (x1_1 + 4)) + t1018_1) : Int).toNat).drop (wrap64 (x1_1 + 4) : Int).toNat)⟩ : S26) rfl (by kernel_rfl) (by rw [Array.toList_map]; exact (show [(0, a.eval (.tmp 65))] = _ from (li_cons (hp.V 11 rfl rfl) rfl))) (by kernel_rfl) (hI.2.2).size) ?_
    exact .nil
  clear hS
  intro at1030 w1031 hS hI hp
  have hBw1031_w := hI.1
  have hBw1031_wL1 := hI.2.1
  have hBw1031_w1028 := hI.2.2
  replace hS := ((((hS.nil).cons (hS.get 5 rfl)).cons (hS.get 4 rfl)).cons (hS.get 3 rfl)).cons (hS.get 1 rfl)
  have hv54 : sl _ 54 = .slice AL1_6 y1_6.length CL1_6 := hp 0 (by decide)
  obtain ⟨A1032, C1032, hv66, hl1032, hc1032⟩ := Kd.R_reads (show Kd.R k26 26 w1031 w1028.heap.size (fun _ => True) (sl _ 66) [(⟨t1014_1, strOfNums ((y1_0.take (wrap64 ((wrap64 (x1_1 + 4)) + t1018_1) : Int).toNat).drop (wrap64 (x1_1 + 4) : Int).toNat)⟩ : S26)] from hp 12 (by decide))
  have ho1032 : Kd.R k26 26 w1031 w1028.heap.size (fun _ => True) (.slice A1032 [(⟨t1014_1, strOfNums ((y1_0.take (wrap64 ((wrap64 (x1_1 + 4)) + t1018_1) : Int).toNat).drop (wrap64 (x1_1 + 4) : Int).toNat)⟩ : S26)].length C1032) [(⟨t1014_1, strOfNums ((y1_0.take (wrap64 ((wrap64 (x1_1 + 4)) + t1018_1) : Int).toNat).drop (wrap64 (x1_1 + 4) : Int).toNat)⟩ : S26)] := hv66 ▸ (hp 12 (by decide))
  have hBw1031_w1031 := Below.refl w1031.heap.size w1031
  have hS := hS.cons hv54
  have hS := hS.cons hv66
  clear hp hI hv54 hv66
  show wpList _ _ _ [_, _] _ _
  refine list_step rfl (does_moreT carillonref08_Get.flat26 (W := w) (.tmp 54) (.tmp 66) 22 26 (.agg #[(.int .i64 0), (.string ⟨#[]⟩)]) 24 rfl (by kernel_rfl) (by kernel_rfl) rfl (by decide) (by decide) _ y1_6 [(⟨t1014_1, strOfNums ((y1_0.take (wrap64 ((wrap64 (x1_1 + 4)) + t1018_1) : Int).toNat).drop (wrap64 (x1_1 + 4) : Int).toNat)⟩ : S26)] _ _ _ (hS.get 1 rfl) (hS.get 0 rfl) (Kd.R_below hoL1_6 hBw1031_wL1) (Kd.C_below hc1032 hBw1031_w1031) hBw1031_w c11) ?_
  rintro vw1033 w1033 ⟨hb, hr, hk⟩
  clear hk
  have hBw1033_w := hb
  replace hS := (((hS.nil).cons (hS.get 4 rfl)).cons (hS.get 3 rfl)).cons (hS.get 2 rfl)
  have hBw1033_w1033 := Below.refl w1033.heap.size w1033
  obtain ⟨A1034, C1034, rfl, hl1034, hc1034⟩ := Kd.R_reads hr
  have hr1034 := hr
  clear hr
  refine hS.next (v := .slice A1034 ((y1_6 ++ [(⟨t1014_1, strOfNums ((y1_0.take (wrap64 ((wrap64 (x1_1 + 4)) + t1018_1) : Int).toNat).drop (wrap64 (x1_1 + 4) : Int).toNat)⟩ : S26)] : List S26).length) C1034) (d := 67) rfl (by decide) (by rfl) ?_
  clear hS
  intro at1035 hS
  refine list_step rfl (R := fun v w' => Below _ _ w' ∧ (IsV (.slice A1034 ((y1_6 ++ [(⟨t1014_1, strOfNums ((y1_0.take (wrap64 ((wrap64 (x1_1 + 4)) + t1018_1) : Int).toNat).drop (wrap64 (x1_1 + 4) : Int).toNat)⟩ : S26)] : List S26).length) C1034)) v w') (does_val (x_assign rfl (hS.get 0 rfl)) rfl) ?_
  rintro vw1036 w1036 ⟨hb, he⟩
  have hBw1036_w := below_step hBw1033_w hb
  have hBw1036_w1033 := below_step hBw1033_w1033 hb
  have hBw1036_w1036 := Below.refl w1036.heap.size w1036
  obtain rfl : vw1036 = .slice A1034 ((y1_6 ++ [(⟨t1014_1, strOfNums ((y1_0.take (wrap64 ((wrap64 (x1_1 + 4)) + t1018_1) : Int).toNat).drop (wrap64 (x1_1 + 4) : Int).toNat)⟩ : S26)] : List S26).length) C1034 := he
  refine hS.next (v := .slice A1034 ((y1_6 ++ [(⟨t1014_1, strOfNums ((y1_0.take (wrap64 ((wrap64 (x1_1 + 4)) + t1018_1) : Int).toNat).drop (wrap64 (x1_1 + 4) : Int).toNat)⟩ : S26)] : List S26).length) C1034) (d := 6) rfl (by decide) (by rfl) ?_
  clear hS
  intro at1037 hS
  refine wpList_nil ?_
  refine hK1029 _ _ ?_
  (try clear hK1029 K1029)
  refine reg_seq_tail 4 (N := 73) (bs := [(6, .slice A1034 ((y1_6 ++ [(⟨t1014_1, strOfNums ((y1_0.take (wrap64 ((wrap64 (x1_1 + 4)) + t1018_1) : Int).toNat).drop (wrap64 (x1_1 + 4) : Int).toNat)⟩ : S26)] : List S26).length) C1034), (67, .slice A1034 ((y1_6 ++ [(⟨t1014_1, strOfNums ((y1_0.take (wrap64 ((wrap64 (x1_1 + 4)) + t1018_1) : Int).toNat).drop (wrap64 (x1_1 + 4) : Int).toNat)⟩ : S26)] : List S26).length) C1034), (9, .int .i64 t1018_1), (0, .slice AL1_0 y1_0.length CL1_0), (1, .int .i64 x1_1)]) (I := fun x => Below w.heap.size w x ∧ Below w1033.heap.size w1033 x ∧ Below w1036.heap.size w1036 x) (ps := [VI x1_1, VI (wrap64 (x1_1 + 4)), VI t1018_1, VI (wrap64 ((wrap64 (x1_1 + 4)) + t1018_1))]) (by kernel_rfl) ?_ ?_ rfl hS ⟨hBw1036_w, hBw1036_w1033, hBw1036_w1036⟩ ?_ ?_
  · exact fun x y hI hb => ⟨below_step hI.1 hb, below_step hI.2.1 hb, below_step hI.2.2 hb⟩
  · exact .v (.v (.v (.v (.nil))))
  · refine .ms 4 rfl rfl rfl ?_
    refine .on rfl (fun a w hS hI hp => does_val (x_bin rfl (hp.V 0 rfl rfl) (rfl) (b_add _ _ _ _ _)) rfl) ?_
    refine .ms 2 rfl rfl rfl ?_
    refine .on rfl (fun a w hS hI hp => does_val (x_bin rfl (hp.V 1 rfl rfl) (hp.V 2 rfl rfl) (b_add _ _ _ _ _)) rfl) ?_
    exact .nil
  clear hS
  intro at1038 w1039 hS hI hp
  have hBw1039_w := hI.1
  have hBw1039_w1033 := hI.2.1
  have hBw1039_w1036 := hI.2.2
  replace hS := (((hS.nil).cons (hS.get 4 rfl)).cons (hS.get 3 rfl)).cons (hS.get 0 rfl)
  have hv71 : sl _ 71 = .int .i64 (wrap64 ((wrap64 (x1_1 + 4)) + t1018_1)) := hp 3 (by decide)
  have hBw1039_w1039 := Below.refl w1039.heap.size w1039
  have hS := hS.cons hv71
  clear hp hI hv71
  show wpList _ _ _ [_] _ _
  refine list_step rfl (R := fun v w' => Below _ _ w' ∧ (VI (wrap64 ((wrap64 (x1_1 + 4)) + t1018_1))) v w') (does_val (x_assign rfl (hS.get 0 rfl)) rfl) ?_
  rintro vw1040 w1040 ⟨hb, he⟩
  have hBw1040_w := below_step hBw1039_w hb
  have hBw1040_w1033 := below_step hBw1039_w1033 hb
  have hBw1040_w1039 := below_step hBw1039_w1039 hb
  have hBw1040_w1040 := Below.refl w1040.heap.size w1040
  obtain rfl : vw1040 = .int .i64 (wrap64 ((wrap64 (x1_1 + 4)) + t1018_1)) := he
  replace hS := (((hS.nil).cons (hS.get 2 rfl)).cons (hS.get 1 rfl)).cons (hS.get 0 rfl)
  refine hS.next (v := .int .i64 (wrap64 ((wrap64 (x1_1 + 4)) + t1018_1))) (d := 1) rfl (by decide) (by rfl) ?_
  clear hS
  intro at1041 hS
  refine wpList_nil ?_
  replace hS := (((hS.nil).cons (hS.get 2 rfl)).cons (hS.get 0 rfl)).cons (hS.get 3 rfl)
  (try simp only [Exit.then, Exit.inBlock])
  exact ⟨n1, Nat.lt_succ_self _, y1_0, AL1_0, CL1_0, wrap64 ((wrap64 (x1_1 + 4)) + t1018_1), (y1_6 ++ [(⟨t1014_1, strOfNums ((y1_0.take (wrap64 ((wrap64 (x1_1 + 4)) + t1018_1) : Int).toNat).drop (wrap64 (x1_1 + 4) : Int).toNat)⟩ : S26)] : List S26), A1034, C1034, H, hS, hBw1040_w, hr1_0, (hcL1_0), hl1034, (Kd.R_lower (Kd.R_below hr1034 hBw1040_w1033) (Nat.le_refl _))⟩
end Go.Proofs.Ytgmiokocipmbaaa.P
